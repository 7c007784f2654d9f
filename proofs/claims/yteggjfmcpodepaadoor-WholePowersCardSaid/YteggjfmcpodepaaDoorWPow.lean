/- The walk of whole.Pow. -/
import Derived.Test.YteggjfmcpodepaaDoorBigI
namespace Go.Proofs.YteggjfmcpodepaaDoor
open Go.RowKit
set_option maxRecDepth 100000
theorem retErr_zero {W w' : World} {f : Int} (hb : Below W.heap.size W w') : RetBigErr W 0 f (.returned (.tuple #[.agg #[.bool false, .slice none 0 0], .int .i64 f])) w' :=
  ⟨none, 0, by rw [limbs_zero]; rfl, by rw [limbs_zero]; exact Own.nil _ _, hb⟩
theorem own_apart {w : World} {base c g : Nat} {A : Option Addr} {xs : List Nat} {t : TypeId} {cs : Array Value} (h : Own w base A c xs) (hb : Blk w g t cs) (ht : 63 ≠ t) : Apart (Value.slice A xs.length c).ownBlock (some g) :=
  fun k e f => own_blk_ne h.1 hb ht (e.trans f.symm)
theorem Per.ownN {l : List (Option Nat)} {w : World} {base c : Nat} {A : Option Addr} {xs : List Nat} (h : Own w base A c xs) (hn : NotIn (Value.slice A xs.length c).ownBlock l) : Per (Mut l) w (fun b => Own b base A c xs) :=
  fun _ hb => ⟨owns_extN h.1 hb hn, h.2⟩
theorem Per.ownX {X : Nat → Prop} {w : World} {base c : Nat} {A : Option Addr} {xs : List Nat} (h : Own w base A c xs) (hx : ∀ k, X k → k < base) : Per X w (fun b => Own b base A c xs) := fun b hb => by
  have hb' : Ext (Mut [none]) w b ∨ True := Or.inr trivial
  refine ⟨?_, h.2⟩
  refine ⟨h.1.1, ?_⟩
  rcases h.1.2 with h2 | ⟨g, cap, cur, hv, hg, hh, r⟩
  · exact Or.inl h2
  · exact Or.inr ⟨g, cap, cur, hv, hg, (hb.block g (Array.getElem?_eq_some_iff.1 hh).1 (fun e => by have := hx g e; omega)).trans hh, r⟩
theorem cellAt_lt {w : World} {b o : Nat} {v : Value} (h : w.cell? ⟨b, o, none⟩ = some v) : b < w.heap.size := by
  unfold World.cell? at h
  simp only [] at h
  split at h
  · rename_i c t fr hh; exact (Array.getElem?_eq_some_iff.1 hh).1
  · cases h
theorem Per.cell0 {w : World} {g o : Nat} {v : Value} (h : w.cell? ⟨g, o, none⟩ = some v) : Per No w (fun b => b.cell? ⟨g, o, none⟩ = some v) := fun b hb => by
  have hlt : g < w.heap.size := cellAt_lt h
  show b.cell? ⟨g, o, none⟩ = some v
  rw [hb.cell (p := ⟨g, o, none⟩) hlt (fun e => e.elim)]; exact h
section
variable (n1 n2 : Bool) (A B : Option Addr) (c d : Nat) (xs ys : List Nat) (w : World)
theorem pow_bad1 (hx : Nums w A xs) (hl : xs.length ≤ 9223372036854775807) (hg : goodB n1 xs = false) :
    Calls Tryd.prog 38 #[.agg #[.bool n1, .slice A xs.length c], .agg #[.bool n2, .slice B ys.length d]] w (RetBigErr w 0 3) := by
  have hgood := fun w hx => good_any n1 c w A xs hl hx
  rw [hg] at hgood
  refine calls_cw Tryd.func38 rfl Tryd.ntmps38 rfl ?_
  have HF : Per No w (fun _ => True) := Per.true_
  have LW := Ext.refl (No) w
  have XLW : ∀ k, (No) k → (No) k ∨ w.heap.size ≤ k := fun _ h => Or.inl h
  have E := Ext.refl No w
  replace HF := HF.on E
  replace LW := LW.step E XLW
  replace E := Ext.refl (No) w
  replace HF := HF.and (Per.nums0 hx)
  refine cw_seq ?_
  refine cw_region ?_
  refine rs_op rfl (ow_boxB rfl ?_)
  intro gb1 w2 Bb1 Eb1 Gb1
  have Gb1 : _ ≤ gb1 := Nat.le_trans E.size Gb1
  have GLb1 := Nat.le_trans LW.size Gb1
  replace E := E.trans Eb1.no
  clear Eb1
  replace HF := HF.cons (some_ge Gb1)
  replace E := E.cons (some gb1)
  replace XLW := Mut.grow XLW (fun k e => Or.inr (Nat.le_trans LW.size ((some_ge Gb1) k e)))
  replace HF := HF.on E
  replace LW := LW.step E XLW
  have SB : ∀ k, No k → Mut [(some gb1)] k := (Mut.skip Mut.nil_)
  replace HF := HF.less SB
  replace XLW := fun k h => XLW k (SB k h)
  clear SB
  replace E := Ext.refl (No) w2
  replace HF := HF.and (Per.blkN Bb1 NotIn.nil)
  clear Bb1
  refine rs_op rfl (ow_boxB rfl ?_)
  intro gb3 w4 Bb3 Eb3 Gb3
  have Gb3 : _ ≤ gb3 := Nat.le_trans E.size Gb3
  have GLb3 := Nat.le_trans LW.size Gb3
  replace E := E.trans Eb3.no
  clear Eb3
  replace HF := HF.cons (some_ge Gb3)
  replace E := E.cons (some gb3)
  replace XLW := Mut.grow XLW (fun k e => Or.inr (Nat.le_trans LW.size ((some_ge Gb3) k e)))
  replace HF := HF.on E
  replace LW := LW.step E XLW
  have SB : ∀ k, No k → Mut [(some gb3)] k := (Mut.skip Mut.nil_)
  replace HF := HF.less SB
  replace XLW := fun k h => XLW k (SB k h)
  clear SB
  replace E := Ext.refl (No) w4
  replace HF := HF.and (Per.blkN Bb3 NotIn.nil)
  clear Bb3
  refine rs_op rfl (ow_allocB zr24 ?_)
  intro gb5 w6 Bb5 Eb5 Gb5
  have Gb5 : _ ≤ gb5 := Nat.le_trans E.size Gb5
  have GLb5 := Nat.le_trans LW.size Gb5
  replace E := E.trans Eb5.no
  clear Eb5
  replace HF := HF.cons (some_ge Gb5)
  replace E := E.cons (some gb5)
  replace XLW := Mut.grow XLW (fun k e => Or.inr (Nat.le_trans LW.size ((some_ge Gb5) k e)))
  refine rs_op rfl (ow_assign rfl ?_)
  refine rs_nil ?_
  refine ew_next ?_
  refine cw_seq ?_
  refine cw_seq ?_
  refine cw_region ?_
  refine rs_op rfl (ow_loadB Tryd.underlying24 rfl sz24 rfl (HF.on E).here.1.2 rfl ?_)
  refine rs_op rfl (ow_enter en19 rfl ((hgood _ (HF.on E).here.1.1.2).mono ?_))
  rintro e w7 ⟨rfl, hb⟩
  refine ⟨_, rfl, ?_⟩
  have XC : ∀ k, (Mut [(some gb5)]) k → k < w6.heap.size := (Mut.grow Mut.none_ (some_lt Bb5.lt))
  have SC := Nat.le_trans LW.size E.size
  have Ec := Ext.of_below hb No
  replace Bb5 := Bb5.extN Ec NotIn.nil
  replace E := E.trans Ec.no
  clear hb Ec
  refine rs_op rfl (ow_not rfl ?_)
  refine rs_op rfl (ow_move rfl ?_)
  refine rs_op rfl (ow_off rfl ?_)
  refine rs_op rfl (ow_off rfl ?_)
  refine rs_op rfl (ow_off rfl ?_)
  refine rs_op rfl (ow_pickT rfl rfl ?_)
  refine rs_nil ?_
  refine ew_next ?_
  refine cw_then rfl ?_
  refine cw_seq ?_
  refine cw_region ?_
  refine rs_op rfl (ow_build (cs := #[.bool false, .slice none 0 0]) pl24 zr24 rfl rfl ?_)
  refine rs_op0 (ow_storeM sz24 rfl rfl Bb5 rfl rfl (Nat.le_of_ble_eq_true rfl) ?_)
  intro w8 Bx Eb5
  replace Bb5 := Bx
  clear Bx
  replace E := E.step1 Eb5 Mut.head
  clear Eb5
  refine rs_op rfl (ow_assign rfl ?_)
  refine rs_nil ?_
  refine ew_next ?_
  refine cw_ret ?_
  refine ew_then_ret ?_
  refine ew_ret (rs := [.cell 4 24, .tmp 5]) (vs := [_, _]) rfl ⟨⟨_, rfl, res_box Tryd.underlying24 rfl sz24 Bb5 rfl⟩, rfl, trivial⟩ ?_
  exact retErr_zero (LW.step E XLW).toBelow
theorem pow_bad2 (hx : Nums w A xs) (hy : Nums w B ys) (hl : xs.length ≤ 9223372036854775807) (hl' : ys.length ≤ 9223372036854775807) (hg : goodB n1 xs = true) (hk : goodB n2 ys = false) :
    Calls Tryd.prog 38 #[.agg #[.bool n1, .slice A xs.length c], .agg #[.bool n2, .slice B ys.length d]] w (RetBigErr w 0 3) := by
  have hgood := fun w hx => good_any n1 c w A xs hl hx
  have hgood2 := fun w hx => good_any n2 d w B ys hl' hx
  rw [hg] at hgood
  rw [hk] at hgood2
  refine calls_cw Tryd.func38 rfl Tryd.ntmps38 rfl ?_
  have HF : Per No w (fun _ => True) := Per.true_
  have LW := Ext.refl (No) w
  have XLW : ∀ k, (No) k → (No) k ∨ w.heap.size ≤ k := fun _ h => Or.inl h
  have E := Ext.refl No w
  replace HF := HF.on E
  replace LW := LW.step E XLW
  replace E := Ext.refl (No) w
  replace HF := HF.and (Per.nums0 hx)
  replace HF := HF.on E
  replace LW := LW.step E XLW
  replace E := Ext.refl (No) w
  replace HF := HF.and (Per.nums0 hy)
  refine cw_seq ?_
  refine cw_region ?_
  refine rs_op rfl (ow_boxB rfl ?_)
  intro gb1 w2 Bb1 Eb1 Gb1
  have Gb1 : _ ≤ gb1 := Nat.le_trans E.size Gb1
  have GLb1 := Nat.le_trans LW.size Gb1
  replace E := E.trans Eb1.no
  clear Eb1
  replace HF := HF.cons (some_ge Gb1)
  replace E := E.cons (some gb1)
  replace XLW := Mut.grow XLW (fun k e => Or.inr (Nat.le_trans LW.size ((some_ge Gb1) k e)))
  replace HF := HF.on E
  replace LW := LW.step E XLW
  have SB : ∀ k, No k → Mut [(some gb1)] k := (Mut.skip Mut.nil_)
  replace HF := HF.less SB
  replace XLW := fun k h => XLW k (SB k h)
  clear SB
  replace E := Ext.refl (No) w2
  replace HF := HF.and (Per.blkN Bb1 NotIn.nil)
  clear Bb1
  refine rs_op rfl (ow_boxB rfl ?_)
  intro gb3 w4 Bb3 Eb3 Gb3
  have Gb3 : _ ≤ gb3 := Nat.le_trans E.size Gb3
  have GLb3 := Nat.le_trans LW.size Gb3
  replace E := E.trans Eb3.no
  clear Eb3
  replace HF := HF.cons (some_ge Gb3)
  replace E := E.cons (some gb3)
  replace XLW := Mut.grow XLW (fun k e => Or.inr (Nat.le_trans LW.size ((some_ge Gb3) k e)))
  replace HF := HF.on E
  replace LW := LW.step E XLW
  have SB : ∀ k, No k → Mut [(some gb3)] k := (Mut.skip Mut.nil_)
  replace HF := HF.less SB
  replace XLW := fun k h => XLW k (SB k h)
  clear SB
  replace E := Ext.refl (No) w4
  replace HF := HF.and (Per.blkN Bb3 NotIn.nil)
  clear Bb3
  refine rs_op rfl (ow_allocB zr24 ?_)
  intro gb5 w6 Bb5 Eb5 Gb5
  have Gb5 : _ ≤ gb5 := Nat.le_trans E.size Gb5
  have GLb5 := Nat.le_trans LW.size Gb5
  replace E := E.trans Eb5.no
  clear Eb5
  replace HF := HF.cons (some_ge Gb5)
  replace E := E.cons (some gb5)
  replace XLW := Mut.grow XLW (fun k e => Or.inr (Nat.le_trans LW.size ((some_ge Gb5) k e)))
  refine rs_op rfl (ow_assign rfl ?_)
  refine rs_nil ?_
  refine ew_next ?_
  refine cw_seq ?_
  refine cw_seq ?_
  refine cw_region ?_
  refine rs_op rfl (ow_loadB Tryd.underlying24 rfl sz24 rfl (HF.on E).here.1.2 rfl ?_)
  refine rs_op rfl (ow_enter en19 rfl ((hgood _ (HF.on E).here.1.1.1.2).mono ?_))
  rintro e w7 ⟨rfl, hb⟩
  refine ⟨_, rfl, ?_⟩
  have XC : ∀ k, (Mut [(some gb5)]) k → k < w6.heap.size := (Mut.grow Mut.none_ (some_lt Bb5.lt))
  have SC := Nat.le_trans LW.size E.size
  have Ec := Ext.of_below hb No
  replace Bb5 := Bb5.extN Ec NotIn.nil
  replace E := E.trans Ec.no
  clear hb Ec
  refine rs_op rfl (ow_not rfl ?_)
  refine rs_op rfl (ow_move rfl ?_)
  refine rs_op rfl (ow_on rfl (ow_loadB Tryd.underlying24 rfl sz24 rfl (HF.on E).here.2 rfl ?_))
  refine rs_op rfl (ow_on rfl (ow_enter en19 rfl ((hgood2 _ (HF.on E).here.1.1.2).mono ?_)))
  rintro e w8 ⟨rfl, hb⟩
  refine ⟨_, rfl, ?_⟩
  have XC : ∀ k, (Mut [(some gb5)]) k → k < w7.heap.size := (Mut.grow Mut.none_ (some_lt Bb5.lt))
  have SC := Nat.le_trans LW.size E.size
  have Ec := Ext.of_below hb No
  replace Bb5 := Bb5.extN Ec NotIn.nil
  replace E := E.trans Ec.no
  clear hb Ec
  refine rs_op rfl (ow_on rfl (ow_not rfl ?_))
  refine rs_op rfl (ow_pickF rfl rfl ?_)
  refine rs_nil ?_
  refine ew_next ?_
  refine cw_then rfl ?_
  refine cw_seq ?_
  refine cw_region ?_
  refine rs_op rfl (ow_build (cs := #[.bool false, .slice none 0 0]) pl24 zr24 rfl rfl ?_)
  refine rs_op0 (ow_storeM sz24 rfl rfl Bb5 rfl rfl (Nat.le_of_ble_eq_true rfl) ?_)
  intro w9 Bx Eb5
  replace Bb5 := Bx
  clear Bx
  replace E := E.step1 Eb5 Mut.head
  clear Eb5
  refine rs_op rfl (ow_assign rfl ?_)
  refine rs_nil ?_
  refine ew_next ?_
  refine cw_ret ?_
  refine ew_then_ret ?_
  refine ew_ret (rs := [.cell 4 24, .tmp 5]) (vs := [_, _]) rfl ⟨⟨_, rfl, res_box Tryd.underlying24 rfl sz24 Bb5 rfl⟩, rfl, trivial⟩ ?_
  exact retErr_zero (LW.step E XLW).toBelow
end
section
variable (i j : Int) (A B : Option Addr) (c d : Nat) (w : World) (hi : i.natAbs < B18 ^ 30) (hj : j.natAbs < B18 ^ 30) (hx : Nums w A (limbs i)) (hy : Nums w B (limbs j))
include hi hj hx hy
theorem pow_neg (h0 : j < 0) : Calls Tryd.prog 38 #[.agg #[.bool (decide (i < 0)), .slice A (limbs i).length c], .agg #[.bool (decide (j < 0)), .slice B (limbs j).length d]] w (RetBigErr w 0 1) := by
  refine calls_cw Tryd.func38 rfl Tryd.ntmps38 rfl ?_
  have HF : Per No w (fun _ => True) := Per.true_
  have LW := Ext.refl (No) w
  have XLW : ∀ k, (No) k → (No) k ∨ w.heap.size ≤ k := fun _ h => Or.inl h
  have E := Ext.refl No w
  replace HF := HF.on E
  replace LW := LW.step E XLW
  replace E := Ext.refl (No) w
  replace HF := HF.and (Per.nums0 hx)
  replace HF := HF.on E
  replace LW := LW.step E XLW
  replace E := Ext.refl (No) w
  replace HF := HF.and (Per.nums0 hy)
  refine cw_seq ?_
  refine cw_region ?_
  refine rs_op rfl (ow_boxB rfl ?_)
  intro gb1 w2 Bb1 Eb1 Gb1
  have Gb1 : _ ≤ gb1 := Nat.le_trans E.size Gb1
  have GLb1 := Nat.le_trans LW.size Gb1
  replace E := E.trans Eb1.no
  clear Eb1
  replace HF := HF.cons (some_ge Gb1)
  replace E := E.cons (some gb1)
  replace XLW := Mut.grow XLW (fun k e => Or.inr (Nat.le_trans LW.size ((some_ge Gb1) k e)))
  replace HF := HF.on E
  replace LW := LW.step E XLW
  have SB : ∀ k, No k → Mut [(some gb1)] k := (Mut.skip Mut.nil_)
  replace HF := HF.less SB
  replace XLW := fun k h => XLW k (SB k h)
  clear SB
  replace E := Ext.refl (No) w2
  replace HF := HF.and (Per.blkN Bb1 NotIn.nil)
  clear Bb1
  refine rs_op rfl (ow_boxB rfl ?_)
  intro gb3 w4 Bb3 Eb3 Gb3
  have Gb3 : _ ≤ gb3 := Nat.le_trans E.size Gb3
  have GLb3 := Nat.le_trans LW.size Gb3
  replace E := E.trans Eb3.no
  clear Eb3
  replace HF := HF.cons (some_ge Gb3)
  replace E := E.cons (some gb3)
  replace XLW := Mut.grow XLW (fun k e => Or.inr (Nat.le_trans LW.size ((some_ge Gb3) k e)))
  replace HF := HF.on E
  replace LW := LW.step E XLW
  have SB : ∀ k, No k → Mut [(some gb3)] k := (Mut.skip Mut.nil_)
  replace HF := HF.less SB
  replace XLW := fun k h => XLW k (SB k h)
  clear SB
  replace E := Ext.refl (No) w4
  replace HF := HF.and (Per.blkN Bb3 NotIn.nil)
  clear Bb3
  refine rs_op rfl (ow_allocB zr24 ?_)
  intro gb5 w6 Bb5 Eb5 Gb5
  have Gb5 : _ ≤ gb5 := Nat.le_trans E.size Gb5
  have GLb5 := Nat.le_trans LW.size Gb5
  replace E := E.trans Eb5.no
  clear Eb5
  replace HF := HF.cons (some_ge Gb5)
  replace E := E.cons (some gb5)
  replace XLW := Mut.grow XLW (fun k e => Or.inr (Nat.le_trans LW.size ((some_ge Gb5) k e)))
  refine rs_op rfl (ow_assign rfl ?_)
  refine rs_nil ?_
  refine ew_next ?_
  refine cw_seq ?_
  refine cw_seq ?_
  refine cw_region ?_
  refine rs_op rfl (ow_loadB Tryd.underlying24 rfl sz24 rfl (HF.on E).here.1.2 rfl ?_)
  refine rs_op rfl (ow_enter en19 rfl ((goodI A c _ hi (HF.on E).here.1.1.1.2).mono ?_))
  rintro e w7 ⟨rfl, hb⟩
  refine ⟨_, rfl, ?_⟩
  have XC : ∀ k, (Mut [(some gb5)]) k → k < w6.heap.size := (Mut.grow Mut.none_ (some_lt Bb5.lt))
  have SC := Nat.le_trans LW.size E.size
  have Ec := Ext.of_below hb No
  replace Bb5 := Bb5.extN Ec NotIn.nil
  replace E := E.trans Ec.no
  clear hb Ec
  refine rs_op rfl (ow_not rfl ?_)
  refine rs_op rfl (ow_move rfl ?_)
  refine rs_op rfl (ow_on rfl (ow_loadB Tryd.underlying24 rfl sz24 rfl (HF.on E).here.2 rfl ?_))
  refine rs_op rfl (ow_on rfl (ow_enter en19 rfl ((goodI B d _ hj (HF.on E).here.1.1.2).mono ?_)))
  rintro e w8 ⟨rfl, hb⟩
  refine ⟨_, rfl, ?_⟩
  have XC : ∀ k, (Mut [(some gb5)]) k → k < w7.heap.size := (Mut.grow Mut.none_ (some_lt Bb5.lt))
  have SC := Nat.le_trans LW.size E.size
  have Ec := Ext.of_below hb No
  replace Bb5 := Bb5.extN Ec NotIn.nil
  replace E := E.trans Ec.no
  clear hb Ec
  refine rs_op rfl (ow_on rfl (ow_not rfl ?_))
  refine rs_op rfl (ow_pickF rfl rfl ?_)
  refine rs_nil ?_
  refine ew_next ?_
  refine cw_else rfl ?_
  refine cw_skip ?_
  refine ew_next ?_
  refine cw_seq ?_
  refine cw_seq ?_
  refine cw_region ?_
  refine rs_op rfl (ow_fieldAddr Tryd.underlying24 rfl sz4 (by decide) rfl ?_)
  refine rs_op rfl (ow_loadF Tryd.underlying4 rfl rfl (HF.on E).here.2 rfl ?_)
  refine rs_nil ?_
  refine ew_next ?_
  refine cw_set 19 (.bool true) rfl ((by rw [decide_eq_true h0] : (.bool (decide (j < 0)) : Value) = _)) ?_
  refine cw_then rfl ?_
  refine cw_seq ?_
  refine cw_region ?_
  refine rs_op rfl (ow_build (cs := #[.bool false, .slice none 0 0]) pl24 zr24 rfl rfl ?_)
  refine rs_op0 (ow_storeM sz24 rfl rfl Bb5 rfl rfl (Nat.le_of_ble_eq_true rfl) ?_)
  intro w9 Bx Eb5
  replace Bb5 := Bx
  clear Bx
  replace E := E.step1 Eb5 Mut.head
  clear Eb5
  refine rs_op rfl (ow_assign rfl ?_)
  refine rs_nil ?_
  refine ew_next ?_
  refine cw_ret ?_
  refine ew_then_ret ?_
  refine ew_ret (rs := [.cell 4 24, .tmp 5]) (vs := [_, _]) rfl ⟨⟨_, rfl, res_box Tryd.underlying24 rfl sz24 Bb5 rfl⟩, rfl, trivial⟩ ?_
  exact retErr_zero (LW.step E XLW).toBelow
theorem pow_zero (h0 : j = 0) : Calls Tryd.prog 38 #[.agg #[.bool (decide (i < 0)), .slice A (limbs i).length c], .agg #[.bool (decide (j < 0)), .slice B (limbs j).length d]] w (RetBigErr w 1 0) := by
  have hd : decide (j < 0) = false := by rw [h0]; rfl
  have hlen : (limbs j).length = 0 := by rw [h0, limbs_zero]; rfl
  refine calls_cw Tryd.func38 rfl Tryd.ntmps38 rfl ?_
  have HF : Per No w (fun _ => True) := Per.true_
  have LW := Ext.refl (No) w
  have XLW : ∀ k, (No) k → (No) k ∨ w.heap.size ≤ k := fun _ h => Or.inl h
  have E := Ext.refl No w
  replace HF := HF.on E
  replace LW := LW.step E XLW
  replace E := Ext.refl (No) w
  replace HF := HF.and (Per.nums0 hx)
  replace HF := HF.on E
  replace LW := LW.step E XLW
  replace E := Ext.refl (No) w
  replace HF := HF.and (Per.nums0 hy)
  refine cw_seq ?_
  refine cw_region ?_
  refine rs_op rfl (ow_boxB rfl ?_)
  intro gb1 w2 Bb1 Eb1 Gb1
  have Gb1 : _ ≤ gb1 := Nat.le_trans E.size Gb1
  have GLb1 := Nat.le_trans LW.size Gb1
  replace E := E.trans Eb1.no
  clear Eb1
  replace HF := HF.cons (some_ge Gb1)
  replace E := E.cons (some gb1)
  replace XLW := Mut.grow XLW (fun k e => Or.inr (Nat.le_trans LW.size ((some_ge Gb1) k e)))
  replace HF := HF.on E
  replace LW := LW.step E XLW
  have SB : ∀ k, No k → Mut [(some gb1)] k := (Mut.skip Mut.nil_)
  replace HF := HF.less SB
  replace XLW := fun k h => XLW k (SB k h)
  clear SB
  replace E := Ext.refl (No) w2
  replace HF := HF.and (Per.blkN Bb1 NotIn.nil)
  clear Bb1
  refine rs_op rfl (ow_boxB rfl ?_)
  intro gb3 w4 Bb3 Eb3 Gb3
  have Gb3 : _ ≤ gb3 := Nat.le_trans E.size Gb3
  have GLb3 := Nat.le_trans LW.size Gb3
  replace E := E.trans Eb3.no
  clear Eb3
  replace HF := HF.cons (some_ge Gb3)
  replace E := E.cons (some gb3)
  replace XLW := Mut.grow XLW (fun k e => Or.inr (Nat.le_trans LW.size ((some_ge Gb3) k e)))
  replace HF := HF.on E
  replace LW := LW.step E XLW
  have SB : ∀ k, No k → Mut [(some gb3)] k := (Mut.skip Mut.nil_)
  replace HF := HF.less SB
  replace XLW := fun k h => XLW k (SB k h)
  clear SB
  replace E := Ext.refl (No) w4
  replace HF := HF.and (Per.blkN Bb3 NotIn.nil)
  clear Bb3
  refine rs_op rfl (ow_allocB zr24 ?_)
  intro gb5 w6 Bb5 Eb5 Gb5
  have Gb5 : _ ≤ gb5 := Nat.le_trans E.size Gb5
  have GLb5 := Nat.le_trans LW.size Gb5
  replace E := E.trans Eb5.no
  clear Eb5
  replace HF := HF.cons (some_ge Gb5)
  replace E := E.cons (some gb5)
  replace XLW := Mut.grow XLW (fun k e => Or.inr (Nat.le_trans LW.size ((some_ge Gb5) k e)))
  refine rs_op rfl (ow_assign rfl ?_)
  refine rs_nil ?_
  refine ew_next ?_
  refine cw_seq ?_
  refine cw_seq ?_
  refine cw_region ?_
  refine rs_op rfl (ow_loadB Tryd.underlying24 rfl sz24 rfl (HF.on E).here.1.2 rfl ?_)
  refine rs_op rfl (ow_enter en19 rfl ((goodI A c _ hi (HF.on E).here.1.1.1.2).mono ?_))
  rintro e w7 ⟨rfl, hb⟩
  refine ⟨_, rfl, ?_⟩
  have XC : ∀ k, (Mut [(some gb5)]) k → k < w6.heap.size := (Mut.grow Mut.none_ (some_lt Bb5.lt))
  have SC := Nat.le_trans LW.size E.size
  have Ec := Ext.of_below hb No
  replace Bb5 := Bb5.extN Ec NotIn.nil
  replace E := E.trans Ec.no
  clear hb Ec
  refine rs_op rfl (ow_not rfl ?_)
  refine rs_op rfl (ow_move rfl ?_)
  refine rs_op rfl (ow_on rfl (ow_loadB Tryd.underlying24 rfl sz24 rfl (HF.on E).here.2 rfl ?_))
  refine rs_op rfl (ow_on rfl (ow_enter en19 rfl ((goodI B d _ hj (HF.on E).here.1.1.2).mono ?_)))
  rintro e w8 ⟨rfl, hb⟩
  refine ⟨_, rfl, ?_⟩
  have XC : ∀ k, (Mut [(some gb5)]) k → k < w7.heap.size := (Mut.grow Mut.none_ (some_lt Bb5.lt))
  have SC := Nat.le_trans LW.size E.size
  have Ec := Ext.of_below hb No
  replace Bb5 := Bb5.extN Ec NotIn.nil
  replace E := E.trans Ec.no
  clear hb Ec
  refine rs_op rfl (ow_on rfl (ow_not rfl ?_))
  refine rs_op rfl (ow_pickF rfl rfl ?_)
  refine rs_nil ?_
  refine ew_next ?_
  refine cw_else rfl ?_
  refine cw_skip ?_
  refine ew_next ?_
  refine cw_seq ?_
  refine cw_seq ?_
  refine cw_region ?_
  refine rs_op rfl (ow_fieldAddr Tryd.underlying24 rfl sz4 (by decide) rfl ?_)
  refine rs_op rfl (ow_loadF Tryd.underlying4 rfl rfl (HF.on E).here.2 rfl ?_)
  refine rs_nil ?_
  refine ew_next ?_
  refine cw_set 19 (.bool false) rfl ((by rw [hd] : (.bool (decide (j < 0)) : Value) = _)) ?_
  refine cw_else rfl ?_
  refine cw_skip ?_
  refine ew_next ?_
  refine cw_seq ?_
  refine cw_region ?_
  refine rs_op rfl (ow_enter en22 rfl ((of_any 1 _ (by decide) (by decide)).mono ?_))
  rintro e w9 ⟨A1, c1, rfl, o1, hb⟩
  refine ⟨_, rfl, ?_⟩
  have XC : ∀ k, (Mut [(some gb5)]) k → k < w8.heap.size := (Mut.grow Mut.none_ (some_lt Bb5.lt))
  have SC := Nat.le_trans LW.size E.size
  have Ec := Ext.of_below hb No
  replace Bb5 := Bb5.extN Ec NotIn.nil
  replace E := E.trans Ec.no
  clear hb Ec
  have S1 := SC
  replace HF := HF.on E
  replace LW := LW.step E XLW
  replace E := Ext.refl (Mut [(some gb5)]) w9
  replace HF := HF.and (Per.ownX o1 XC)
  refine rs_op rfl (ow_allocB zr24 ?_)
  intro gb10 w11 Bb10 Eb10 Gb10
  have Db10_b5 : Apart (some gb10) (some gb5) := Apart.of_lt (some_lt Bb5.lt) Gb10
  have Db5_b10 := Db10_b5.symm
  have Gb10 : _ ≤ gb10 := Nat.le_trans E.size Gb10
  have GLb10 := Nat.le_trans LW.size Gb10
  replace Bb5 := Bb5.extN Eb10 NotIn.nil
  replace E := E.trans Eb10.no
  clear Eb10
  replace HF := HF.cons (some_ge Gb10)
  replace E := E.cons (some gb10)
  replace XLW := Mut.grow XLW (fun k e => Or.inr (Nat.le_trans LW.size ((some_ge Gb10) k e)))
  refine rs_op0 (ow_storeM sz24 rfl rfl Bb10 rfl rfl (Nat.le_of_ble_eq_true rfl) ?_)
  intro w12 Bx Eb10
  replace Bb10 := Bx
  clear Bx
  replace Bb5 := Bb5.extN Eb10 (NotIn.cons Db5_b10 NotIn.nil)
  replace E := E.step1 Eb10 Mut.head
  clear Eb10
  refine rs_nil ?_
  refine ew_next ?_
  refine cw_seq ?_
  refine cw_seq ?_
  refine cw_region ?_
  refine rs_op rfl (ow_fieldAddr Tryd.underlying24 rfl sz22 (by decide) rfl ?_)
  refine rs_op rfl (ow_loadF Tryd.underlying22 rfl rfl (HF.on E).here.1.2 rfl ?_)
  refine rs_op rfl (ow_len Tryd.underlying22 rfl ?_)
  refine rs_op rfl (ow_eql rfl rfl ?_)
  refine rs_nil ?_
  refine ew_next ?_
  refine cw_set 25 (.bool true) rfl ((by rw [hlen]; rfl : (.bool (((((limbs j).length : Nat)) : Int) == 0) : Value) = _)) ?_
  refine cw_then rfl ?_
  refine cw_seq ?_
  refine cw_region ?_
  refine rs_op rfl (ow_loadB Tryd.underlying24 rfl sz24 rfl Bb10 rfl ?_)
  refine rs_op0 (ow_storeM sz24 rfl rfl Bb5 rfl rfl (Nat.le_of_ble_eq_true rfl) ?_)
  intro w13 Bx Eb5
  replace Bb5 := Bx
  clear Bx
  replace Bb10 := Bb10.extN Eb5 (NotIn.cons Db10_b5 NotIn.nil)
  replace E := E.step1 Eb5 (Mut.tail Mut.head)
  clear Eb5
  refine rs_op rfl (ow_assign rfl ?_)
  refine rs_nil ?_
  refine ew_next ?_
  refine cw_ret ?_
  refine ew_then_ret ?_
  refine ew_ret (rs := [.cell 4 24, .tmp 5]) (vs := [_, _]) rfl ⟨⟨_, rfl, res_box Tryd.underlying24 rfl sz24 Bb5 rfl⟩, rfl, trivial⟩ ?_
  exact ⟨A1, c1, rfl, ((HF.on E).here.2).mono S1, (LW.step E XLW).toBelow⟩
end
/-! ### what stands in the limbs -/
theorem nth_lim0 {j : Int} (h0 : j ≠ 0) : nth (limbs j) 0 = ((j.natAbs % B18 : Nat) : Int) := by
  unfold nth
  rw [limbs_eq, digs_step B18_two (by omega)]
  rfl
theorem lim_len1 {j : Int} (h0 : j ≠ 0) (h : j.natAbs < B18) : (limbs j).length = 1 := by
  rw [limbs_eq, digs_step B18_two (by omega), Nat.div_eq_of_lt h]; rfl
theorem lim_len2 {j : Int} (h : B18 ≤ j.natAbs) : 1 < (limbs j).length := by
  rcases Nat.lt_or_ge 1 (limbs j).length with h1 | h1
  · exact h1
  · have := (digs_length_le B18_two j.natAbs 1).1 (by rw [← limbs_eq]; exact h1)
    rw [Nat.pow_one] at this
    omega
theorem lim_pos {j : Int} (h0 : j ≠ 0) : 0 < (limbs j).length := by rw [limbs_eq]; exact digs_pos B18_two (by omega)
theorem pow_abs (i : Int) (n : Nat) : (i ^ n).natAbs = i.natAbs ^ n := Int.natAbs_pow i n
theorem pow_one_abs {i : Int} (h : i.natAbs = 1) (n : Nat) : i ^ n = if decide (i < 0) && decide (n % 2 = 1) then -1 else 1 := by
  rcases (by omega : i = 1 ∨ i = -1) with rfl | rfl
  · rw [Int.one_pow]; simp
  · have key : ∀ n : Nat, ((-1 : Int)) ^ n = if n % 2 = 1 then -1 else 1 := by
      intro n
      induction n with
      | zero => rfl
      | succ n ih => rw [Int.pow_succ, ih]; split <;> split <;> omega
    rw [key]; simp
theorem two_big {n : Nat} (hn : 1800 ≤ n) : B18 ^ 30 ≤ 2 ^ n := by
  have h1 : ∀ a b, a = 200 → b = 9 → B18 ^ 30 ≤ (2 ^ a) ^ b := by rintro _ _ rfl rfl; unfold B18; decide +kernel
  obtain ⟨a, b, ha, hb, hab⟩ : ∃ a b, a = 200 ∧ b = 9 ∧ a * b ≤ n := ⟨200, 9, rfl, rfl, hn⟩
  have h2 := h1 a b ha hb
  rw [← Nat.pow_mul] at h2
  exact Nat.le_trans h2 (Nat.pow_le_pow_right (by decide) hab)
theorem pow_range {i : Int} (h : 2 ≤ i.natAbs) {n : Nat} (hn : 1800 ≤ n) : B18 ^ 30 ≤ (i ^ n).natAbs := by
  rw [pow_abs]
  exact Nat.le_trans (two_big hn) (Nat.pow_le_pow_left h n)
theorem pow_mono {i : Int} (h : 1 ≤ i.natAbs) {k n : Nat} (hk : k ≤ n) : (i ^ k).natAbs ≤ (i ^ n).natAbs := by
  rw [pow_abs, pow_abs]; exact Nat.pow_le_pow_right h hk
theorem unit_val {i : Int} (hi1 : i.natAbs = 1) (n : Nat) (b : Bool) (hb : b = (decide (i < 0) && decide (n % 2 = 1))) : sgn b (val B18 (limbs i)) = i ^ n := by
  have hli : limbs i = [1] := by rw [limbs_eq, hi1]; rfl
  rw [pow_one_abs hi1, hli, ← hb]
  cases b <;> rfl
theorem unit_par {j : Int} (h0 : 0 < j) : (((j.natAbs % B18 : Nat) : Int).tmod 2 == 1) = decide (j.toNat % 2 = 1) := by
  have hpar : ((j.natAbs % B18 : Nat) : Int).tmod 2 = ((j.toNat % 2 : Nat) : Int) := by
    rw [Int.tmod_eq_emod_of_nonneg (by omega)]
    have e1 : (j.natAbs % B18) % 2 = j.natAbs % 2 := Nat.mod_mod_of_dvd _ (by unfold B18; decide)
    have e2 : j.natAbs = j.toNat := by omega
    rw [← e2, ← e1]
    omega
  rw [hpar, Bool.eq_iff_iff]
  simp
  omega
section
variable (i j : Int) (A B : Option Addr) (c d : Nat) (w : World) (hi : i.natAbs < B18 ^ 30) (hj : j.natAbs < B18 ^ 30) (hx : Nums w A (limbs i)) (hy : Nums w B (limbs j))
include hi hj hx hy
theorem pow_nought (h0 : 0 < j) (hi0 : i = 0) : Calls Tryd.prog 38 #[.agg #[.bool (decide (i < 0)), .slice A (limbs i).length c], .agg #[.bool (decide (j < 0)), .slice B (limbs j).length d]] w (RetBigErr w 0 0) := by
  have hd : decide (j < 0) = false := decide_eq_false (by omega)
  have hlen : ((limbs j).length : Int) ≠ 0 := by have := lim_pos (j := j) (by omega); omega
  have hdi : decide (i < 0) = false := by rw [hi0]; rfl
  have hli : limbs i = [] := by rw [hi0, limbs_zero]
  have hlz : ((limbs i).length : Int) = 0 := by rw [hli]; rfl
  refine calls_cw Tryd.func38 rfl Tryd.ntmps38 rfl ?_
  have HF : Per No w (fun _ => True) := Per.true_
  have LW := Ext.refl (No) w
  have XLW : ∀ k, (No) k → (No) k ∨ w.heap.size ≤ k := fun _ h => Or.inl h
  have E := Ext.refl No w
  replace HF := HF.on E
  replace LW := LW.step E XLW
  replace E := Ext.refl (No) w
  replace HF := HF.and (Per.nums0 hx)
  replace HF := HF.on E
  replace LW := LW.step E XLW
  replace E := Ext.refl (No) w
  replace HF := HF.and (Per.nums0 hy)
  refine cw_seq ?_
  refine cw_region ?_
  refine rs_op rfl (ow_boxB rfl ?_)
  intro gb1 w2 Bb1 Eb1 Gb1
  have Gb1 : _ ≤ gb1 := Nat.le_trans E.size Gb1
  have GLb1 := Nat.le_trans LW.size Gb1
  replace E := E.trans Eb1.no
  clear Eb1
  replace HF := HF.cons (some_ge Gb1)
  replace E := E.cons (some gb1)
  replace XLW := Mut.grow XLW (fun k e => Or.inr (Nat.le_trans LW.size ((some_ge Gb1) k e)))
  replace HF := HF.on E
  replace LW := LW.step E XLW
  have SB : ∀ k, No k → Mut [(some gb1)] k := (Mut.skip Mut.nil_)
  replace HF := HF.less SB
  replace XLW := fun k h => XLW k (SB k h)
  clear SB
  replace E := Ext.refl (No) w2
  replace HF := HF.and (Per.blkN Bb1 NotIn.nil)
  clear Bb1
  refine rs_op rfl (ow_boxB rfl ?_)
  intro gb3 w4 Bb3 Eb3 Gb3
  have Gb3 : _ ≤ gb3 := Nat.le_trans E.size Gb3
  have GLb3 := Nat.le_trans LW.size Gb3
  replace E := E.trans Eb3.no
  clear Eb3
  replace HF := HF.cons (some_ge Gb3)
  replace E := E.cons (some gb3)
  replace XLW := Mut.grow XLW (fun k e => Or.inr (Nat.le_trans LW.size ((some_ge Gb3) k e)))
  replace HF := HF.on E
  replace LW := LW.step E XLW
  have SB : ∀ k, No k → Mut [(some gb3)] k := (Mut.skip Mut.nil_)
  replace HF := HF.less SB
  replace XLW := fun k h => XLW k (SB k h)
  clear SB
  replace E := Ext.refl (No) w4
  replace HF := HF.and (Per.blkN Bb3 NotIn.nil)
  clear Bb3
  refine rs_op rfl (ow_allocB zr24 ?_)
  intro gb5 w6 Bb5 Eb5 Gb5
  have Gb5 : _ ≤ gb5 := Nat.le_trans E.size Gb5
  have GLb5 := Nat.le_trans LW.size Gb5
  replace E := E.trans Eb5.no
  clear Eb5
  replace HF := HF.cons (some_ge Gb5)
  replace E := E.cons (some gb5)
  replace XLW := Mut.grow XLW (fun k e => Or.inr (Nat.le_trans LW.size ((some_ge Gb5) k e)))
  refine rs_op rfl (ow_assign rfl ?_)
  refine rs_nil ?_
  refine ew_next ?_
  refine cw_seq ?_
  refine cw_seq ?_
  refine cw_region ?_
  refine rs_op rfl (ow_loadB Tryd.underlying24 rfl sz24 rfl (HF.on E).here.1.2 rfl ?_)
  refine rs_op rfl (ow_enter en19 rfl ((goodI A c _ hi (HF.on E).here.1.1.1.2).mono ?_))
  rintro e w7 ⟨rfl, hb⟩
  refine ⟨_, rfl, ?_⟩
  have XC : ∀ k, (Mut [(some gb5)]) k → k < w6.heap.size := (Mut.grow Mut.none_ (some_lt Bb5.lt))
  have SC := Nat.le_trans LW.size E.size
  have Ec := Ext.of_below hb No
  replace Bb5 := Bb5.extN Ec NotIn.nil
  replace E := E.trans Ec.no
  clear hb Ec
  refine rs_op rfl (ow_not rfl ?_)
  refine rs_op rfl (ow_move rfl ?_)
  refine rs_op rfl (ow_on rfl (ow_loadB Tryd.underlying24 rfl sz24 rfl (HF.on E).here.2 rfl ?_))
  refine rs_op rfl (ow_on rfl (ow_enter en19 rfl ((goodI B d _ hj (HF.on E).here.1.1.2).mono ?_)))
  rintro e w8 ⟨rfl, hb⟩
  refine ⟨_, rfl, ?_⟩
  have XC : ∀ k, (Mut [(some gb5)]) k → k < w7.heap.size := (Mut.grow Mut.none_ (some_lt Bb5.lt))
  have SC := Nat.le_trans LW.size E.size
  have Ec := Ext.of_below hb No
  replace Bb5 := Bb5.extN Ec NotIn.nil
  replace E := E.trans Ec.no
  clear hb Ec
  refine rs_op rfl (ow_on rfl (ow_not rfl ?_))
  refine rs_op rfl (ow_pickF rfl rfl ?_)
  refine rs_nil ?_
  refine ew_next ?_
  refine cw_else rfl ?_
  refine cw_skip ?_
  refine ew_next ?_
  refine cw_seq ?_
  refine cw_seq ?_
  refine cw_region ?_
  refine rs_op rfl (ow_fieldAddr Tryd.underlying24 rfl sz4 (by decide) rfl ?_)
  refine rs_op rfl (ow_loadF Tryd.underlying4 rfl rfl (HF.on E).here.2 rfl ?_)
  refine rs_nil ?_
  refine ew_next ?_
  refine cw_set 19 (.bool false) rfl ((by rw [hd] : (.bool (decide (j < 0)) : Value) = _)) ?_
  refine cw_else rfl ?_
  refine cw_skip ?_
  refine ew_next ?_
  refine cw_seq ?_
  refine cw_region ?_
  refine rs_op rfl (ow_enter en22 rfl ((of_any 1 _ (by decide) (by decide)).mono ?_))
  rintro e w9 ⟨A1, c1, rfl, o1, hb⟩
  refine ⟨_, rfl, ?_⟩
  have XC : ∀ k, (Mut [(some gb5)]) k → k < w8.heap.size := (Mut.grow Mut.none_ (some_lt Bb5.lt))
  have SC := Nat.le_trans LW.size E.size
  have Ec := Ext.of_below hb No
  replace Bb5 := Bb5.extN Ec NotIn.nil
  replace E := E.trans Ec.no
  clear hb Ec
  refine rs_op rfl (ow_allocB zr24 ?_)
  intro gb10 w11 Bb10 Eb10 Gb10
  have Db10_b5 : Apart (some gb10) (some gb5) := Apart.of_lt (some_lt Bb5.lt) Gb10
  have Db5_b10 := Db10_b5.symm
  have Gb10 : _ ≤ gb10 := Nat.le_trans E.size Gb10
  have GLb10 := Nat.le_trans LW.size Gb10
  replace Bb5 := Bb5.extN Eb10 NotIn.nil
  replace E := E.trans Eb10.no
  clear Eb10
  replace HF := HF.cons (some_ge Gb10)
  replace E := E.cons (some gb10)
  replace XLW := Mut.grow XLW (fun k e => Or.inr (Nat.le_trans LW.size ((some_ge Gb10) k e)))
  refine rs_op0 (ow_storeM sz24 rfl rfl Bb10 rfl rfl (Nat.le_of_ble_eq_true rfl) ?_)
  intro w12 Bx Eb10
  replace Bb10 := Bx
  clear Bx
  replace Bb5 := Bb5.extN Eb10 (NotIn.cons Db5_b10 NotIn.nil)
  replace E := E.step1 Eb10 Mut.head
  clear Eb10
  refine rs_nil ?_
  refine ew_next ?_
  refine cw_seq ?_
  refine cw_seq ?_
  refine cw_region ?_
  refine rs_op rfl (ow_fieldAddr Tryd.underlying24 rfl sz22 (by decide) rfl ?_)
  refine rs_op rfl (ow_loadF Tryd.underlying22 rfl rfl (HF.on E).here.2 rfl ?_)
  refine rs_op rfl (ow_len Tryd.underlying22 rfl ?_)
  refine rs_op rfl (ow_eql rfl rfl ?_)
  refine rs_nil ?_
  refine ew_next ?_
  refine cw_set 25 (.bool false) rfl ((by rw [beq_eq_false_iff_ne.2 hlen] : (.bool (((((limbs j).length : Nat)) : Int) == 0) : Value) = _)) ?_
  refine cw_else rfl ?_
  refine cw_skip ?_
  refine ew_next ?_
  refine cw_seq ?_
  refine cw_seq ?_
  refine cw_region ?_
  refine rs_op rfl (ow_fieldAddr Tryd.underlying24 rfl sz22 (by decide) rfl ?_)
  refine rs_op rfl (ow_loadF Tryd.underlying22 rfl rfl (HF.on E).here.1.2 rfl ?_)
  refine rs_op rfl (ow_len Tryd.underlying22 rfl ?_)
  refine rs_op rfl (ow_eql rfl rfl ?_)
  refine rs_op rfl (ow_move rfl ?_)
  refine rs_set 31 (.bool true) rfl ((by rw [hlz]; rfl : (.bool (((((limbs i).length : Nat)) : Int) == 0) : Value) = _)) ?_
  refine rs_op rfl (ow_off rfl ?_)
  refine rs_op rfl (ow_off rfl ?_)
  refine rs_op rfl (ow_off rfl ?_)
  refine rs_op rfl (ow_off rfl ?_)
  refine rs_op rfl (ow_off rfl ?_)
  refine rs_op rfl (ow_offU rfl rfl ?_)
  refine rs_op rfl (ow_offU rfl rfl ?_)
  refine rs_op rfl (ow_offU rfl rfl ?_)
  refine rs_op rfl (ow_offU rfl rfl ?_)
  refine rs_op rfl (ow_offU rfl rfl ?_)
  refine rs_op rfl (ow_off rfl ?_)
  refine rs_op rfl (ow_pickT rfl rfl ?_)
  refine rs_nil ?_
  refine ew_next ?_
  refine cw_then rfl ?_
  refine cw_seq ?_
  have OY : ∀ k, (Mut (outM [⟨13, gb5, 24, #[.bool false, .slice none 0 0]⟩])) k → k < (World.drew w12).heap.size → (Mut [(some gb10), (some gb5)]) k := fun k h _ => ((Mut.grow Mut.none_ (Mut.tail Mut.head))) k h
  refine cw_drawn (Mut [(some gb10), (some gb5)]) (Mut.grow (Mut.grow Mut.none_ (some_lt Bb5.lt)) (some_lt Bb10.lt)) [] [⟨13, gb5, 24, #[.bool false, .slice none 0 0]⟩] (fxAt [Fx.of (.pointer (some ⟨gb1, 0, none⟩)),
      Fx.of (.bool false),
      Fx.of (.bool false),
      Fx.of undef,
      Fx.of undef,
      Fx.of undef,
      Fx.of undef,
      Fx.of undef,
      Fx.of undef,
      Fx.of (.bool false),
      Fx.of (.pointer (some ⟨gb1, 1, none⟩)),
      Fx.of (.slice A (limbs i).length c),
      ⟨(Option Addr × Nat), fun (A2, c2) => .agg #[.bool (decide (sgn false (val B18 (limbs i)) < 0)), .slice A2 (limbs (sgn false (val B18 (limbs i)))).length c2], fun (A2, c2) b => (Own b w.heap.size A2 c2 (limbs (sgn false (val B18 (limbs i)))))⟩,
      Fx.of undef,
      Fx.of (.int .i64 0)]) mixed rfl ⟨⟨(Mut.tail Mut.head) _ rfl, Bb5, fun _ h => by cases h⟩, trivial⟩ (by intro o ho; simp at ho; rcases ho with rfl <;> simp) ?_ ?_
  · refine ⟨?_, ?_, ?_, ?_, ?_, ?_, ?_, ?_, ?_, ?_, ?_, ?_, ?_, ?_, ?_, trivial⟩
    · intro vs X wq K
      have LE := K.1
      have XN := K.2.1
      have SQ := Nat.le_trans LW.size (Nat.le_trans E.size LE.size)
      exact ow_fieldAddr Tryd.underlying24 rfl sz4 (by decide) rfl ⟨Below.refl _ _, Left.of rfl⟩
    · intro vs X wq K
      have LE := K.1
      have XN := K.2.1
      have SQ := Nat.le_trans LW.size (Nat.le_trans E.size LE.size)
      obtain ⟨_, e0, k0⟩ := K.dep 0 rfl rfl rfl
      refine ow_set 44 (.pointer (some ⟨gb1, 0, none⟩)) rfl e0 ?_
      exact ow_loadF Tryd.underlying4 rfl rfl (HF.on (E.drew.trans (LE.mono OY))).here.1.2 rfl ⟨Below.refl _ _, Left.of ((by rw [hdi] : (.bool (decide (i < 0)) : Value) = _))⟩
    · intro vs X wq K
      have LE := K.1
      have XN := K.2.1
      have SQ := Nat.le_trans LW.size (Nat.le_trans E.size LE.size)
      obtain ⟨_, e1, k1⟩ := K.dep 1 rfl rfl rfl
      refine ow_set 45 (.bool false) rfl e1 ?_
      exact ow_move rfl ⟨Below.refl _ _, Left.of rfl⟩
    · intro vs X wq K
      have LE := K.1
      have XN := K.2.1
      have SQ := Nat.le_trans LW.size (Nat.le_trans E.size LE.size)
      obtain ⟨_, e2, k2⟩ := K.dep 2 rfl rfl rfl
      refine ow_set 46 (.bool false) rfl e2 ?_
      exact ow_off rfl ⟨Below.refl _ _, Left.of rfl⟩
    · intro vs X wq K
      have LE := K.1
      have XN := K.2.1
      have SQ := Nat.le_trans LW.size (Nat.le_trans E.size LE.size)
      obtain ⟨_, e3, k3⟩ := K.dep 3 rfl rfl rfl
      refine ow_set 47 (undef) rfl e3 ?_
      obtain ⟨_, e2, k2⟩ := K.dep 2 rfl rfl rfl
      refine ow_set 46 (.bool false) rfl e2 ?_
      exact ow_off rfl ⟨Below.refl _ _, Left.of rfl⟩
    · intro vs X wq K
      have LE := K.1
      have XN := K.2.1
      have SQ := Nat.le_trans LW.size (Nat.le_trans E.size LE.size)
      obtain ⟨_, e4, k4⟩ := K.dep 4 rfl rfl rfl
      refine ow_set 48 (undef) rfl e4 ?_
      obtain ⟨_, e2, k2⟩ := K.dep 2 rfl rfl rfl
      refine ow_set 46 (.bool false) rfl e2 ?_
      exact ow_off rfl ⟨Below.refl _ _, Left.of rfl⟩
    · intro vs X wq K
      have LE := K.1
      have XN := K.2.1
      have SQ := Nat.le_trans LW.size (Nat.le_trans E.size LE.size)
      obtain ⟨_, e5, k5⟩ := K.dep 5 rfl rfl rfl
      refine ow_set 49 (undef) rfl e5 ?_
      obtain ⟨_, e2, k2⟩ := K.dep 2 rfl rfl rfl
      refine ow_set 46 (.bool false) rfl e2 ?_
      exact ow_off rfl ⟨Below.refl _ _, Left.of rfl⟩
    · intro vs X wq K
      have LE := K.1
      have XN := K.2.1
      have SQ := Nat.le_trans LW.size (Nat.le_trans E.size LE.size)
      obtain ⟨_, e6, k6⟩ := K.dep 6 rfl rfl rfl
      refine ow_set 50 (undef) rfl e6 ?_
      obtain ⟨_, e2, k2⟩ := K.dep 2 rfl rfl rfl
      refine ow_set 46 (.bool false) rfl e2 ?_
      exact ow_off rfl ⟨Below.refl _ _, Left.of rfl⟩
    · intro vs X wq K
      have LE := K.1
      have XN := K.2.1
      have SQ := Nat.le_trans LW.size (Nat.le_trans E.size LE.size)
      obtain ⟨_, e7, k7⟩ := K.dep 7 rfl rfl rfl
      refine ow_set 51 (undef) rfl e7 ?_
      obtain ⟨_, e2, k2⟩ := K.dep 2 rfl rfl rfl
      refine ow_set 46 (.bool false) rfl e2 ?_
      exact ow_off rfl ⟨Below.refl _ _, Left.of rfl⟩
    · intro vs X wq K
      have LE := K.1
      have XN := K.2.1
      have SQ := Nat.le_trans LW.size (Nat.le_trans E.size LE.size)
      obtain ⟨_, e2, k2⟩ := K.dep 2 rfl rfl rfl
      refine ow_set 46 (.bool false) rfl e2 ?_
      obtain ⟨_, e8, k8⟩ := K.dep 8 rfl rfl rfl
      refine ow_set 52 (undef) rfl e8 ?_
      exact ow_pickF rfl rfl ⟨Below.refl _ _, Left.of rfl⟩
    · intro vs X wq K
      have LE := K.1
      have XN := K.2.1
      have SQ := Nat.le_trans LW.size (Nat.le_trans E.size LE.size)
      exact ow_fieldAddr Tryd.underlying24 rfl sz22 (by decide) rfl ⟨Below.refl _ _, Left.of rfl⟩
    · intro vs X wq K
      have LE := K.1
      have XN := K.2.1
      have SQ := Nat.le_trans LW.size (Nat.le_trans E.size LE.size)
      obtain ⟨_, e10, k10⟩ := K.dep 10 rfl rfl rfl
      refine ow_set 54 (.pointer (some ⟨gb1, 1, none⟩)) rfl e10 ?_
      exact ow_loadF Tryd.underlying22 rfl rfl (HF.on (E.drew.trans (LE.mono OY))).here.1.2 rfl ⟨Below.refl _ _, Left.of rfl⟩
    · intro vs X wq K
      have LE := K.1
      have XN := K.2.1
      have SQ := Nat.le_trans LW.size (Nat.le_trans E.size LE.size)
      obtain ⟨_, e9, k9⟩ := K.dep 9 rfl rfl rfl
      refine ow_set 53 (.bool false) rfl e9 ?_
      obtain ⟨_, e11, k11⟩ := K.dep 11 rfl rfl rfl
      refine ow_set 55 (.slice A (limbs i).length c) rfl e11 ?_
      refine ow_enter en49 rfl ((form_any false A c (limbs i) _ (HF.on (E.drew.trans (LE.mono OY))).here.1.1.1.2 (by rw [hli]; exact small_nil) (by rw [hli]; simp)).mono ?_)
      rintro e w2 ⟨A2, c2, rfl, o2, hb⟩
      exact ⟨_, rfl, hb, ⟨(A2, c2), rfl, (Per.ownX o2 XN).map (fun _ h => h.mono SQ)⟩⟩
    · refine ⟨_, _, _, _, _, rfl, rfl, sz24, fun vs X wq K => ⟨rfl, ?_⟩⟩
      obtain ⟨⟨A2, c2⟩, e0, _⟩ := K.dep 12 rfl rfl rfl
      exact ⟨vs 12, rfl, by rw [e0]; rfl, by rw [e0]; rfl⟩
    · intro vs X wq K
      have LE := K.1
      have XN := K.2.1
      have SQ := Nat.le_trans LW.size (Nat.le_trans E.size LE.size)
      exact ow_assign rfl ⟨Below.refl _ _, Left.of rfl⟩
  intro vs w13 LE AO AL AF AA
  have LBb10 := Bb10
  have LBb5 := Bb5
  replace Bb10 := Bb10.drew.extN LE (NotIn.cons Db10_b5 NotIn.nil)
  replace E := E.drew.trans (LE.mono OY)
  obtain ⟨⟨A2, c2⟩, e12, k12⟩ := AL.2.2.2.2.2.2.2.2.2.2.2.2.1
  obtain ⟨_, e14, k14⟩ := AL.2.2.2.2.2.2.2.2.2.2.2.2.2.2.1
  obtain ⟨v0, y0, Bx, ey, ev0⟩ := AO.1
  cases ey
  obtain rfl : vs 12 = v0 := Option.some.inj ev0
  rw [e12] at Bx
  replace Bb5 : Blk w13 gb5 24 #[.bool (decide (sgn false (val B18 (limbs i)) < 0)), .slice A2 (limbs (sgn false (val B18 (limbs i)))).length c2] := Bx
  clear Bx
  replace HF := HF.on E
  replace LW := LW.step E XLW
  replace E := Ext.refl (Mut [(some gb10), (some gb5)]) w13
  replace HF := HF.and ((k12.map (fun _ h => h) : Per (Mut [(some gb10), (some gb5)]) w13 (fun b => Own b w.heap.size A2 c2 (limbs (sgn false (val B18 (limbs i)))))))
  refine ew_sub (τ := [(2, _), (3, _), (4, _), (5, .int .i64 0), (6, _)]) ⟨rfl, rfl, rfl, congrArg some e14, rfl, trivial⟩ ?_
  clear AL AF AA LE AO OY e12 e14 k12 k14 LBb10 LBb5
  have e0 : sgn false (val B18 (limbs i)) = 0 := by rw [hli]; rfl
  refine ew_next ?_
  refine cw_ret ?_
  refine ew_then_ret ?_
  refine ew_ret (rs := [.cell 4 24, .tmp 5]) (vs := [_, _]) rfl ⟨⟨_, rfl, res_box Tryd.underlying24 rfl sz24 Bb5 rfl⟩, rfl, trivial⟩ ?_
  exact ⟨A2, c2, by rw [e0]; rfl, by rw [← e0]; exact (HF.on E).here.2, (LW.step E XLW).toBelow⟩
theorem pow_one (h0 : 0 < j) (hi1 : i.natAbs = 1) (hin : decide (i < 0) = false) : Calls Tryd.prog 38 #[.agg #[.bool (decide (i < 0)), .slice A (limbs i).length c], .agg #[.bool (decide (j < 0)), .slice B (limbs j).length d]] w (RetBigErr w (i ^ j.toNat) 0) := by
  have hv := unit_val hi1 j.toNat false (by rw [hin]; rfl)
  have hd : decide (j < 0) = false := decide_eq_false (by omega)
  have hjp := lim_pos (j := j) (by omega)
  have hlen : ((limbs j).length : Int) ≠ 0 := by omega
  have hli : limbs i = [1] := by rw [limbs_eq, hi1]; rfl
  have hl1 : ((limbs i).length : Int) = 1 := by rw [hli]; rfl
  obtain ⟨bx, ox, rfl, hbx, hcx⟩ := hx.2 (by rw [hli]; decide)
  obtain ⟨by_, oy, rfl, hby, hcy⟩ := hy.2 hjp
  have hc0 : w.cell? ⟨bx, ox + 0, none⟩ = some (.int .u64 1) := by rw [hcx 0 (by rw [hli]; decide), hli]; simp [nth]
  have hd0 : w.cell? ⟨by_, oy + 0, none⟩ = some (.int .u64 ((j.natAbs % B18 : Nat) : Int)) := by rw [hcy 0 hjp, nth_lim0 (by omega)]
  refine calls_cw Tryd.func38 rfl Tryd.ntmps38 rfl ?_
  have HF : Per No w (fun _ => True) := Per.true_
  have LW := Ext.refl (No) w
  have XLW : ∀ k, (No) k → (No) k ∨ w.heap.size ≤ k := fun _ h => Or.inl h
  have E := Ext.refl No w
  replace HF := HF.on E
  replace LW := LW.step E XLW
  replace E := Ext.refl (No) w
  replace HF := HF.and (Per.nums0 hx)
  replace HF := HF.on E
  replace LW := LW.step E XLW
  replace E := Ext.refl (No) w
  replace HF := HF.and (Per.nums0 hy)
  replace HF := HF.on E
  replace LW := LW.step E XLW
  replace E := Ext.refl (No) w
  replace HF := HF.and (Per.cell0 hc0)
  replace HF := HF.on E
  replace LW := LW.step E XLW
  replace E := Ext.refl (No) w
  replace HF := HF.and (Per.cell0 hd0)
  refine cw_seq ?_
  refine cw_region ?_
  refine rs_op rfl (ow_boxB rfl ?_)
  intro gb1 w2 Bb1 Eb1 Gb1
  have Gb1 : _ ≤ gb1 := Nat.le_trans E.size Gb1
  have GLb1 := Nat.le_trans LW.size Gb1
  replace E := E.trans Eb1.no
  clear Eb1
  replace HF := HF.cons (some_ge Gb1)
  replace E := E.cons (some gb1)
  replace XLW := Mut.grow XLW (fun k e => Or.inr (Nat.le_trans LW.size ((some_ge Gb1) k e)))
  replace HF := HF.on E
  replace LW := LW.step E XLW
  have SB : ∀ k, No k → Mut [(some gb1)] k := (Mut.skip Mut.nil_)
  replace HF := HF.less SB
  replace XLW := fun k h => XLW k (SB k h)
  clear SB
  replace E := Ext.refl (No) w2
  replace HF := HF.and (Per.blkN Bb1 NotIn.nil)
  clear Bb1
  refine rs_op rfl (ow_boxB rfl ?_)
  intro gb3 w4 Bb3 Eb3 Gb3
  have Gb3 : _ ≤ gb3 := Nat.le_trans E.size Gb3
  have GLb3 := Nat.le_trans LW.size Gb3
  replace E := E.trans Eb3.no
  clear Eb3
  replace HF := HF.cons (some_ge Gb3)
  replace E := E.cons (some gb3)
  replace XLW := Mut.grow XLW (fun k e => Or.inr (Nat.le_trans LW.size ((some_ge Gb3) k e)))
  replace HF := HF.on E
  replace LW := LW.step E XLW
  have SB : ∀ k, No k → Mut [(some gb3)] k := (Mut.skip Mut.nil_)
  replace HF := HF.less SB
  replace XLW := fun k h => XLW k (SB k h)
  clear SB
  replace E := Ext.refl (No) w4
  replace HF := HF.and (Per.blkN Bb3 NotIn.nil)
  clear Bb3
  refine rs_op rfl (ow_allocB zr24 ?_)
  intro gb5 w6 Bb5 Eb5 Gb5
  have Gb5 : _ ≤ gb5 := Nat.le_trans E.size Gb5
  have GLb5 := Nat.le_trans LW.size Gb5
  replace E := E.trans Eb5.no
  clear Eb5
  replace HF := HF.cons (some_ge Gb5)
  replace E := E.cons (some gb5)
  replace XLW := Mut.grow XLW (fun k e => Or.inr (Nat.le_trans LW.size ((some_ge Gb5) k e)))
  refine rs_op rfl (ow_assign rfl ?_)
  refine rs_nil ?_
  refine ew_next ?_
  refine cw_seq ?_
  refine cw_seq ?_
  refine cw_region ?_
  refine rs_op rfl (ow_loadB Tryd.underlying24 rfl sz24 rfl (HF.on E).here.1.2 rfl ?_)
  refine rs_op rfl (ow_enter en19 rfl ((goodI _ c _ hi (HF.on E).here.1.1.1.1.1.2).mono ?_))
  rintro e w7 ⟨rfl, hb⟩
  refine ⟨_, rfl, ?_⟩
  have XC : ∀ k, (Mut [(some gb5)]) k → k < w6.heap.size := (Mut.grow Mut.none_ (some_lt Bb5.lt))
  have SC := Nat.le_trans LW.size E.size
  have Ec := Ext.of_below hb No
  replace Bb5 := Bb5.extN Ec NotIn.nil
  replace E := E.trans Ec.no
  clear hb Ec
  refine rs_op rfl (ow_not rfl ?_)
  refine rs_op rfl (ow_move rfl ?_)
  refine rs_op rfl (ow_on rfl (ow_loadB Tryd.underlying24 rfl sz24 rfl (HF.on E).here.2 rfl ?_))
  refine rs_op rfl (ow_on rfl (ow_enter en19 rfl ((goodI _ d _ hj (HF.on E).here.1.1.1.1.2).mono ?_)))
  rintro e w8 ⟨rfl, hb⟩
  refine ⟨_, rfl, ?_⟩
  have XC : ∀ k, (Mut [(some gb5)]) k → k < w7.heap.size := (Mut.grow Mut.none_ (some_lt Bb5.lt))
  have SC := Nat.le_trans LW.size E.size
  have Ec := Ext.of_below hb No
  replace Bb5 := Bb5.extN Ec NotIn.nil
  replace E := E.trans Ec.no
  clear hb Ec
  refine rs_op rfl (ow_on rfl (ow_not rfl ?_))
  refine rs_op rfl (ow_pickF rfl rfl ?_)
  refine rs_nil ?_
  refine ew_next ?_
  refine cw_else rfl ?_
  refine cw_skip ?_
  refine ew_next ?_
  refine cw_seq ?_
  refine cw_seq ?_
  refine cw_region ?_
  refine rs_op rfl (ow_fieldAddr Tryd.underlying24 rfl sz4 (by decide) rfl ?_)
  refine rs_op rfl (ow_loadF Tryd.underlying4 rfl rfl (HF.on E).here.2 rfl ?_)
  refine rs_nil ?_
  refine ew_next ?_
  refine cw_set 19 (.bool false) rfl ((by rw [hd] : (.bool (decide (j < 0)) : Value) = _)) ?_
  refine cw_else rfl ?_
  refine cw_skip ?_
  refine ew_next ?_
  refine cw_seq ?_
  refine cw_region ?_
  refine rs_op rfl (ow_enter en22 rfl ((of_any 1 _ (by decide) (by decide)).mono ?_))
  rintro e w9 ⟨A1, c1, rfl, o1, hb⟩
  refine ⟨_, rfl, ?_⟩
  have XC : ∀ k, (Mut [(some gb5)]) k → k < w8.heap.size := (Mut.grow Mut.none_ (some_lt Bb5.lt))
  have SC := Nat.le_trans LW.size E.size
  have Ec := Ext.of_below hb No
  replace Bb5 := Bb5.extN Ec NotIn.nil
  replace E := E.trans Ec.no
  clear hb Ec
  refine rs_op rfl (ow_allocB zr24 ?_)
  intro gb10 w11 Bb10 Eb10 Gb10
  have Db10_b5 : Apart (some gb10) (some gb5) := Apart.of_lt (some_lt Bb5.lt) Gb10
  have Db5_b10 := Db10_b5.symm
  have Gb10 : _ ≤ gb10 := Nat.le_trans E.size Gb10
  have GLb10 := Nat.le_trans LW.size Gb10
  replace Bb5 := Bb5.extN Eb10 NotIn.nil
  replace E := E.trans Eb10.no
  clear Eb10
  replace HF := HF.cons (some_ge Gb10)
  replace E := E.cons (some gb10)
  replace XLW := Mut.grow XLW (fun k e => Or.inr (Nat.le_trans LW.size ((some_ge Gb10) k e)))
  refine rs_op0 (ow_storeM sz24 rfl rfl Bb10 rfl rfl (Nat.le_of_ble_eq_true rfl) ?_)
  intro w12 Bx Eb10
  replace Bb10 := Bx
  clear Bx
  replace Bb5 := Bb5.extN Eb10 (NotIn.cons Db5_b10 NotIn.nil)
  replace E := E.step1 Eb10 Mut.head
  clear Eb10
  refine rs_nil ?_
  refine ew_next ?_
  refine cw_seq ?_
  refine cw_seq ?_
  refine cw_region ?_
  refine rs_op rfl (ow_fieldAddr Tryd.underlying24 rfl sz22 (by decide) rfl ?_)
  refine rs_op rfl (ow_loadF Tryd.underlying22 rfl rfl (HF.on E).here.2 rfl ?_)
  refine rs_op rfl (ow_len Tryd.underlying22 rfl ?_)
  refine rs_op rfl (ow_eql rfl rfl ?_)
  refine rs_nil ?_
  refine ew_next ?_
  refine cw_set 25 (.bool false) rfl ((by rw [beq_eq_false_iff_ne.2 hlen] : (.bool (((((limbs j).length : Nat)) : Int) == 0) : Value) = _)) ?_
  refine cw_else rfl ?_
  refine cw_skip ?_
  refine ew_next ?_
  refine cw_seq ?_
  refine cw_seq ?_
  refine cw_region ?_
  refine rs_op rfl (ow_fieldAddr Tryd.underlying24 rfl sz22 (by decide) rfl ?_)
  refine rs_op rfl (ow_loadF Tryd.underlying22 rfl rfl (HF.on E).here.1.2 rfl ?_)
  refine rs_op rfl (ow_len Tryd.underlying22 rfl ?_)
  refine rs_op rfl (ow_eql rfl rfl ?_)
  refine rs_op rfl (ow_move rfl ?_)
  refine rs_set 31 (.bool false) rfl ((by rw [hl1]; rfl : (.bool (((((limbs i).length : Nat)) : Int) == 0) : Value) = _)) ?_
  refine rs_op rfl (ow_on rfl (ow_fieldAddr Tryd.underlying24 rfl sz22 (by decide) rfl ?_))
  refine rs_op rfl (ow_on rfl (ow_loadF Tryd.underlying22 rfl rfl (HF.on E).here.1.2 rfl ?_))
  refine rs_op rfl (ow_on rfl (ow_len Tryd.underlying22 rfl ?_))
  refine rs_op rfl (ow_on rfl (ow_eql rfl rfl ?_))
  refine rs_op rfl (ow_on rfl (ow_move rfl ?_))
  refine rs_set 36 (.bool true) rfl ((by rw [hl1]; rfl : (.bool (((((limbs i).length : Nat)) : Int) == 1) : Value) = _)) ?_
  refine rs_op rfl (ow_on rfl (ow_fieldAddr Tryd.underlying24 rfl sz22 (by decide) rfl ?_))
  refine rs_op rfl (ow_on rfl (ow_loadF Tryd.underlying22 rfl rfl (HF.on E).here.1.2 rfl ?_))
  refine rs_op rfl (ow_on rfl (ow_indexAddr1 (j := 0) Tryd.underlying22 sz63 rfl rfl rfl (by rw [hli]; decide) ?_))
  refine rs_op rfl (ow_on rfl (ow_load1 Tryd.underlying63 rfl rfl (HF.on E).here.1.1.1.2 ?_))
  refine rs_op rfl (ow_on rfl (ow_eql rfl rfl ?_))
  refine rs_op rfl (ow_on rfl (ow_pickT rfl rfl ?_))
  refine rs_op rfl (ow_pickF rfl rfl ?_)
  refine rs_nil ?_
  refine ew_next ?_
  refine cw_then rfl ?_
  refine cw_seq ?_
  have OY : ∀ k, (Mut (outM [⟨13, gb5, 24, #[.bool false, .slice none 0 0]⟩])) k → k < (World.drew w12).heap.size → (Mut [(some gb10), (some gb5)]) k := fun k h _ => ((Mut.grow Mut.none_ (Mut.tail Mut.head))) k h
  refine cw_drawn (Mut [(some gb10), (some gb5)]) (Mut.grow (Mut.grow Mut.none_ (some_lt Bb5.lt)) (some_lt Bb10.lt)) [] [⟨13, gb5, 24, #[.bool false, .slice none 0 0]⟩] (fxAt [Fx.of (.pointer (some ⟨gb1, 0, none⟩)),
      Fx.of (.bool false),
      Fx.of (.bool false),
      Fx.of undef,
      Fx.of undef,
      Fx.of undef,
      Fx.of undef,
      Fx.of undef,
      Fx.of undef,
      Fx.of (.bool false),
      Fx.of (.pointer (some ⟨gb1, 1, none⟩)),
      Fx.of (.slice (some ⟨bx, ox, none⟩) (limbs i).length c),
      ⟨(Option Addr × Nat), fun (A2, c2) => .agg #[.bool (decide (sgn false (val B18 (limbs i)) < 0)), .slice A2 (limbs (sgn false (val B18 (limbs i)))).length c2], fun (A2, c2) b => (Own b w.heap.size A2 c2 (limbs (sgn false (val B18 (limbs i)))))⟩,
      Fx.of undef,
      Fx.of (.int .i64 0)]) mixed rfl ⟨⟨(Mut.tail Mut.head) _ rfl, Bb5, fun _ h => by cases h⟩, trivial⟩ (by intro o ho; simp at ho; rcases ho with rfl <;> simp) ?_ ?_
  · refine ⟨?_, ?_, ?_, ?_, ?_, ?_, ?_, ?_, ?_, ?_, ?_, ?_, ?_, ?_, ?_, trivial⟩
    · intro vs X wq K
      have LE := K.1
      have XN := K.2.1
      have SQ := Nat.le_trans LW.size (Nat.le_trans E.size LE.size)
      exact ow_fieldAddr Tryd.underlying24 rfl sz4 (by decide) rfl ⟨Below.refl _ _, Left.of rfl⟩
    · intro vs X wq K
      have LE := K.1
      have XN := K.2.1
      have SQ := Nat.le_trans LW.size (Nat.le_trans E.size LE.size)
      obtain ⟨_, e0, k0⟩ := K.dep 0 rfl rfl rfl
      refine ow_set 44 (.pointer (some ⟨gb1, 0, none⟩)) rfl e0 ?_
      exact ow_loadF Tryd.underlying4 rfl rfl (HF.on (E.drew.trans (LE.mono OY))).here.1.2 rfl ⟨Below.refl _ _, Left.of ((by rw [hin] : (.bool (decide (i < 0)) : Value) = _))⟩
    · intro vs X wq K
      have LE := K.1
      have XN := K.2.1
      have SQ := Nat.le_trans LW.size (Nat.le_trans E.size LE.size)
      obtain ⟨_, e1, k1⟩ := K.dep 1 rfl rfl rfl
      refine ow_set 45 (.bool false) rfl e1 ?_
      exact ow_move rfl ⟨Below.refl _ _, Left.of rfl⟩
    · intro vs X wq K
      have LE := K.1
      have XN := K.2.1
      have SQ := Nat.le_trans LW.size (Nat.le_trans E.size LE.size)
      obtain ⟨_, e2, k2⟩ := K.dep 2 rfl rfl rfl
      refine ow_set 46 (.bool false) rfl e2 ?_
      exact ow_off rfl ⟨Below.refl _ _, Left.of rfl⟩
    · intro vs X wq K
      have LE := K.1
      have XN := K.2.1
      have SQ := Nat.le_trans LW.size (Nat.le_trans E.size LE.size)
      obtain ⟨_, e3, k3⟩ := K.dep 3 rfl rfl rfl
      refine ow_set 47 (undef) rfl e3 ?_
      obtain ⟨_, e2, k2⟩ := K.dep 2 rfl rfl rfl
      refine ow_set 46 (.bool false) rfl e2 ?_
      exact ow_off rfl ⟨Below.refl _ _, Left.of rfl⟩
    · intro vs X wq K
      have LE := K.1
      have XN := K.2.1
      have SQ := Nat.le_trans LW.size (Nat.le_trans E.size LE.size)
      obtain ⟨_, e4, k4⟩ := K.dep 4 rfl rfl rfl
      refine ow_set 48 (undef) rfl e4 ?_
      obtain ⟨_, e2, k2⟩ := K.dep 2 rfl rfl rfl
      refine ow_set 46 (.bool false) rfl e2 ?_
      exact ow_off rfl ⟨Below.refl _ _, Left.of rfl⟩
    · intro vs X wq K
      have LE := K.1
      have XN := K.2.1
      have SQ := Nat.le_trans LW.size (Nat.le_trans E.size LE.size)
      obtain ⟨_, e5, k5⟩ := K.dep 5 rfl rfl rfl
      refine ow_set 49 (undef) rfl e5 ?_
      obtain ⟨_, e2, k2⟩ := K.dep 2 rfl rfl rfl
      refine ow_set 46 (.bool false) rfl e2 ?_
      exact ow_off rfl ⟨Below.refl _ _, Left.of rfl⟩
    · intro vs X wq K
      have LE := K.1
      have XN := K.2.1
      have SQ := Nat.le_trans LW.size (Nat.le_trans E.size LE.size)
      obtain ⟨_, e6, k6⟩ := K.dep 6 rfl rfl rfl
      refine ow_set 50 (undef) rfl e6 ?_
      obtain ⟨_, e2, k2⟩ := K.dep 2 rfl rfl rfl
      refine ow_set 46 (.bool false) rfl e2 ?_
      exact ow_off rfl ⟨Below.refl _ _, Left.of rfl⟩
    · intro vs X wq K
      have LE := K.1
      have XN := K.2.1
      have SQ := Nat.le_trans LW.size (Nat.le_trans E.size LE.size)
      obtain ⟨_, e7, k7⟩ := K.dep 7 rfl rfl rfl
      refine ow_set 51 (undef) rfl e7 ?_
      obtain ⟨_, e2, k2⟩ := K.dep 2 rfl rfl rfl
      refine ow_set 46 (.bool false) rfl e2 ?_
      exact ow_off rfl ⟨Below.refl _ _, Left.of rfl⟩
    · intro vs X wq K
      have LE := K.1
      have XN := K.2.1
      have SQ := Nat.le_trans LW.size (Nat.le_trans E.size LE.size)
      obtain ⟨_, e2, k2⟩ := K.dep 2 rfl rfl rfl
      refine ow_set 46 (.bool false) rfl e2 ?_
      obtain ⟨_, e8, k8⟩ := K.dep 8 rfl rfl rfl
      refine ow_set 52 (undef) rfl e8 ?_
      exact ow_pickF rfl rfl ⟨Below.refl _ _, Left.of rfl⟩
    · intro vs X wq K
      have LE := K.1
      have XN := K.2.1
      have SQ := Nat.le_trans LW.size (Nat.le_trans E.size LE.size)
      exact ow_fieldAddr Tryd.underlying24 rfl sz22 (by decide) rfl ⟨Below.refl _ _, Left.of rfl⟩
    · intro vs X wq K
      have LE := K.1
      have XN := K.2.1
      have SQ := Nat.le_trans LW.size (Nat.le_trans E.size LE.size)
      obtain ⟨_, e10, k10⟩ := K.dep 10 rfl rfl rfl
      refine ow_set 54 (.pointer (some ⟨gb1, 1, none⟩)) rfl e10 ?_
      exact ow_loadF Tryd.underlying22 rfl rfl (HF.on (E.drew.trans (LE.mono OY))).here.1.2 rfl ⟨Below.refl _ _, Left.of rfl⟩
    · intro vs X wq K
      have LE := K.1
      have XN := K.2.1
      have SQ := Nat.le_trans LW.size (Nat.le_trans E.size LE.size)
      obtain ⟨_, e9, k9⟩ := K.dep 9 rfl rfl rfl
      refine ow_set 53 (.bool false) rfl e9 ?_
      obtain ⟨_, e11, k11⟩ := K.dep 11 rfl rfl rfl
      refine ow_set 55 (.slice (some ⟨bx, ox, none⟩) (limbs i).length c) rfl e11 ?_
      refine ow_enter en49 rfl ((form_any false _ c (limbs i) _ (HF.on (E.drew.trans (LE.mono OY))).here.1.1.1.1.1.2 (limbs_small i) (by rw [hli]; decide)).mono ?_)
      rintro e w2 ⟨A2, c2, rfl, o2, hb⟩
      exact ⟨_, rfl, hb, ⟨(A2, c2), rfl, (Per.ownX o2 XN).map (fun _ h => h.mono SQ)⟩⟩
    · refine ⟨_, _, _, _, _, rfl, rfl, sz24, fun vs X wq K => ⟨rfl, ?_⟩⟩
      obtain ⟨⟨A2, c2⟩, e0, _⟩ := K.dep 12 rfl rfl rfl
      exact ⟨vs 12, rfl, by rw [e0]; rfl, by rw [e0]; rfl⟩
    · intro vs X wq K
      have LE := K.1
      have XN := K.2.1
      have SQ := Nat.le_trans LW.size (Nat.le_trans E.size LE.size)
      exact ow_assign rfl ⟨Below.refl _ _, Left.of rfl⟩
  intro vs w13 LE AO AL AF AA
  have LBb10 := Bb10
  have LBb5 := Bb5
  replace Bb10 := Bb10.drew.extN LE (NotIn.cons Db10_b5 NotIn.nil)
  replace E := E.drew.trans (LE.mono OY)
  obtain ⟨⟨A2, c2⟩, e12, k12⟩ := AL.2.2.2.2.2.2.2.2.2.2.2.2.1
  obtain ⟨_, e14, k14⟩ := AL.2.2.2.2.2.2.2.2.2.2.2.2.2.2.1
  obtain ⟨v0, y0, Bx, ey, ev0⟩ := AO.1
  cases ey
  obtain rfl : vs 12 = v0 := Option.some.inj ev0
  rw [e12] at Bx
  replace Bb5 : Blk w13 gb5 24 #[.bool (decide (sgn false (val B18 (limbs i)) < 0)), .slice A2 (limbs (sgn false (val B18 (limbs i)))).length c2] := Bx
  clear Bx
  replace HF := HF.on E
  replace LW := LW.step E XLW
  replace E := Ext.refl (Mut [(some gb10), (some gb5)]) w13
  replace HF := HF.and ((k12.map (fun _ h => h) : Per (Mut [(some gb10), (some gb5)]) w13 (fun b => Own b w.heap.size A2 c2 (limbs (sgn false (val B18 (limbs i)))))))
  refine ew_sub (τ := [(2, _), (3, _), (4, _), (5, .int .i64 0), (6, _)]) ⟨rfl, rfl, rfl, congrArg some e14, rfl, trivial⟩ ?_
  clear AL AF AA LE AO OY e12 e14 k12 k14 LBb10 LBb5
  refine ew_next ?_
  refine cw_ret ?_
  refine ew_then_ret ?_
  refine ew_ret (rs := [.cell 4 24, .tmp 5]) (vs := [_, _]) rfl ⟨⟨_, rfl, res_box Tryd.underlying24 rfl sz24 Bb5 rfl⟩, rfl, trivial⟩ ?_
  exact ⟨A2, c2, by rw [← hv]; rfl, by rw [← hv]; exact (HF.on E).here.2, (LW.step E XLW).toBelow⟩
theorem pow_mone (h0 : 0 < j) (hi1 : i.natAbs = 1) (hin : decide (i < 0) = true) : Calls Tryd.prog 38 #[.agg #[.bool (decide (i < 0)), .slice A (limbs i).length c], .agg #[.bool (decide (j < 0)), .slice B (limbs j).length d]] w (RetBigErr w (i ^ j.toNat) 0) := by
  have hv := unit_val hi1 j.toNat (decide (j.toNat % 2 = 1)) (by rw [hin, Bool.true_and])
  have hd : decide (j < 0) = false := decide_eq_false (by omega)
  have hjp := lim_pos (j := j) (by omega)
  have hlen : ((limbs j).length : Int) ≠ 0 := by omega
  have hli : limbs i = [1] := by rw [limbs_eq, hi1]; rfl
  have hl1 : ((limbs i).length : Int) = 1 := by rw [hli]; rfl
  obtain ⟨bx, ox, rfl, hbx, hcx⟩ := hx.2 (by rw [hli]; decide)
  obtain ⟨by_, oy, rfl, hby, hcy⟩ := hy.2 hjp
  have hc0 : w.cell? ⟨bx, ox + 0, none⟩ = some (.int .u64 1) := by rw [hcx 0 (by rw [hli]; decide), hli]; simp [nth]
  have hd0 : w.cell? ⟨by_, oy + 0, none⟩ = some (.int .u64 ((j.natAbs % B18 : Nat) : Int)) := by rw [hcy 0 hjp, nth_lim0 (by omega)]
  refine calls_cw Tryd.func38 rfl Tryd.ntmps38 rfl ?_
  have HF : Per No w (fun _ => True) := Per.true_
  have LW := Ext.refl (No) w
  have XLW : ∀ k, (No) k → (No) k ∨ w.heap.size ≤ k := fun _ h => Or.inl h
  have E := Ext.refl No w
  replace HF := HF.on E
  replace LW := LW.step E XLW
  replace E := Ext.refl (No) w
  replace HF := HF.and (Per.nums0 hx)
  replace HF := HF.on E
  replace LW := LW.step E XLW
  replace E := Ext.refl (No) w
  replace HF := HF.and (Per.nums0 hy)
  replace HF := HF.on E
  replace LW := LW.step E XLW
  replace E := Ext.refl (No) w
  replace HF := HF.and (Per.cell0 hc0)
  replace HF := HF.on E
  replace LW := LW.step E XLW
  replace E := Ext.refl (No) w
  replace HF := HF.and (Per.cell0 hd0)
  refine cw_seq ?_
  refine cw_region ?_
  refine rs_op rfl (ow_boxB rfl ?_)
  intro gb1 w2 Bb1 Eb1 Gb1
  have Gb1 : _ ≤ gb1 := Nat.le_trans E.size Gb1
  have GLb1 := Nat.le_trans LW.size Gb1
  replace E := E.trans Eb1.no
  clear Eb1
  replace HF := HF.cons (some_ge Gb1)
  replace E := E.cons (some gb1)
  replace XLW := Mut.grow XLW (fun k e => Or.inr (Nat.le_trans LW.size ((some_ge Gb1) k e)))
  replace HF := HF.on E
  replace LW := LW.step E XLW
  have SB : ∀ k, No k → Mut [(some gb1)] k := (Mut.skip Mut.nil_)
  replace HF := HF.less SB
  replace XLW := fun k h => XLW k (SB k h)
  clear SB
  replace E := Ext.refl (No) w2
  replace HF := HF.and (Per.blkN Bb1 NotIn.nil)
  clear Bb1
  refine rs_op rfl (ow_boxB rfl ?_)
  intro gb3 w4 Bb3 Eb3 Gb3
  have Gb3 : _ ≤ gb3 := Nat.le_trans E.size Gb3
  have GLb3 := Nat.le_trans LW.size Gb3
  replace E := E.trans Eb3.no
  clear Eb3
  replace HF := HF.cons (some_ge Gb3)
  replace E := E.cons (some gb3)
  replace XLW := Mut.grow XLW (fun k e => Or.inr (Nat.le_trans LW.size ((some_ge Gb3) k e)))
  replace HF := HF.on E
  replace LW := LW.step E XLW
  have SB : ∀ k, No k → Mut [(some gb3)] k := (Mut.skip Mut.nil_)
  replace HF := HF.less SB
  replace XLW := fun k h => XLW k (SB k h)
  clear SB
  replace E := Ext.refl (No) w4
  replace HF := HF.and (Per.blkN Bb3 NotIn.nil)
  clear Bb3
  refine rs_op rfl (ow_allocB zr24 ?_)
  intro gb5 w6 Bb5 Eb5 Gb5
  have Gb5 : _ ≤ gb5 := Nat.le_trans E.size Gb5
  have GLb5 := Nat.le_trans LW.size Gb5
  replace E := E.trans Eb5.no
  clear Eb5
  replace HF := HF.cons (some_ge Gb5)
  replace E := E.cons (some gb5)
  replace XLW := Mut.grow XLW (fun k e => Or.inr (Nat.le_trans LW.size ((some_ge Gb5) k e)))
  refine rs_op rfl (ow_assign rfl ?_)
  refine rs_nil ?_
  refine ew_next ?_
  refine cw_seq ?_
  refine cw_seq ?_
  refine cw_region ?_
  refine rs_op rfl (ow_loadB Tryd.underlying24 rfl sz24 rfl (HF.on E).here.1.2 rfl ?_)
  refine rs_op rfl (ow_enter en19 rfl ((goodI _ c _ hi (HF.on E).here.1.1.1.1.1.2).mono ?_))
  rintro e w7 ⟨rfl, hb⟩
  refine ⟨_, rfl, ?_⟩
  have XC : ∀ k, (Mut [(some gb5)]) k → k < w6.heap.size := (Mut.grow Mut.none_ (some_lt Bb5.lt))
  have SC := Nat.le_trans LW.size E.size
  have Ec := Ext.of_below hb No
  replace Bb5 := Bb5.extN Ec NotIn.nil
  replace E := E.trans Ec.no
  clear hb Ec
  refine rs_op rfl (ow_not rfl ?_)
  refine rs_op rfl (ow_move rfl ?_)
  refine rs_op rfl (ow_on rfl (ow_loadB Tryd.underlying24 rfl sz24 rfl (HF.on E).here.2 rfl ?_))
  refine rs_op rfl (ow_on rfl (ow_enter en19 rfl ((goodI _ d _ hj (HF.on E).here.1.1.1.1.2).mono ?_)))
  rintro e w8 ⟨rfl, hb⟩
  refine ⟨_, rfl, ?_⟩
  have XC : ∀ k, (Mut [(some gb5)]) k → k < w7.heap.size := (Mut.grow Mut.none_ (some_lt Bb5.lt))
  have SC := Nat.le_trans LW.size E.size
  have Ec := Ext.of_below hb No
  replace Bb5 := Bb5.extN Ec NotIn.nil
  replace E := E.trans Ec.no
  clear hb Ec
  refine rs_op rfl (ow_on rfl (ow_not rfl ?_))
  refine rs_op rfl (ow_pickF rfl rfl ?_)
  refine rs_nil ?_
  refine ew_next ?_
  refine cw_else rfl ?_
  refine cw_skip ?_
  refine ew_next ?_
  refine cw_seq ?_
  refine cw_seq ?_
  refine cw_region ?_
  refine rs_op rfl (ow_fieldAddr Tryd.underlying24 rfl sz4 (by decide) rfl ?_)
  refine rs_op rfl (ow_loadF Tryd.underlying4 rfl rfl (HF.on E).here.2 rfl ?_)
  refine rs_nil ?_
  refine ew_next ?_
  refine cw_set 19 (.bool false) rfl ((by rw [hd] : (.bool (decide (j < 0)) : Value) = _)) ?_
  refine cw_else rfl ?_
  refine cw_skip ?_
  refine ew_next ?_
  refine cw_seq ?_
  refine cw_region ?_
  refine rs_op rfl (ow_enter en22 rfl ((of_any 1 _ (by decide) (by decide)).mono ?_))
  rintro e w9 ⟨A1, c1, rfl, o1, hb⟩
  refine ⟨_, rfl, ?_⟩
  have XC : ∀ k, (Mut [(some gb5)]) k → k < w8.heap.size := (Mut.grow Mut.none_ (some_lt Bb5.lt))
  have SC := Nat.le_trans LW.size E.size
  have Ec := Ext.of_below hb No
  replace Bb5 := Bb5.extN Ec NotIn.nil
  replace E := E.trans Ec.no
  clear hb Ec
  refine rs_op rfl (ow_allocB zr24 ?_)
  intro gb10 w11 Bb10 Eb10 Gb10
  have Db10_b5 : Apart (some gb10) (some gb5) := Apart.of_lt (some_lt Bb5.lt) Gb10
  have Db5_b10 := Db10_b5.symm
  have Gb10 : _ ≤ gb10 := Nat.le_trans E.size Gb10
  have GLb10 := Nat.le_trans LW.size Gb10
  replace Bb5 := Bb5.extN Eb10 NotIn.nil
  replace E := E.trans Eb10.no
  clear Eb10
  replace HF := HF.cons (some_ge Gb10)
  replace E := E.cons (some gb10)
  replace XLW := Mut.grow XLW (fun k e => Or.inr (Nat.le_trans LW.size ((some_ge Gb10) k e)))
  refine rs_op0 (ow_storeM sz24 rfl rfl Bb10 rfl rfl (Nat.le_of_ble_eq_true rfl) ?_)
  intro w12 Bx Eb10
  replace Bb10 := Bx
  clear Bx
  replace Bb5 := Bb5.extN Eb10 (NotIn.cons Db5_b10 NotIn.nil)
  replace E := E.step1 Eb10 Mut.head
  clear Eb10
  refine rs_nil ?_
  refine ew_next ?_
  refine cw_seq ?_
  refine cw_seq ?_
  refine cw_region ?_
  refine rs_op rfl (ow_fieldAddr Tryd.underlying24 rfl sz22 (by decide) rfl ?_)
  refine rs_op rfl (ow_loadF Tryd.underlying22 rfl rfl (HF.on E).here.2 rfl ?_)
  refine rs_op rfl (ow_len Tryd.underlying22 rfl ?_)
  refine rs_op rfl (ow_eql rfl rfl ?_)
  refine rs_nil ?_
  refine ew_next ?_
  refine cw_set 25 (.bool false) rfl ((by rw [beq_eq_false_iff_ne.2 hlen] : (.bool (((((limbs j).length : Nat)) : Int) == 0) : Value) = _)) ?_
  refine cw_else rfl ?_
  refine cw_skip ?_
  refine ew_next ?_
  refine cw_seq ?_
  refine cw_seq ?_
  refine cw_region ?_
  refine rs_op rfl (ow_fieldAddr Tryd.underlying24 rfl sz22 (by decide) rfl ?_)
  refine rs_op rfl (ow_loadF Tryd.underlying22 rfl rfl (HF.on E).here.1.2 rfl ?_)
  refine rs_op rfl (ow_len Tryd.underlying22 rfl ?_)
  refine rs_op rfl (ow_eql rfl rfl ?_)
  refine rs_op rfl (ow_move rfl ?_)
  refine rs_set 31 (.bool false) rfl ((by rw [hl1]; rfl : (.bool (((((limbs i).length : Nat)) : Int) == 0) : Value) = _)) ?_
  refine rs_op rfl (ow_on rfl (ow_fieldAddr Tryd.underlying24 rfl sz22 (by decide) rfl ?_))
  refine rs_op rfl (ow_on rfl (ow_loadF Tryd.underlying22 rfl rfl (HF.on E).here.1.2 rfl ?_))
  refine rs_op rfl (ow_on rfl (ow_len Tryd.underlying22 rfl ?_))
  refine rs_op rfl (ow_on rfl (ow_eql rfl rfl ?_))
  refine rs_op rfl (ow_on rfl (ow_move rfl ?_))
  refine rs_set 36 (.bool true) rfl ((by rw [hl1]; rfl : (.bool (((((limbs i).length : Nat)) : Int) == 1) : Value) = _)) ?_
  refine rs_op rfl (ow_on rfl (ow_fieldAddr Tryd.underlying24 rfl sz22 (by decide) rfl ?_))
  refine rs_op rfl (ow_on rfl (ow_loadF Tryd.underlying22 rfl rfl (HF.on E).here.1.2 rfl ?_))
  refine rs_op rfl (ow_on rfl (ow_indexAddr1 (j := 0) Tryd.underlying22 sz63 rfl rfl rfl (by rw [hli]; decide) ?_))
  refine rs_op rfl (ow_on rfl (ow_load1 Tryd.underlying63 rfl rfl (HF.on E).here.1.1.1.2 ?_))
  refine rs_op rfl (ow_on rfl (ow_eql rfl rfl ?_))
  refine rs_op rfl (ow_on rfl (ow_pickT rfl rfl ?_))
  refine rs_op rfl (ow_pickF rfl rfl ?_)
  refine rs_nil ?_
  refine ew_next ?_
  refine cw_then rfl ?_
  refine cw_seq ?_
  have OY : ∀ k, (Mut (outM [⟨13, gb5, 24, #[.bool false, .slice none 0 0]⟩])) k → k < (World.drew w12).heap.size → (Mut [(some gb10), (some gb5)]) k := fun k h _ => ((Mut.grow Mut.none_ (Mut.tail Mut.head))) k h
  refine cw_drawn (Mut [(some gb10), (some gb5)]) (Mut.grow (Mut.grow Mut.none_ (some_lt Bb5.lt)) (some_lt Bb10.lt)) [] [⟨13, gb5, 24, #[.bool false, .slice none 0 0]⟩] (fxAt [Fx.of (.pointer (some ⟨gb1, 0, none⟩)),
      Fx.of (.bool true),
      Fx.of (.bool true),
      Fx.of (.pointer (some ⟨gb3, 1, none⟩)),
      Fx.of (.slice (some ⟨by_, oy, none⟩) (limbs j).length d),
      Fx.of (.pointer (some ⟨by_, oy + 0, none⟩)),
      Fx.of (.int .u64 ((j.natAbs % B18 : Nat) : Int)),
      Fx.of (.int .u64 (((j.natAbs % B18 : Nat) : Int).tmod 2)),
      Fx.of (.bool (decide (j.toNat % 2 = 1))),
      Fx.of (.bool (decide (j.toNat % 2 = 1))),
      Fx.of (.pointer (some ⟨gb1, 1, none⟩)),
      Fx.of (.slice (some ⟨bx, ox, none⟩) (limbs i).length c),
      ⟨(Option Addr × Nat), fun (A2, c2) => .agg #[.bool (decide (sgn (decide (j.toNat % 2 = 1)) (val B18 (limbs i)) < 0)), .slice A2 (limbs (sgn (decide (j.toNat % 2 = 1)) (val B18 (limbs i)))).length c2], fun (A2, c2) b => (Own b w.heap.size A2 c2 (limbs (sgn (decide (j.toNat % 2 = 1)) (val B18 (limbs i)))))⟩,
      Fx.of undef,
      Fx.of (.int .i64 0)]) mixed rfl ⟨⟨(Mut.tail Mut.head) _ rfl, Bb5, fun _ h => by cases h⟩, trivial⟩ (by intro o ho; simp at ho; rcases ho with rfl <;> simp) ?_ ?_
  · refine ⟨?_, ?_, ?_, ?_, ?_, ?_, ?_, ?_, ?_, ?_, ?_, ?_, ?_, ?_, ?_, trivial⟩
    · intro vs X wq K
      have LE := K.1
      have XN := K.2.1
      have SQ := Nat.le_trans LW.size (Nat.le_trans E.size LE.size)
      exact ow_fieldAddr Tryd.underlying24 rfl sz4 (by decide) rfl ⟨Below.refl _ _, Left.of rfl⟩
    · intro vs X wq K
      have LE := K.1
      have XN := K.2.1
      have SQ := Nat.le_trans LW.size (Nat.le_trans E.size LE.size)
      obtain ⟨_, e0, k0⟩ := K.dep 0 rfl rfl rfl
      refine ow_set 44 (.pointer (some ⟨gb1, 0, none⟩)) rfl e0 ?_
      exact ow_loadF Tryd.underlying4 rfl rfl (HF.on (E.drew.trans (LE.mono OY))).here.1.2 rfl ⟨Below.refl _ _, Left.of ((by rw [hin] : (.bool (decide (i < 0)) : Value) = _))⟩
    · intro vs X wq K
      have LE := K.1
      have XN := K.2.1
      have SQ := Nat.le_trans LW.size (Nat.le_trans E.size LE.size)
      obtain ⟨_, e1, k1⟩ := K.dep 1 rfl rfl rfl
      refine ow_set 45 (.bool true) rfl e1 ?_
      exact ow_move rfl ⟨Below.refl _ _, Left.of rfl⟩
    · intro vs X wq K
      have LE := K.1
      have XN := K.2.1
      have SQ := Nat.le_trans LW.size (Nat.le_trans E.size LE.size)
      obtain ⟨_, e2, k2⟩ := K.dep 2 rfl rfl rfl
      refine ow_set 46 (.bool true) rfl e2 ?_
      exact ow_on rfl (ow_fieldAddr Tryd.underlying24 rfl sz22 (by decide) rfl ⟨Below.refl _ _, Left.of rfl⟩)
    · intro vs X wq K
      have LE := K.1
      have XN := K.2.1
      have SQ := Nat.le_trans LW.size (Nat.le_trans E.size LE.size)
      obtain ⟨_, e3, k3⟩ := K.dep 3 rfl rfl rfl
      refine ow_set 47 (.pointer (some ⟨gb3, 1, none⟩)) rfl e3 ?_
      obtain ⟨_, e2, k2⟩ := K.dep 2 rfl rfl rfl
      refine ow_set 46 (.bool true) rfl e2 ?_
      exact ow_on rfl (ow_loadF Tryd.underlying22 rfl rfl (HF.on (E.drew.trans (LE.mono OY))).here.2 rfl ⟨Below.refl _ _, Left.of rfl⟩)
    · intro vs X wq K
      have LE := K.1
      have XN := K.2.1
      have SQ := Nat.le_trans LW.size (Nat.le_trans E.size LE.size)
      obtain ⟨_, e4, k4⟩ := K.dep 4 rfl rfl rfl
      refine ow_set 48 (.slice (some ⟨by_, oy, none⟩) (limbs j).length d) rfl e4 ?_
      obtain ⟨_, e2, k2⟩ := K.dep 2 rfl rfl rfl
      refine ow_set 46 (.bool true) rfl e2 ?_
      exact ow_on rfl (ow_indexAddr1 (j := 0) Tryd.underlying22 sz63 rfl rfl rfl hjp ⟨Below.refl _ _, Left.of rfl⟩)
    · intro vs X wq K
      have LE := K.1
      have XN := K.2.1
      have SQ := Nat.le_trans LW.size (Nat.le_trans E.size LE.size)
      obtain ⟨_, e5, k5⟩ := K.dep 5 rfl rfl rfl
      refine ow_set 49 (.pointer (some ⟨by_, oy + 0, none⟩)) rfl e5 ?_
      obtain ⟨_, e2, k2⟩ := K.dep 2 rfl rfl rfl
      refine ow_set 46 (.bool true) rfl e2 ?_
      exact ow_on rfl (ow_load1 Tryd.underlying63 rfl rfl (HF.on (E.drew.trans (LE.mono OY))).here.1.1.2 ⟨Below.refl _ _, Left.of rfl⟩)
    · intro vs X wq K
      have LE := K.1
      have XN := K.2.1
      have SQ := Nat.le_trans LW.size (Nat.le_trans E.size LE.size)
      obtain ⟨_, e6, k6⟩ := K.dep 6 rfl rfl rfl
      refine ow_set 50 (.int .u64 ((j.natAbs % B18 : Nat) : Int)) rfl e6 ?_
      obtain ⟨_, e2, k2⟩ := K.dep 2 rfl rfl rfl
      refine ow_set 46 (.bool true) rfl e2 ?_
      exact ow_on rfl (ow_rem rfl rfl (by decide) rfl ⟨Below.refl _ _, Left.of rfl⟩)
    · intro vs X wq K
      have LE := K.1
      have XN := K.2.1
      have SQ := Nat.le_trans LW.size (Nat.le_trans E.size LE.size)
      obtain ⟨_, e7, k7⟩ := K.dep 7 rfl rfl rfl
      refine ow_set 51 (.int .u64 (((j.natAbs % B18 : Nat) : Int).tmod 2)) rfl e7 ?_
      obtain ⟨_, e2, k2⟩ := K.dep 2 rfl rfl rfl
      refine ow_set 46 (.bool true) rfl e2 ?_
      exact ow_on rfl (ow_eql rfl rfl ⟨Below.refl _ _, Left.of ((by rw [unit_par h0] : (.bool ((((j.natAbs % B18 : Nat) : Int).tmod 2) == 1) : Value) = _))⟩)
    · intro vs X wq K
      have LE := K.1
      have XN := K.2.1
      have SQ := Nat.le_trans LW.size (Nat.le_trans E.size LE.size)
      obtain ⟨_, e2, k2⟩ := K.dep 2 rfl rfl rfl
      refine ow_set 46 (.bool true) rfl e2 ?_
      obtain ⟨_, e8, k8⟩ := K.dep 8 rfl rfl rfl
      refine ow_set 52 (.bool (decide (j.toNat % 2 = 1))) rfl e8 ?_
      exact ow_pickT rfl rfl ⟨Below.refl _ _, Left.of rfl⟩
    · intro vs X wq K
      have LE := K.1
      have XN := K.2.1
      have SQ := Nat.le_trans LW.size (Nat.le_trans E.size LE.size)
      exact ow_fieldAddr Tryd.underlying24 rfl sz22 (by decide) rfl ⟨Below.refl _ _, Left.of rfl⟩
    · intro vs X wq K
      have LE := K.1
      have XN := K.2.1
      have SQ := Nat.le_trans LW.size (Nat.le_trans E.size LE.size)
      obtain ⟨_, e10, k10⟩ := K.dep 10 rfl rfl rfl
      refine ow_set 54 (.pointer (some ⟨gb1, 1, none⟩)) rfl e10 ?_
      exact ow_loadF Tryd.underlying22 rfl rfl (HF.on (E.drew.trans (LE.mono OY))).here.1.2 rfl ⟨Below.refl _ _, Left.of rfl⟩
    · intro vs X wq K
      have LE := K.1
      have XN := K.2.1
      have SQ := Nat.le_trans LW.size (Nat.le_trans E.size LE.size)
      obtain ⟨_, e9, k9⟩ := K.dep 9 rfl rfl rfl
      refine ow_set 53 (.bool (decide (j.toNat % 2 = 1))) rfl e9 ?_
      obtain ⟨_, e11, k11⟩ := K.dep 11 rfl rfl rfl
      refine ow_set 55 (.slice (some ⟨bx, ox, none⟩) (limbs i).length c) rfl e11 ?_
      refine ow_enter en49 rfl ((form_any (decide (j.toNat % 2 = 1)) _ c (limbs i) _ (HF.on (E.drew.trans (LE.mono OY))).here.1.1.1.1.1.2 (limbs_small i) (by rw [hli]; decide)).mono ?_)
      rintro e w2 ⟨A2, c2, rfl, o2, hb⟩
      exact ⟨_, rfl, hb, ⟨(A2, c2), rfl, (Per.ownX o2 XN).map (fun _ h => h.mono SQ)⟩⟩
    · refine ⟨_, _, _, _, _, rfl, rfl, sz24, fun vs X wq K => ⟨rfl, ?_⟩⟩
      obtain ⟨⟨A2, c2⟩, e0, _⟩ := K.dep 12 rfl rfl rfl
      exact ⟨vs 12, rfl, by rw [e0]; rfl, by rw [e0]; rfl⟩
    · intro vs X wq K
      have LE := K.1
      have XN := K.2.1
      have SQ := Nat.le_trans LW.size (Nat.le_trans E.size LE.size)
      exact ow_assign rfl ⟨Below.refl _ _, Left.of rfl⟩
  intro vs w13 LE AO AL AF AA
  have LBb10 := Bb10
  have LBb5 := Bb5
  replace Bb10 := Bb10.drew.extN LE (NotIn.cons Db10_b5 NotIn.nil)
  replace E := E.drew.trans (LE.mono OY)
  obtain ⟨⟨A2, c2⟩, e12, k12⟩ := AL.2.2.2.2.2.2.2.2.2.2.2.2.1
  obtain ⟨_, e14, k14⟩ := AL.2.2.2.2.2.2.2.2.2.2.2.2.2.2.1
  obtain ⟨v0, y0, Bx, ey, ev0⟩ := AO.1
  cases ey
  obtain rfl : vs 12 = v0 := Option.some.inj ev0
  rw [e12] at Bx
  replace Bb5 : Blk w13 gb5 24 #[.bool (decide (sgn (decide (j.toNat % 2 = 1)) (val B18 (limbs i)) < 0)), .slice A2 (limbs (sgn (decide (j.toNat % 2 = 1)) (val B18 (limbs i)))).length c2] := Bx
  clear Bx
  replace HF := HF.on E
  replace LW := LW.step E XLW
  replace E := Ext.refl (Mut [(some gb10), (some gb5)]) w13
  replace HF := HF.and ((k12.map (fun _ h => h) : Per (Mut [(some gb10), (some gb5)]) w13 (fun b => Own b w.heap.size A2 c2 (limbs (sgn (decide (j.toNat % 2 = 1)) (val B18 (limbs i)))))))
  refine ew_sub (τ := [(2, _), (3, _), (4, _), (5, .int .i64 0), (6, _)]) ⟨rfl, rfl, rfl, congrArg some e14, rfl, trivial⟩ ?_
  clear AL AF AA LE AO OY e12 e14 k12 k14 LBb10 LBb5
  refine ew_next ?_
  refine cw_ret ?_
  refine ew_then_ret ?_
  refine ew_ret (rs := [.cell 4 24, .tmp 5]) (vs := [_, _]) rfl ⟨⟨_, rfl, res_box Tryd.underlying24 rfl sz24 Bb5 rfl⟩, rfl, trivial⟩ ?_
  exact ⟨A2, c2, by rw [← hv]; rfl, by rw [← hv]; exact (HF.on E).here.2, (LW.step E XLW).toBelow⟩
theorem pow_g1 (h0 : 2000 < j) (h2i : 2 ≤ i.natAbs) (h : i.natAbs < B18) (hjb : B18 ≤ j.natAbs) : Calls Tryd.prog 38 #[.agg #[.bool (decide (i < 0)), .slice A (limbs i).length c], .agg #[.bool (decide (j < 0)), .slice B (limbs j).length d]] w (RetBigErr w 0 7) := by
  have hd : decide (j < 0) = false := decide_eq_false (by omega)
  have hip := lim_pos (j := i) (by omega)
  have hjp := lim_pos (j := j) (by omega)
  have hlen : ((limbs j).length : Int) ≠ 0 := by omega
  have hleni : ((limbs i).length : Int) ≠ 0 := by omega
  obtain ⟨bx, ox, rfl, hbx, hcx⟩ := hx.2 hip
  obtain ⟨by_, oy, rfl, hby, hcy⟩ := hy.2 hjp
  have hc0 : w.cell? ⟨bx, ox + 0, none⟩ = some (.int .u64 ((i.natAbs % B18 : Nat) : Int)) := by rw [hcx 0 hip, nth_lim0 (by omega)]
  have hd0 : w.cell? ⟨by_, oy + 0, none⟩ = some (.int .u64 (((j.natAbs % B18 : Nat) : Int))) := by rw [hcy 0 hjp, nth_lim0 (by omega)]
  refine calls_cw Tryd.func38 rfl Tryd.ntmps38 rfl ?_
  have HF : Per No w (fun _ => True) := Per.true_
  have LW := Ext.refl (No) w
  have XLW : ∀ k, (No) k → (No) k ∨ w.heap.size ≤ k := fun _ h => Or.inl h
  have E := Ext.refl No w
  replace HF := HF.on E
  replace LW := LW.step E XLW
  replace E := Ext.refl (No) w
  replace HF := HF.and (Per.nums0 hx)
  replace HF := HF.on E
  replace LW := LW.step E XLW
  replace E := Ext.refl (No) w
  replace HF := HF.and (Per.nums0 hy)
  replace HF := HF.on E
  replace LW := LW.step E XLW
  replace E := Ext.refl (No) w
  replace HF := HF.and (Per.cell0 hc0)
  replace HF := HF.on E
  replace LW := LW.step E XLW
  replace E := Ext.refl (No) w
  replace HF := HF.and (Per.cell0 hd0)
  refine cw_seq ?_
  refine cw_region ?_
  refine rs_op rfl (ow_boxB rfl ?_)
  intro gb1 w2 Bb1 Eb1 Gb1
  have Gb1 : _ ≤ gb1 := Nat.le_trans E.size Gb1
  have GLb1 := Nat.le_trans LW.size Gb1
  replace E := E.trans Eb1.no
  clear Eb1
  replace HF := HF.cons (some_ge Gb1)
  replace E := E.cons (some gb1)
  replace XLW := Mut.grow XLW (fun k e => Or.inr (Nat.le_trans LW.size ((some_ge Gb1) k e)))
  replace HF := HF.on E
  replace LW := LW.step E XLW
  have SB : ∀ k, No k → Mut [(some gb1)] k := (Mut.skip Mut.nil_)
  replace HF := HF.less SB
  replace XLW := fun k h => XLW k (SB k h)
  clear SB
  replace E := Ext.refl (No) w2
  replace HF := HF.and (Per.blkN Bb1 NotIn.nil)
  clear Bb1
  refine rs_op rfl (ow_boxB rfl ?_)
  intro gb3 w4 Bb3 Eb3 Gb3
  have Gb3 : _ ≤ gb3 := Nat.le_trans E.size Gb3
  have GLb3 := Nat.le_trans LW.size Gb3
  replace E := E.trans Eb3.no
  clear Eb3
  replace HF := HF.cons (some_ge Gb3)
  replace E := E.cons (some gb3)
  replace XLW := Mut.grow XLW (fun k e => Or.inr (Nat.le_trans LW.size ((some_ge Gb3) k e)))
  replace HF := HF.on E
  replace LW := LW.step E XLW
  have SB : ∀ k, No k → Mut [(some gb3)] k := (Mut.skip Mut.nil_)
  replace HF := HF.less SB
  replace XLW := fun k h => XLW k (SB k h)
  clear SB
  replace E := Ext.refl (No) w4
  replace HF := HF.and (Per.blkN Bb3 NotIn.nil)
  clear Bb3
  refine rs_op rfl (ow_allocB zr24 ?_)
  intro gb5 w6 Bb5 Eb5 Gb5
  have Gb5 : _ ≤ gb5 := Nat.le_trans E.size Gb5
  have GLb5 := Nat.le_trans LW.size Gb5
  replace E := E.trans Eb5.no
  clear Eb5
  replace HF := HF.cons (some_ge Gb5)
  replace E := E.cons (some gb5)
  replace XLW := Mut.grow XLW (fun k e => Or.inr (Nat.le_trans LW.size ((some_ge Gb5) k e)))
  refine rs_op rfl (ow_assign rfl ?_)
  refine rs_nil ?_
  refine ew_next ?_
  refine cw_seq ?_
  refine cw_seq ?_
  refine cw_region ?_
  refine rs_op rfl (ow_loadB Tryd.underlying24 rfl sz24 rfl (HF.on E).here.1.2 rfl ?_)
  refine rs_op rfl (ow_enter en19 rfl ((goodI _ c _ hi (HF.on E).here.1.1.1.1.1.2).mono ?_))
  rintro e w7 ⟨rfl, hb⟩
  refine ⟨_, rfl, ?_⟩
  have XC : ∀ k, (Mut [(some gb5)]) k → k < w6.heap.size := (Mut.grow Mut.none_ (some_lt Bb5.lt))
  have SC := Nat.le_trans LW.size E.size
  have Ec := Ext.of_below hb No
  replace Bb5 := Bb5.extN Ec NotIn.nil
  replace E := E.trans Ec.no
  clear hb Ec
  refine rs_op rfl (ow_not rfl ?_)
  refine rs_op rfl (ow_move rfl ?_)
  refine rs_op rfl (ow_on rfl (ow_loadB Tryd.underlying24 rfl sz24 rfl (HF.on E).here.2 rfl ?_))
  refine rs_op rfl (ow_on rfl (ow_enter en19 rfl ((goodI _ d _ hj (HF.on E).here.1.1.1.1.2).mono ?_)))
  rintro e w8 ⟨rfl, hb⟩
  refine ⟨_, rfl, ?_⟩
  have XC : ∀ k, (Mut [(some gb5)]) k → k < w7.heap.size := (Mut.grow Mut.none_ (some_lt Bb5.lt))
  have SC := Nat.le_trans LW.size E.size
  have Ec := Ext.of_below hb No
  replace Bb5 := Bb5.extN Ec NotIn.nil
  replace E := E.trans Ec.no
  clear hb Ec
  refine rs_op rfl (ow_on rfl (ow_not rfl ?_))
  refine rs_op rfl (ow_pickF rfl rfl ?_)
  refine rs_nil ?_
  refine ew_next ?_
  refine cw_else rfl ?_
  refine cw_skip ?_
  refine ew_next ?_
  refine cw_seq ?_
  refine cw_seq ?_
  refine cw_region ?_
  refine rs_op rfl (ow_fieldAddr Tryd.underlying24 rfl sz4 (by decide) rfl ?_)
  refine rs_op rfl (ow_loadF Tryd.underlying4 rfl rfl (HF.on E).here.2 rfl ?_)
  refine rs_nil ?_
  refine ew_next ?_
  refine cw_set 19 (.bool false) rfl ((by rw [hd] : (.bool (decide (j < 0)) : Value) = _)) ?_
  refine cw_else rfl ?_
  refine cw_skip ?_
  refine ew_next ?_
  refine cw_seq ?_
  refine cw_region ?_
  refine rs_op rfl (ow_enter en22 rfl ((of_any 1 _ (by decide) (by decide)).mono ?_))
  rintro e w9 ⟨A1, c1, rfl, o1, hb⟩
  refine ⟨_, rfl, ?_⟩
  have XC : ∀ k, (Mut [(some gb5)]) k → k < w8.heap.size := (Mut.grow Mut.none_ (some_lt Bb5.lt))
  have SC := Nat.le_trans LW.size E.size
  have Ec := Ext.of_below hb No
  replace Bb5 := Bb5.extN Ec NotIn.nil
  replace E := E.trans Ec.no
  clear hb Ec
  have S1 := SC
  replace HF := HF.on E
  replace LW := LW.step E XLW
  replace E := Ext.refl (Mut [(some gb5)]) w9
  replace HF := HF.and (Per.ownX o1 XC)
  refine rs_op rfl (ow_allocB zr24 ?_)
  intro gb10 w11 Bb10 Eb10 Gb10
  have Db10_b5 : Apart (some gb10) (some gb5) := Apart.of_lt (some_lt Bb5.lt) Gb10
  have Db5_b10 := Db10_b5.symm
  have Gb10 : _ ≤ gb10 := Nat.le_trans E.size Gb10
  have GLb10 := Nat.le_trans LW.size Gb10
  replace Bb5 := Bb5.extN Eb10 NotIn.nil
  replace E := E.trans Eb10.no
  clear Eb10
  replace HF := HF.cons (some_ge Gb10)
  replace E := E.cons (some gb10)
  replace XLW := Mut.grow XLW (fun k e => Or.inr (Nat.le_trans LW.size ((some_ge Gb10) k e)))
  refine rs_op0 (ow_storeM sz24 rfl rfl Bb10 rfl rfl (Nat.le_of_ble_eq_true rfl) ?_)
  intro w12 Bx Eb10
  replace Bb10 := Bx
  clear Bx
  replace Bb5 := Bb5.extN Eb10 (NotIn.cons Db5_b10 NotIn.nil)
  replace E := E.step1 Eb10 Mut.head
  clear Eb10
  refine rs_nil ?_
  refine ew_next ?_
  refine cw_seq ?_
  refine cw_seq ?_
  refine cw_region ?_
  refine rs_op rfl (ow_fieldAddr Tryd.underlying24 rfl sz22 (by decide) rfl ?_)
  refine rs_op rfl (ow_loadF Tryd.underlying22 rfl rfl (HF.on E).here.1.2 rfl ?_)
  refine rs_op rfl (ow_len Tryd.underlying22 rfl ?_)
  refine rs_op rfl (ow_eql rfl rfl ?_)
  refine rs_nil ?_
  refine ew_next ?_
  refine cw_set 25 (.bool false) rfl ((by rw [beq_eq_false_iff_ne.2 hlen] : (.bool (((((limbs j).length : Nat)) : Int) == 0) : Value) = _)) ?_
  refine cw_else rfl ?_
  refine cw_skip ?_
  refine ew_next ?_
  refine cw_seq ?_
  refine cw_seq ?_
  refine cw_region ?_
  refine rs_op rfl (ow_fieldAddr Tryd.underlying24 rfl sz22 (by decide) rfl ?_)
  refine rs_op rfl (ow_loadF Tryd.underlying22 rfl rfl (HF.on E).here.1.1.2 rfl ?_)
  refine rs_op rfl (ow_len Tryd.underlying22 rfl ?_)
  refine rs_op rfl (ow_eql rfl rfl ?_)
  refine rs_op rfl (ow_move rfl ?_)
  refine rs_set 31 (.bool false) rfl ((by rw [beq_eq_false_iff_ne.2 hleni] : (.bool (((((limbs i).length : Nat)) : Int) == 0) : Value) = _)) ?_
  refine rs_op rfl (ow_on rfl (ow_fieldAddr Tryd.underlying24 rfl sz22 (by decide) rfl ?_))
  refine rs_op rfl (ow_on rfl (ow_loadF Tryd.underlying22 rfl rfl (HF.on E).here.1.1.2 rfl ?_))
  refine rs_op rfl (ow_on rfl (ow_len Tryd.underlying22 rfl ?_))
  refine rs_op rfl (ow_on rfl (ow_eql rfl rfl ?_))
  refine rs_op rfl (ow_on rfl (ow_move rfl ?_))
  have h1 : ((limbs i).length : Int) = 1 := by rw [lim_len1 (by omega) h]; rfl
  refine rs_set 36 (.bool true) rfl ((by rw [h1]; rfl : (.bool (((((limbs i).length : Nat)) : Int) == 1) : Value) = _)) ?_
  refine rs_op rfl (ow_on rfl (ow_fieldAddr Tryd.underlying24 rfl sz22 (by decide) rfl ?_))
  refine rs_op rfl (ow_on rfl (ow_loadF Tryd.underlying22 rfl rfl (HF.on E).here.1.1.2 rfl ?_))
  refine rs_op rfl (ow_on rfl (ow_indexAddr1 (j := 0) Tryd.underlying22 sz63 rfl rfl rfl hip ?_))
  refine rs_op rfl (ow_on rfl (ow_load1 Tryd.underlying63 rfl rfl (HF.on E).here.1.1.1.1.2 ?_))
  refine rs_op rfl (ow_on rfl (ow_eql rfl rfl ?_))
  refine rs_op rfl (ow_on rfl (ow_pickT rfl rfl ?_))
  refine rs_op rfl (ow_pickF rfl rfl ?_)
  refine rs_nil ?_
  refine ew_next ?_
  refine cw_set 43 (.bool false) rfl ((by rw [Nat.mod_eq_of_lt h, beq_eq_false_iff_ne.2 (by omega)] : (.bool (((i.natAbs % B18 : Nat) : Int) == 1) : Value) = _)) ?_
  refine cw_else rfl ?_
  refine cw_skip ?_
  refine ew_next ?_
  refine cw_seq ?_
  refine cw_seq ?_
  refine cw_region ?_
  refine rs_op rfl (ow_fieldAddr Tryd.underlying24 rfl sz22 (by decide) rfl ?_)
  refine rs_op rfl (ow_loadF Tryd.underlying22 rfl rfl (HF.on E).here.1.2 rfl ?_)
  refine rs_op rfl (ow_len Tryd.underlying22 rfl ?_)
  refine rs_op rfl (ow_gtr rfl rfl ?_)
  refine rs_op rfl (ow_move rfl ?_)
  have h2 : (1 : Int) < ((limbs j).length : Int) := by have := lim_len2 hjb; omega
  refine rs_set 61 (.bool true) rfl ((by rw [decide_eq_true h2] : (.bool (decide (1 < ((((limbs j).length : Nat)) : Int))) : Value) = _)) ?_
  refine rs_op rfl (ow_off rfl ?_)
  refine rs_op rfl (ow_off rfl ?_)
  refine rs_op rfl (ow_off rfl ?_)
  refine rs_op rfl (ow_off rfl ?_)
  refine rs_op rfl (ow_off rfl ?_)
  refine rs_op rfl (ow_pickT rfl rfl ?_)
  refine rs_nil ?_
  refine ew_next ?_
  refine cw_then rfl ?_
  refine cw_seq ?_
  refine cw_region ?_
  refine rs_op rfl (ow_build (cs := #[.bool false, .slice none 0 0]) pl24 zr24 rfl rfl ?_)
  refine rs_op0 (ow_storeM sz24 rfl rfl Bb5 rfl rfl (Nat.le_of_ble_eq_true rfl) ?_)
  intro w13 Bx Eb5
  replace Bb5 := Bx
  clear Bx
  replace Bb10 := Bb10.extN Eb5 (NotIn.cons Db10_b5 NotIn.nil)
  replace E := E.step1 Eb5 (Mut.tail Mut.head)
  clear Eb5
  refine rs_op rfl (ow_assign rfl ?_)
  refine rs_nil ?_
  refine ew_next ?_
  refine cw_ret ?_
  refine ew_then_ret ?_
  refine ew_ret (rs := [.cell 4 24, .tmp 5]) (vs := [_, _]) rfl ⟨⟨_, rfl, res_box Tryd.underlying24 rfl sz24 Bb5 rfl⟩, rfl, trivial⟩ ?_
  exact retErr_zero (LW.step E XLW).toBelow
theorem pow_g2 (h0 : 2000 < j) (h2i : 2 ≤ i.natAbs) (h : B18 ≤ i.natAbs) (hjb : B18 ≤ j.natAbs) : Calls Tryd.prog 38 #[.agg #[.bool (decide (i < 0)), .slice A (limbs i).length c], .agg #[.bool (decide (j < 0)), .slice B (limbs j).length d]] w (RetBigErr w 0 7) := by
  have hd : decide (j < 0) = false := decide_eq_false (by omega)
  have hip := lim_pos (j := i) (by omega)
  have hjp := lim_pos (j := j) (by omega)
  have hlen : ((limbs j).length : Int) ≠ 0 := by omega
  have hleni : ((limbs i).length : Int) ≠ 0 := by omega
  obtain ⟨bx, ox, rfl, hbx, hcx⟩ := hx.2 hip
  obtain ⟨by_, oy, rfl, hby, hcy⟩ := hy.2 hjp
  have hc0 : w.cell? ⟨bx, ox + 0, none⟩ = some (.int .u64 ((i.natAbs % B18 : Nat) : Int)) := by rw [hcx 0 hip, nth_lim0 (by omega)]
  have hd0 : w.cell? ⟨by_, oy + 0, none⟩ = some (.int .u64 (((j.natAbs % B18 : Nat) : Int))) := by rw [hcy 0 hjp, nth_lim0 (by omega)]
  refine calls_cw Tryd.func38 rfl Tryd.ntmps38 rfl ?_
  have HF : Per No w (fun _ => True) := Per.true_
  have LW := Ext.refl (No) w
  have XLW : ∀ k, (No) k → (No) k ∨ w.heap.size ≤ k := fun _ h => Or.inl h
  have E := Ext.refl No w
  replace HF := HF.on E
  replace LW := LW.step E XLW
  replace E := Ext.refl (No) w
  replace HF := HF.and (Per.nums0 hx)
  replace HF := HF.on E
  replace LW := LW.step E XLW
  replace E := Ext.refl (No) w
  replace HF := HF.and (Per.nums0 hy)
  replace HF := HF.on E
  replace LW := LW.step E XLW
  replace E := Ext.refl (No) w
  replace HF := HF.and (Per.cell0 hc0)
  replace HF := HF.on E
  replace LW := LW.step E XLW
  replace E := Ext.refl (No) w
  replace HF := HF.and (Per.cell0 hd0)
  refine cw_seq ?_
  refine cw_region ?_
  refine rs_op rfl (ow_boxB rfl ?_)
  intro gb1 w2 Bb1 Eb1 Gb1
  have Gb1 : _ ≤ gb1 := Nat.le_trans E.size Gb1
  have GLb1 := Nat.le_trans LW.size Gb1
  replace E := E.trans Eb1.no
  clear Eb1
  replace HF := HF.cons (some_ge Gb1)
  replace E := E.cons (some gb1)
  replace XLW := Mut.grow XLW (fun k e => Or.inr (Nat.le_trans LW.size ((some_ge Gb1) k e)))
  replace HF := HF.on E
  replace LW := LW.step E XLW
  have SB : ∀ k, No k → Mut [(some gb1)] k := (Mut.skip Mut.nil_)
  replace HF := HF.less SB
  replace XLW := fun k h => XLW k (SB k h)
  clear SB
  replace E := Ext.refl (No) w2
  replace HF := HF.and (Per.blkN Bb1 NotIn.nil)
  clear Bb1
  refine rs_op rfl (ow_boxB rfl ?_)
  intro gb3 w4 Bb3 Eb3 Gb3
  have Gb3 : _ ≤ gb3 := Nat.le_trans E.size Gb3
  have GLb3 := Nat.le_trans LW.size Gb3
  replace E := E.trans Eb3.no
  clear Eb3
  replace HF := HF.cons (some_ge Gb3)
  replace E := E.cons (some gb3)
  replace XLW := Mut.grow XLW (fun k e => Or.inr (Nat.le_trans LW.size ((some_ge Gb3) k e)))
  replace HF := HF.on E
  replace LW := LW.step E XLW
  have SB : ∀ k, No k → Mut [(some gb3)] k := (Mut.skip Mut.nil_)
  replace HF := HF.less SB
  replace XLW := fun k h => XLW k (SB k h)
  clear SB
  replace E := Ext.refl (No) w4
  replace HF := HF.and (Per.blkN Bb3 NotIn.nil)
  clear Bb3
  refine rs_op rfl (ow_allocB zr24 ?_)
  intro gb5 w6 Bb5 Eb5 Gb5
  have Gb5 : _ ≤ gb5 := Nat.le_trans E.size Gb5
  have GLb5 := Nat.le_trans LW.size Gb5
  replace E := E.trans Eb5.no
  clear Eb5
  replace HF := HF.cons (some_ge Gb5)
  replace E := E.cons (some gb5)
  replace XLW := Mut.grow XLW (fun k e => Or.inr (Nat.le_trans LW.size ((some_ge Gb5) k e)))
  refine rs_op rfl (ow_assign rfl ?_)
  refine rs_nil ?_
  refine ew_next ?_
  refine cw_seq ?_
  refine cw_seq ?_
  refine cw_region ?_
  refine rs_op rfl (ow_loadB Tryd.underlying24 rfl sz24 rfl (HF.on E).here.1.2 rfl ?_)
  refine rs_op rfl (ow_enter en19 rfl ((goodI _ c _ hi (HF.on E).here.1.1.1.1.1.2).mono ?_))
  rintro e w7 ⟨rfl, hb⟩
  refine ⟨_, rfl, ?_⟩
  have XC : ∀ k, (Mut [(some gb5)]) k → k < w6.heap.size := (Mut.grow Mut.none_ (some_lt Bb5.lt))
  have SC := Nat.le_trans LW.size E.size
  have Ec := Ext.of_below hb No
  replace Bb5 := Bb5.extN Ec NotIn.nil
  replace E := E.trans Ec.no
  clear hb Ec
  refine rs_op rfl (ow_not rfl ?_)
  refine rs_op rfl (ow_move rfl ?_)
  refine rs_op rfl (ow_on rfl (ow_loadB Tryd.underlying24 rfl sz24 rfl (HF.on E).here.2 rfl ?_))
  refine rs_op rfl (ow_on rfl (ow_enter en19 rfl ((goodI _ d _ hj (HF.on E).here.1.1.1.1.2).mono ?_)))
  rintro e w8 ⟨rfl, hb⟩
  refine ⟨_, rfl, ?_⟩
  have XC : ∀ k, (Mut [(some gb5)]) k → k < w7.heap.size := (Mut.grow Mut.none_ (some_lt Bb5.lt))
  have SC := Nat.le_trans LW.size E.size
  have Ec := Ext.of_below hb No
  replace Bb5 := Bb5.extN Ec NotIn.nil
  replace E := E.trans Ec.no
  clear hb Ec
  refine rs_op rfl (ow_on rfl (ow_not rfl ?_))
  refine rs_op rfl (ow_pickF rfl rfl ?_)
  refine rs_nil ?_
  refine ew_next ?_
  refine cw_else rfl ?_
  refine cw_skip ?_
  refine ew_next ?_
  refine cw_seq ?_
  refine cw_seq ?_
  refine cw_region ?_
  refine rs_op rfl (ow_fieldAddr Tryd.underlying24 rfl sz4 (by decide) rfl ?_)
  refine rs_op rfl (ow_loadF Tryd.underlying4 rfl rfl (HF.on E).here.2 rfl ?_)
  refine rs_nil ?_
  refine ew_next ?_
  refine cw_set 19 (.bool false) rfl ((by rw [hd] : (.bool (decide (j < 0)) : Value) = _)) ?_
  refine cw_else rfl ?_
  refine cw_skip ?_
  refine ew_next ?_
  refine cw_seq ?_
  refine cw_region ?_
  refine rs_op rfl (ow_enter en22 rfl ((of_any 1 _ (by decide) (by decide)).mono ?_))
  rintro e w9 ⟨A1, c1, rfl, o1, hb⟩
  refine ⟨_, rfl, ?_⟩
  have XC : ∀ k, (Mut [(some gb5)]) k → k < w8.heap.size := (Mut.grow Mut.none_ (some_lt Bb5.lt))
  have SC := Nat.le_trans LW.size E.size
  have Ec := Ext.of_below hb No
  replace Bb5 := Bb5.extN Ec NotIn.nil
  replace E := E.trans Ec.no
  clear hb Ec
  have S1 := SC
  replace HF := HF.on E
  replace LW := LW.step E XLW
  replace E := Ext.refl (Mut [(some gb5)]) w9
  replace HF := HF.and (Per.ownX o1 XC)
  refine rs_op rfl (ow_allocB zr24 ?_)
  intro gb10 w11 Bb10 Eb10 Gb10
  have Db10_b5 : Apart (some gb10) (some gb5) := Apart.of_lt (some_lt Bb5.lt) Gb10
  have Db5_b10 := Db10_b5.symm
  have Gb10 : _ ≤ gb10 := Nat.le_trans E.size Gb10
  have GLb10 := Nat.le_trans LW.size Gb10
  replace Bb5 := Bb5.extN Eb10 NotIn.nil
  replace E := E.trans Eb10.no
  clear Eb10
  replace HF := HF.cons (some_ge Gb10)
  replace E := E.cons (some gb10)
  replace XLW := Mut.grow XLW (fun k e => Or.inr (Nat.le_trans LW.size ((some_ge Gb10) k e)))
  refine rs_op0 (ow_storeM sz24 rfl rfl Bb10 rfl rfl (Nat.le_of_ble_eq_true rfl) ?_)
  intro w12 Bx Eb10
  replace Bb10 := Bx
  clear Bx
  replace Bb5 := Bb5.extN Eb10 (NotIn.cons Db5_b10 NotIn.nil)
  replace E := E.step1 Eb10 Mut.head
  clear Eb10
  refine rs_nil ?_
  refine ew_next ?_
  refine cw_seq ?_
  refine cw_seq ?_
  refine cw_region ?_
  refine rs_op rfl (ow_fieldAddr Tryd.underlying24 rfl sz22 (by decide) rfl ?_)
  refine rs_op rfl (ow_loadF Tryd.underlying22 rfl rfl (HF.on E).here.1.2 rfl ?_)
  refine rs_op rfl (ow_len Tryd.underlying22 rfl ?_)
  refine rs_op rfl (ow_eql rfl rfl ?_)
  refine rs_nil ?_
  refine ew_next ?_
  refine cw_set 25 (.bool false) rfl ((by rw [beq_eq_false_iff_ne.2 hlen] : (.bool (((((limbs j).length : Nat)) : Int) == 0) : Value) = _)) ?_
  refine cw_else rfl ?_
  refine cw_skip ?_
  refine ew_next ?_
  refine cw_seq ?_
  refine cw_seq ?_
  refine cw_region ?_
  refine rs_op rfl (ow_fieldAddr Tryd.underlying24 rfl sz22 (by decide) rfl ?_)
  refine rs_op rfl (ow_loadF Tryd.underlying22 rfl rfl (HF.on E).here.1.1.2 rfl ?_)
  refine rs_op rfl (ow_len Tryd.underlying22 rfl ?_)
  refine rs_op rfl (ow_eql rfl rfl ?_)
  refine rs_op rfl (ow_move rfl ?_)
  refine rs_set 31 (.bool false) rfl ((by rw [beq_eq_false_iff_ne.2 hleni] : (.bool (((((limbs i).length : Nat)) : Int) == 0) : Value) = _)) ?_
  refine rs_op rfl (ow_on rfl (ow_fieldAddr Tryd.underlying24 rfl sz22 (by decide) rfl ?_))
  refine rs_op rfl (ow_on rfl (ow_loadF Tryd.underlying22 rfl rfl (HF.on E).here.1.1.2 rfl ?_))
  refine rs_op rfl (ow_on rfl (ow_len Tryd.underlying22 rfl ?_))
  refine rs_op rfl (ow_on rfl (ow_eql rfl rfl ?_))
  refine rs_op rfl (ow_on rfl (ow_move rfl ?_))
  have h1 : ((limbs i).length : Int) ≠ 1 := by have := lim_len2 h; omega
  refine rs_set 36 (.bool false) rfl ((by rw [beq_eq_false_iff_ne.2 h1] : (.bool (((((limbs i).length : Nat)) : Int) == 1) : Value) = _)) ?_
  refine rs_op rfl (ow_off rfl ?_)
  refine rs_op rfl (ow_off rfl ?_)
  refine rs_op rfl (ow_off rfl ?_)
  refine rs_op rfl (ow_off rfl ?_)
  refine rs_op rfl (ow_off rfl ?_)
  refine rs_op rfl (ow_on rfl (ow_pickF rfl rfl ?_))
  refine rs_op rfl (ow_pickF rfl rfl ?_)
  refine rs_nil ?_
  refine ew_next ?_
  refine cw_else rfl ?_
  refine cw_skip ?_
  refine ew_next ?_
  refine cw_seq ?_
  refine cw_seq ?_
  refine cw_region ?_
  refine rs_op rfl (ow_fieldAddr Tryd.underlying24 rfl sz22 (by decide) rfl ?_)
  refine rs_op rfl (ow_loadF Tryd.underlying22 rfl rfl (HF.on E).here.1.2 rfl ?_)
  refine rs_op rfl (ow_len Tryd.underlying22 rfl ?_)
  refine rs_op rfl (ow_gtr rfl rfl ?_)
  refine rs_op rfl (ow_move rfl ?_)
  have h2 : (1 : Int) < ((limbs j).length : Int) := by have := lim_len2 hjb; omega
  refine rs_set 61 (.bool true) rfl ((by rw [decide_eq_true h2] : (.bool (decide (1 < ((((limbs j).length : Nat)) : Int))) : Value) = _)) ?_
  refine rs_op rfl (ow_off rfl ?_)
  refine rs_op rfl (ow_off rfl ?_)
  refine rs_op rfl (ow_off rfl ?_)
  refine rs_op rfl (ow_off rfl ?_)
  refine rs_op rfl (ow_off rfl ?_)
  refine rs_op rfl (ow_pickT rfl rfl ?_)
  refine rs_nil ?_
  refine ew_next ?_
  refine cw_then rfl ?_
  refine cw_seq ?_
  refine cw_region ?_
  refine rs_op rfl (ow_build (cs := #[.bool false, .slice none 0 0]) pl24 zr24 rfl rfl ?_)
  refine rs_op0 (ow_storeM sz24 rfl rfl Bb5 rfl rfl (Nat.le_of_ble_eq_true rfl) ?_)
  intro w13 Bx Eb5
  replace Bb5 := Bx
  clear Bx
  replace Bb10 := Bb10.extN Eb5 (NotIn.cons Db10_b5 NotIn.nil)
  replace E := E.step1 Eb5 (Mut.tail Mut.head)
  clear Eb5
  refine rs_op rfl (ow_assign rfl ?_)
  refine rs_nil ?_
  refine ew_next ?_
  refine cw_ret ?_
  refine ew_then_ret ?_
  refine ew_ret (rs := [.cell 4 24, .tmp 5]) (vs := [_, _]) rfl ⟨⟨_, rfl, res_box Tryd.underlying24 rfl sz24 Bb5 rfl⟩, rfl, trivial⟩ ?_
  exact retErr_zero (LW.step E XLW).toBelow
theorem pow_g3 (h0 : 2000 < j) (h2i : 2 ≤ i.natAbs) (h : i.natAbs < B18) (hjb : j.natAbs < B18) : Calls Tryd.prog 38 #[.agg #[.bool (decide (i < 0)), .slice A (limbs i).length c], .agg #[.bool (decide (j < 0)), .slice B (limbs j).length d]] w (RetBigErr w 0 7) := by
  have hd : decide (j < 0) = false := decide_eq_false (by omega)
  have hip := lim_pos (j := i) (by omega)
  have hjp := lim_pos (j := j) (by omega)
  have hlen : ((limbs j).length : Int) ≠ 0 := by omega
  have hleni : ((limbs i).length : Int) ≠ 0 := by omega
  obtain ⟨bx, ox, rfl, hbx, hcx⟩ := hx.2 hip
  obtain ⟨by_, oy, rfl, hby, hcy⟩ := hy.2 hjp
  have hc0 : w.cell? ⟨bx, ox + 0, none⟩ = some (.int .u64 ((i.natAbs % B18 : Nat) : Int)) := by rw [hcx 0 hip, nth_lim0 (by omega)]
  have hd0 : w.cell? ⟨by_, oy + 0, none⟩ = some (.int .u64 (((j.natAbs % B18 : Nat) : Int))) := by rw [hcy 0 hjp, nth_lim0 (by omega)]
  refine calls_cw Tryd.func38 rfl Tryd.ntmps38 rfl ?_
  have HF : Per No w (fun _ => True) := Per.true_
  have LW := Ext.refl (No) w
  have XLW : ∀ k, (No) k → (No) k ∨ w.heap.size ≤ k := fun _ h => Or.inl h
  have E := Ext.refl No w
  replace HF := HF.on E
  replace LW := LW.step E XLW
  replace E := Ext.refl (No) w
  replace HF := HF.and (Per.nums0 hx)
  replace HF := HF.on E
  replace LW := LW.step E XLW
  replace E := Ext.refl (No) w
  replace HF := HF.and (Per.nums0 hy)
  replace HF := HF.on E
  replace LW := LW.step E XLW
  replace E := Ext.refl (No) w
  replace HF := HF.and (Per.cell0 hc0)
  replace HF := HF.on E
  replace LW := LW.step E XLW
  replace E := Ext.refl (No) w
  replace HF := HF.and (Per.cell0 hd0)
  refine cw_seq ?_
  refine cw_region ?_
  refine rs_op rfl (ow_boxB rfl ?_)
  intro gb1 w2 Bb1 Eb1 Gb1
  have Gb1 : _ ≤ gb1 := Nat.le_trans E.size Gb1
  have GLb1 := Nat.le_trans LW.size Gb1
  replace E := E.trans Eb1.no
  clear Eb1
  replace HF := HF.cons (some_ge Gb1)
  replace E := E.cons (some gb1)
  replace XLW := Mut.grow XLW (fun k e => Or.inr (Nat.le_trans LW.size ((some_ge Gb1) k e)))
  replace HF := HF.on E
  replace LW := LW.step E XLW
  have SB : ∀ k, No k → Mut [(some gb1)] k := (Mut.skip Mut.nil_)
  replace HF := HF.less SB
  replace XLW := fun k h => XLW k (SB k h)
  clear SB
  replace E := Ext.refl (No) w2
  replace HF := HF.and (Per.blkN Bb1 NotIn.nil)
  clear Bb1
  refine rs_op rfl (ow_boxB rfl ?_)
  intro gb3 w4 Bb3 Eb3 Gb3
  have Gb3 : _ ≤ gb3 := Nat.le_trans E.size Gb3
  have GLb3 := Nat.le_trans LW.size Gb3
  replace E := E.trans Eb3.no
  clear Eb3
  replace HF := HF.cons (some_ge Gb3)
  replace E := E.cons (some gb3)
  replace XLW := Mut.grow XLW (fun k e => Or.inr (Nat.le_trans LW.size ((some_ge Gb3) k e)))
  replace HF := HF.on E
  replace LW := LW.step E XLW
  have SB : ∀ k, No k → Mut [(some gb3)] k := (Mut.skip Mut.nil_)
  replace HF := HF.less SB
  replace XLW := fun k h => XLW k (SB k h)
  clear SB
  replace E := Ext.refl (No) w4
  replace HF := HF.and (Per.blkN Bb3 NotIn.nil)
  clear Bb3
  refine rs_op rfl (ow_allocB zr24 ?_)
  intro gb5 w6 Bb5 Eb5 Gb5
  have Gb5 : _ ≤ gb5 := Nat.le_trans E.size Gb5
  have GLb5 := Nat.le_trans LW.size Gb5
  replace E := E.trans Eb5.no
  clear Eb5
  replace HF := HF.cons (some_ge Gb5)
  replace E := E.cons (some gb5)
  replace XLW := Mut.grow XLW (fun k e => Or.inr (Nat.le_trans LW.size ((some_ge Gb5) k e)))
  refine rs_op rfl (ow_assign rfl ?_)
  refine rs_nil ?_
  refine ew_next ?_
  refine cw_seq ?_
  refine cw_seq ?_
  refine cw_region ?_
  refine rs_op rfl (ow_loadB Tryd.underlying24 rfl sz24 rfl (HF.on E).here.1.2 rfl ?_)
  refine rs_op rfl (ow_enter en19 rfl ((goodI _ c _ hi (HF.on E).here.1.1.1.1.1.2).mono ?_))
  rintro e w7 ⟨rfl, hb⟩
  refine ⟨_, rfl, ?_⟩
  have XC : ∀ k, (Mut [(some gb5)]) k → k < w6.heap.size := (Mut.grow Mut.none_ (some_lt Bb5.lt))
  have SC := Nat.le_trans LW.size E.size
  have Ec := Ext.of_below hb No
  replace Bb5 := Bb5.extN Ec NotIn.nil
  replace E := E.trans Ec.no
  clear hb Ec
  refine rs_op rfl (ow_not rfl ?_)
  refine rs_op rfl (ow_move rfl ?_)
  refine rs_op rfl (ow_on rfl (ow_loadB Tryd.underlying24 rfl sz24 rfl (HF.on E).here.2 rfl ?_))
  refine rs_op rfl (ow_on rfl (ow_enter en19 rfl ((goodI _ d _ hj (HF.on E).here.1.1.1.1.2).mono ?_)))
  rintro e w8 ⟨rfl, hb⟩
  refine ⟨_, rfl, ?_⟩
  have XC : ∀ k, (Mut [(some gb5)]) k → k < w7.heap.size := (Mut.grow Mut.none_ (some_lt Bb5.lt))
  have SC := Nat.le_trans LW.size E.size
  have Ec := Ext.of_below hb No
  replace Bb5 := Bb5.extN Ec NotIn.nil
  replace E := E.trans Ec.no
  clear hb Ec
  refine rs_op rfl (ow_on rfl (ow_not rfl ?_))
  refine rs_op rfl (ow_pickF rfl rfl ?_)
  refine rs_nil ?_
  refine ew_next ?_
  refine cw_else rfl ?_
  refine cw_skip ?_
  refine ew_next ?_
  refine cw_seq ?_
  refine cw_seq ?_
  refine cw_region ?_
  refine rs_op rfl (ow_fieldAddr Tryd.underlying24 rfl sz4 (by decide) rfl ?_)
  refine rs_op rfl (ow_loadF Tryd.underlying4 rfl rfl (HF.on E).here.2 rfl ?_)
  refine rs_nil ?_
  refine ew_next ?_
  refine cw_set 19 (.bool false) rfl ((by rw [hd] : (.bool (decide (j < 0)) : Value) = _)) ?_
  refine cw_else rfl ?_
  refine cw_skip ?_
  refine ew_next ?_
  refine cw_seq ?_
  refine cw_region ?_
  refine rs_op rfl (ow_enter en22 rfl ((of_any 1 _ (by decide) (by decide)).mono ?_))
  rintro e w9 ⟨A1, c1, rfl, o1, hb⟩
  refine ⟨_, rfl, ?_⟩
  have XC : ∀ k, (Mut [(some gb5)]) k → k < w8.heap.size := (Mut.grow Mut.none_ (some_lt Bb5.lt))
  have SC := Nat.le_trans LW.size E.size
  have Ec := Ext.of_below hb No
  replace Bb5 := Bb5.extN Ec NotIn.nil
  replace E := E.trans Ec.no
  clear hb Ec
  have S1 := SC
  replace HF := HF.on E
  replace LW := LW.step E XLW
  replace E := Ext.refl (Mut [(some gb5)]) w9
  replace HF := HF.and (Per.ownX o1 XC)
  refine rs_op rfl (ow_allocB zr24 ?_)
  intro gb10 w11 Bb10 Eb10 Gb10
  have Db10_b5 : Apart (some gb10) (some gb5) := Apart.of_lt (some_lt Bb5.lt) Gb10
  have Db5_b10 := Db10_b5.symm
  have Gb10 : _ ≤ gb10 := Nat.le_trans E.size Gb10
  have GLb10 := Nat.le_trans LW.size Gb10
  replace Bb5 := Bb5.extN Eb10 NotIn.nil
  replace E := E.trans Eb10.no
  clear Eb10
  replace HF := HF.cons (some_ge Gb10)
  replace E := E.cons (some gb10)
  replace XLW := Mut.grow XLW (fun k e => Or.inr (Nat.le_trans LW.size ((some_ge Gb10) k e)))
  refine rs_op0 (ow_storeM sz24 rfl rfl Bb10 rfl rfl (Nat.le_of_ble_eq_true rfl) ?_)
  intro w12 Bx Eb10
  replace Bb10 := Bx
  clear Bx
  replace Bb5 := Bb5.extN Eb10 (NotIn.cons Db5_b10 NotIn.nil)
  replace E := E.step1 Eb10 Mut.head
  clear Eb10
  refine rs_nil ?_
  refine ew_next ?_
  refine cw_seq ?_
  refine cw_seq ?_
  refine cw_region ?_
  refine rs_op rfl (ow_fieldAddr Tryd.underlying24 rfl sz22 (by decide) rfl ?_)
  refine rs_op rfl (ow_loadF Tryd.underlying22 rfl rfl (HF.on E).here.1.2 rfl ?_)
  refine rs_op rfl (ow_len Tryd.underlying22 rfl ?_)
  refine rs_op rfl (ow_eql rfl rfl ?_)
  refine rs_nil ?_
  refine ew_next ?_
  refine cw_set 25 (.bool false) rfl ((by rw [beq_eq_false_iff_ne.2 hlen] : (.bool (((((limbs j).length : Nat)) : Int) == 0) : Value) = _)) ?_
  refine cw_else rfl ?_
  refine cw_skip ?_
  refine ew_next ?_
  refine cw_seq ?_
  refine cw_seq ?_
  refine cw_region ?_
  refine rs_op rfl (ow_fieldAddr Tryd.underlying24 rfl sz22 (by decide) rfl ?_)
  refine rs_op rfl (ow_loadF Tryd.underlying22 rfl rfl (HF.on E).here.1.1.2 rfl ?_)
  refine rs_op rfl (ow_len Tryd.underlying22 rfl ?_)
  refine rs_op rfl (ow_eql rfl rfl ?_)
  refine rs_op rfl (ow_move rfl ?_)
  refine rs_set 31 (.bool false) rfl ((by rw [beq_eq_false_iff_ne.2 hleni] : (.bool (((((limbs i).length : Nat)) : Int) == 0) : Value) = _)) ?_
  refine rs_op rfl (ow_on rfl (ow_fieldAddr Tryd.underlying24 rfl sz22 (by decide) rfl ?_))
  refine rs_op rfl (ow_on rfl (ow_loadF Tryd.underlying22 rfl rfl (HF.on E).here.1.1.2 rfl ?_))
  refine rs_op rfl (ow_on rfl (ow_len Tryd.underlying22 rfl ?_))
  refine rs_op rfl (ow_on rfl (ow_eql rfl rfl ?_))
  refine rs_op rfl (ow_on rfl (ow_move rfl ?_))
  have h1 : ((limbs i).length : Int) = 1 := by rw [lim_len1 (by omega) h]; rfl
  refine rs_set 36 (.bool true) rfl ((by rw [h1]; rfl : (.bool (((((limbs i).length : Nat)) : Int) == 1) : Value) = _)) ?_
  refine rs_op rfl (ow_on rfl (ow_fieldAddr Tryd.underlying24 rfl sz22 (by decide) rfl ?_))
  refine rs_op rfl (ow_on rfl (ow_loadF Tryd.underlying22 rfl rfl (HF.on E).here.1.1.2 rfl ?_))
  refine rs_op rfl (ow_on rfl (ow_indexAddr1 (j := 0) Tryd.underlying22 sz63 rfl rfl rfl hip ?_))
  refine rs_op rfl (ow_on rfl (ow_load1 Tryd.underlying63 rfl rfl (HF.on E).here.1.1.1.1.2 ?_))
  refine rs_op rfl (ow_on rfl (ow_eql rfl rfl ?_))
  refine rs_op rfl (ow_on rfl (ow_pickT rfl rfl ?_))
  refine rs_op rfl (ow_pickF rfl rfl ?_)
  refine rs_nil ?_
  refine ew_next ?_
  refine cw_set 43 (.bool false) rfl ((by rw [Nat.mod_eq_of_lt h, beq_eq_false_iff_ne.2 (by omega)] : (.bool (((i.natAbs % B18 : Nat) : Int) == 1) : Value) = _)) ?_
  refine cw_else rfl ?_
  refine cw_skip ?_
  refine ew_next ?_
  refine cw_seq ?_
  refine cw_seq ?_
  refine cw_region ?_
  refine rs_op rfl (ow_fieldAddr Tryd.underlying24 rfl sz22 (by decide) rfl ?_)
  refine rs_op rfl (ow_loadF Tryd.underlying22 rfl rfl (HF.on E).here.1.2 rfl ?_)
  refine rs_op rfl (ow_len Tryd.underlying22 rfl ?_)
  refine rs_op rfl (ow_gtr rfl rfl ?_)
  refine rs_op rfl (ow_move rfl ?_)
  have h2 : ¬ (1 : Int) < ((limbs j).length : Int) := by rw [lim_len1 (by omega) hjb]; decide
  refine rs_set 61 (.bool false) rfl ((by rw [decide_eq_false h2] : (.bool (decide (1 < ((((limbs j).length : Nat)) : Int))) : Value) = _)) ?_
  refine rs_op rfl (ow_on rfl (ow_fieldAddr Tryd.underlying24 rfl sz22 (by decide) rfl ?_))
  refine rs_op rfl (ow_on rfl (ow_loadF Tryd.underlying22 rfl rfl (HF.on E).here.1.2 rfl ?_))
  refine rs_op rfl (ow_on rfl (ow_indexAddr1 (j := 0) Tryd.underlying22 sz63 rfl rfl rfl hjp ?_))
  refine rs_op rfl (ow_on rfl (ow_load1 Tryd.underlying63 rfl rfl (HF.on E).here.1.1.1.2 ?_))
  refine rs_op rfl (ow_on rfl (ow_gtr rfl rfl ?_))
  refine rs_op rfl (ow_pickF rfl rfl ?_)
  refine rs_nil ?_
  refine ew_next ?_
  refine cw_set 67 (.bool true) rfl ((by rw [Nat.mod_eq_of_lt hjb, decide_eq_true (by omega)] : (.bool (decide (2000 < (((j.natAbs % B18 : Nat) : Int)))) : Value) = _)) ?_
  refine cw_then rfl ?_
  refine cw_seq ?_
  refine cw_region ?_
  refine rs_op rfl (ow_build (cs := #[.bool false, .slice none 0 0]) pl24 zr24 rfl rfl ?_)
  refine rs_op0 (ow_storeM sz24 rfl rfl Bb5 rfl rfl (Nat.le_of_ble_eq_true rfl) ?_)
  intro w13 Bx Eb5
  replace Bb5 := Bx
  clear Bx
  replace Bb10 := Bb10.extN Eb5 (NotIn.cons Db10_b5 NotIn.nil)
  replace E := E.step1 Eb5 (Mut.tail Mut.head)
  clear Eb5
  refine rs_op rfl (ow_assign rfl ?_)
  refine rs_nil ?_
  refine ew_next ?_
  refine cw_ret ?_
  refine ew_then_ret ?_
  refine ew_ret (rs := [.cell 4 24, .tmp 5]) (vs := [_, _]) rfl ⟨⟨_, rfl, res_box Tryd.underlying24 rfl sz24 Bb5 rfl⟩, rfl, trivial⟩ ?_
  exact retErr_zero (LW.step E XLW).toBelow
theorem pow_g4 (h0 : 2000 < j) (h2i : 2 ≤ i.natAbs) (h : B18 ≤ i.natAbs) (hjb : j.natAbs < B18) : Calls Tryd.prog 38 #[.agg #[.bool (decide (i < 0)), .slice A (limbs i).length c], .agg #[.bool (decide (j < 0)), .slice B (limbs j).length d]] w (RetBigErr w 0 7) := by
  have hd : decide (j < 0) = false := decide_eq_false (by omega)
  have hip := lim_pos (j := i) (by omega)
  have hjp := lim_pos (j := j) (by omega)
  have hlen : ((limbs j).length : Int) ≠ 0 := by omega
  have hleni : ((limbs i).length : Int) ≠ 0 := by omega
  obtain ⟨bx, ox, rfl, hbx, hcx⟩ := hx.2 hip
  obtain ⟨by_, oy, rfl, hby, hcy⟩ := hy.2 hjp
  have hc0 : w.cell? ⟨bx, ox + 0, none⟩ = some (.int .u64 ((i.natAbs % B18 : Nat) : Int)) := by rw [hcx 0 hip, nth_lim0 (by omega)]
  have hd0 : w.cell? ⟨by_, oy + 0, none⟩ = some (.int .u64 (((j.natAbs % B18 : Nat) : Int))) := by rw [hcy 0 hjp, nth_lim0 (by omega)]
  refine calls_cw Tryd.func38 rfl Tryd.ntmps38 rfl ?_
  have HF : Per No w (fun _ => True) := Per.true_
  have LW := Ext.refl (No) w
  have XLW : ∀ k, (No) k → (No) k ∨ w.heap.size ≤ k := fun _ h => Or.inl h
  have E := Ext.refl No w
  replace HF := HF.on E
  replace LW := LW.step E XLW
  replace E := Ext.refl (No) w
  replace HF := HF.and (Per.nums0 hx)
  replace HF := HF.on E
  replace LW := LW.step E XLW
  replace E := Ext.refl (No) w
  replace HF := HF.and (Per.nums0 hy)
  replace HF := HF.on E
  replace LW := LW.step E XLW
  replace E := Ext.refl (No) w
  replace HF := HF.and (Per.cell0 hc0)
  replace HF := HF.on E
  replace LW := LW.step E XLW
  replace E := Ext.refl (No) w
  replace HF := HF.and (Per.cell0 hd0)
  refine cw_seq ?_
  refine cw_region ?_
  refine rs_op rfl (ow_boxB rfl ?_)
  intro gb1 w2 Bb1 Eb1 Gb1
  have Gb1 : _ ≤ gb1 := Nat.le_trans E.size Gb1
  have GLb1 := Nat.le_trans LW.size Gb1
  replace E := E.trans Eb1.no
  clear Eb1
  replace HF := HF.cons (some_ge Gb1)
  replace E := E.cons (some gb1)
  replace XLW := Mut.grow XLW (fun k e => Or.inr (Nat.le_trans LW.size ((some_ge Gb1) k e)))
  replace HF := HF.on E
  replace LW := LW.step E XLW
  have SB : ∀ k, No k → Mut [(some gb1)] k := (Mut.skip Mut.nil_)
  replace HF := HF.less SB
  replace XLW := fun k h => XLW k (SB k h)
  clear SB
  replace E := Ext.refl (No) w2
  replace HF := HF.and (Per.blkN Bb1 NotIn.nil)
  clear Bb1
  refine rs_op rfl (ow_boxB rfl ?_)
  intro gb3 w4 Bb3 Eb3 Gb3
  have Gb3 : _ ≤ gb3 := Nat.le_trans E.size Gb3
  have GLb3 := Nat.le_trans LW.size Gb3
  replace E := E.trans Eb3.no
  clear Eb3
  replace HF := HF.cons (some_ge Gb3)
  replace E := E.cons (some gb3)
  replace XLW := Mut.grow XLW (fun k e => Or.inr (Nat.le_trans LW.size ((some_ge Gb3) k e)))
  replace HF := HF.on E
  replace LW := LW.step E XLW
  have SB : ∀ k, No k → Mut [(some gb3)] k := (Mut.skip Mut.nil_)
  replace HF := HF.less SB
  replace XLW := fun k h => XLW k (SB k h)
  clear SB
  replace E := Ext.refl (No) w4
  replace HF := HF.and (Per.blkN Bb3 NotIn.nil)
  clear Bb3
  refine rs_op rfl (ow_allocB zr24 ?_)
  intro gb5 w6 Bb5 Eb5 Gb5
  have Gb5 : _ ≤ gb5 := Nat.le_trans E.size Gb5
  have GLb5 := Nat.le_trans LW.size Gb5
  replace E := E.trans Eb5.no
  clear Eb5
  replace HF := HF.cons (some_ge Gb5)
  replace E := E.cons (some gb5)
  replace XLW := Mut.grow XLW (fun k e => Or.inr (Nat.le_trans LW.size ((some_ge Gb5) k e)))
  refine rs_op rfl (ow_assign rfl ?_)
  refine rs_nil ?_
  refine ew_next ?_
  refine cw_seq ?_
  refine cw_seq ?_
  refine cw_region ?_
  refine rs_op rfl (ow_loadB Tryd.underlying24 rfl sz24 rfl (HF.on E).here.1.2 rfl ?_)
  refine rs_op rfl (ow_enter en19 rfl ((goodI _ c _ hi (HF.on E).here.1.1.1.1.1.2).mono ?_))
  rintro e w7 ⟨rfl, hb⟩
  refine ⟨_, rfl, ?_⟩
  have XC : ∀ k, (Mut [(some gb5)]) k → k < w6.heap.size := (Mut.grow Mut.none_ (some_lt Bb5.lt))
  have SC := Nat.le_trans LW.size E.size
  have Ec := Ext.of_below hb No
  replace Bb5 := Bb5.extN Ec NotIn.nil
  replace E := E.trans Ec.no
  clear hb Ec
  refine rs_op rfl (ow_not rfl ?_)
  refine rs_op rfl (ow_move rfl ?_)
  refine rs_op rfl (ow_on rfl (ow_loadB Tryd.underlying24 rfl sz24 rfl (HF.on E).here.2 rfl ?_))
  refine rs_op rfl (ow_on rfl (ow_enter en19 rfl ((goodI _ d _ hj (HF.on E).here.1.1.1.1.2).mono ?_)))
  rintro e w8 ⟨rfl, hb⟩
  refine ⟨_, rfl, ?_⟩
  have XC : ∀ k, (Mut [(some gb5)]) k → k < w7.heap.size := (Mut.grow Mut.none_ (some_lt Bb5.lt))
  have SC := Nat.le_trans LW.size E.size
  have Ec := Ext.of_below hb No
  replace Bb5 := Bb5.extN Ec NotIn.nil
  replace E := E.trans Ec.no
  clear hb Ec
  refine rs_op rfl (ow_on rfl (ow_not rfl ?_))
  refine rs_op rfl (ow_pickF rfl rfl ?_)
  refine rs_nil ?_
  refine ew_next ?_
  refine cw_else rfl ?_
  refine cw_skip ?_
  refine ew_next ?_
  refine cw_seq ?_
  refine cw_seq ?_
  refine cw_region ?_
  refine rs_op rfl (ow_fieldAddr Tryd.underlying24 rfl sz4 (by decide) rfl ?_)
  refine rs_op rfl (ow_loadF Tryd.underlying4 rfl rfl (HF.on E).here.2 rfl ?_)
  refine rs_nil ?_
  refine ew_next ?_
  refine cw_set 19 (.bool false) rfl ((by rw [hd] : (.bool (decide (j < 0)) : Value) = _)) ?_
  refine cw_else rfl ?_
  refine cw_skip ?_
  refine ew_next ?_
  refine cw_seq ?_
  refine cw_region ?_
  refine rs_op rfl (ow_enter en22 rfl ((of_any 1 _ (by decide) (by decide)).mono ?_))
  rintro e w9 ⟨A1, c1, rfl, o1, hb⟩
  refine ⟨_, rfl, ?_⟩
  have XC : ∀ k, (Mut [(some gb5)]) k → k < w8.heap.size := (Mut.grow Mut.none_ (some_lt Bb5.lt))
  have SC := Nat.le_trans LW.size E.size
  have Ec := Ext.of_below hb No
  replace Bb5 := Bb5.extN Ec NotIn.nil
  replace E := E.trans Ec.no
  clear hb Ec
  have S1 := SC
  replace HF := HF.on E
  replace LW := LW.step E XLW
  replace E := Ext.refl (Mut [(some gb5)]) w9
  replace HF := HF.and (Per.ownX o1 XC)
  refine rs_op rfl (ow_allocB zr24 ?_)
  intro gb10 w11 Bb10 Eb10 Gb10
  have Db10_b5 : Apart (some gb10) (some gb5) := Apart.of_lt (some_lt Bb5.lt) Gb10
  have Db5_b10 := Db10_b5.symm
  have Gb10 : _ ≤ gb10 := Nat.le_trans E.size Gb10
  have GLb10 := Nat.le_trans LW.size Gb10
  replace Bb5 := Bb5.extN Eb10 NotIn.nil
  replace E := E.trans Eb10.no
  clear Eb10
  replace HF := HF.cons (some_ge Gb10)
  replace E := E.cons (some gb10)
  replace XLW := Mut.grow XLW (fun k e => Or.inr (Nat.le_trans LW.size ((some_ge Gb10) k e)))
  refine rs_op0 (ow_storeM sz24 rfl rfl Bb10 rfl rfl (Nat.le_of_ble_eq_true rfl) ?_)
  intro w12 Bx Eb10
  replace Bb10 := Bx
  clear Bx
  replace Bb5 := Bb5.extN Eb10 (NotIn.cons Db5_b10 NotIn.nil)
  replace E := E.step1 Eb10 Mut.head
  clear Eb10
  refine rs_nil ?_
  refine ew_next ?_
  refine cw_seq ?_
  refine cw_seq ?_
  refine cw_region ?_
  refine rs_op rfl (ow_fieldAddr Tryd.underlying24 rfl sz22 (by decide) rfl ?_)
  refine rs_op rfl (ow_loadF Tryd.underlying22 rfl rfl (HF.on E).here.1.2 rfl ?_)
  refine rs_op rfl (ow_len Tryd.underlying22 rfl ?_)
  refine rs_op rfl (ow_eql rfl rfl ?_)
  refine rs_nil ?_
  refine ew_next ?_
  refine cw_set 25 (.bool false) rfl ((by rw [beq_eq_false_iff_ne.2 hlen] : (.bool (((((limbs j).length : Nat)) : Int) == 0) : Value) = _)) ?_
  refine cw_else rfl ?_
  refine cw_skip ?_
  refine ew_next ?_
  refine cw_seq ?_
  refine cw_seq ?_
  refine cw_region ?_
  refine rs_op rfl (ow_fieldAddr Tryd.underlying24 rfl sz22 (by decide) rfl ?_)
  refine rs_op rfl (ow_loadF Tryd.underlying22 rfl rfl (HF.on E).here.1.1.2 rfl ?_)
  refine rs_op rfl (ow_len Tryd.underlying22 rfl ?_)
  refine rs_op rfl (ow_eql rfl rfl ?_)
  refine rs_op rfl (ow_move rfl ?_)
  refine rs_set 31 (.bool false) rfl ((by rw [beq_eq_false_iff_ne.2 hleni] : (.bool (((((limbs i).length : Nat)) : Int) == 0) : Value) = _)) ?_
  refine rs_op rfl (ow_on rfl (ow_fieldAddr Tryd.underlying24 rfl sz22 (by decide) rfl ?_))
  refine rs_op rfl (ow_on rfl (ow_loadF Tryd.underlying22 rfl rfl (HF.on E).here.1.1.2 rfl ?_))
  refine rs_op rfl (ow_on rfl (ow_len Tryd.underlying22 rfl ?_))
  refine rs_op rfl (ow_on rfl (ow_eql rfl rfl ?_))
  refine rs_op rfl (ow_on rfl (ow_move rfl ?_))
  have h1 : ((limbs i).length : Int) ≠ 1 := by have := lim_len2 h; omega
  refine rs_set 36 (.bool false) rfl ((by rw [beq_eq_false_iff_ne.2 h1] : (.bool (((((limbs i).length : Nat)) : Int) == 1) : Value) = _)) ?_
  refine rs_op rfl (ow_off rfl ?_)
  refine rs_op rfl (ow_off rfl ?_)
  refine rs_op rfl (ow_off rfl ?_)
  refine rs_op rfl (ow_off rfl ?_)
  refine rs_op rfl (ow_off rfl ?_)
  refine rs_op rfl (ow_on rfl (ow_pickF rfl rfl ?_))
  refine rs_op rfl (ow_pickF rfl rfl ?_)
  refine rs_nil ?_
  refine ew_next ?_
  refine cw_else rfl ?_
  refine cw_skip ?_
  refine ew_next ?_
  refine cw_seq ?_
  refine cw_seq ?_
  refine cw_region ?_
  refine rs_op rfl (ow_fieldAddr Tryd.underlying24 rfl sz22 (by decide) rfl ?_)
  refine rs_op rfl (ow_loadF Tryd.underlying22 rfl rfl (HF.on E).here.1.2 rfl ?_)
  refine rs_op rfl (ow_len Tryd.underlying22 rfl ?_)
  refine rs_op rfl (ow_gtr rfl rfl ?_)
  refine rs_op rfl (ow_move rfl ?_)
  have h2 : ¬ (1 : Int) < ((limbs j).length : Int) := by rw [lim_len1 (by omega) hjb]; decide
  refine rs_set 61 (.bool false) rfl ((by rw [decide_eq_false h2] : (.bool (decide (1 < ((((limbs j).length : Nat)) : Int))) : Value) = _)) ?_
  refine rs_op rfl (ow_on rfl (ow_fieldAddr Tryd.underlying24 rfl sz22 (by decide) rfl ?_))
  refine rs_op rfl (ow_on rfl (ow_loadF Tryd.underlying22 rfl rfl (HF.on E).here.1.2 rfl ?_))
  refine rs_op rfl (ow_on rfl (ow_indexAddr1 (j := 0) Tryd.underlying22 sz63 rfl rfl rfl hjp ?_))
  refine rs_op rfl (ow_on rfl (ow_load1 Tryd.underlying63 rfl rfl (HF.on E).here.1.1.1.2 ?_))
  refine rs_op rfl (ow_on rfl (ow_gtr rfl rfl ?_))
  refine rs_op rfl (ow_pickF rfl rfl ?_)
  refine rs_nil ?_
  refine ew_next ?_
  refine cw_set 67 (.bool true) rfl ((by rw [Nat.mod_eq_of_lt hjb, decide_eq_true (by omega)] : (.bool (decide (2000 < (((j.natAbs % B18 : Nat) : Int)))) : Value) = _)) ?_
  refine cw_then rfl ?_
  refine cw_seq ?_
  refine cw_region ?_
  refine rs_op rfl (ow_build (cs := #[.bool false, .slice none 0 0]) pl24 zr24 rfl rfl ?_)
  refine rs_op0 (ow_storeM sz24 rfl rfl Bb5 rfl rfl (Nat.le_of_ble_eq_true rfl) ?_)
  intro w13 Bx Eb5
  replace Bb5 := Bx
  clear Bx
  replace Bb10 := Bb10.extN Eb5 (NotIn.cons Db10_b5 NotIn.nil)
  replace E := E.step1 Eb5 (Mut.tail Mut.head)
  clear Eb5
  refine rs_op rfl (ow_assign rfl ?_)
  refine rs_nil ?_
  refine ew_next ?_
  refine cw_ret ?_
  refine ew_then_ret ?_
  refine ew_ret (rs := [.cell 4 24, .tmp 5]) (vs := [_, _]) rfl ⟨⟨_, rfl, res_box Tryd.underlying24 rfl sz24 Bb5 rfl⟩, rfl, trivial⟩ ?_
  exact retErr_zero (LW.step E XLW).toBelow
theorem pow_l1 (h0 : 0 < j) (hj2 : j ≤ 2000) (h2i : 2 ≤ i.natAbs) (h : i.natAbs < B18) : Calls Tryd.prog 38 #[.agg #[.bool (decide (i < 0)), .slice A (limbs i).length c], .agg #[.bool (decide (j < 0)), .slice B (limbs j).length d]] w (RetBigErr w (outV true (i ^ j.toNat)) (outE true (i ^ j.toNat))) := by
  have hjb : j.natAbs < B18 := by unfold B18; omega
  have ejm : j.natAbs % B18 = j.toNat := by rw [Nat.mod_eq_of_lt hjb]; omega
  have hd : decide (j < 0) = false := decide_eq_false (by omega)
  have hip := lim_pos (j := i) (by omega)
  have hjp := lim_pos (j := j) (by omega)
  have hlen : ((limbs j).length : Int) ≠ 0 := by omega
  have hleni : ((limbs i).length : Int) ≠ 0 := by omega
  obtain ⟨bx, ox, rfl, hbx, hcx⟩ := hx.2 hip
  obtain ⟨by_, oy, rfl, hby, hcy⟩ := hy.2 hjp
  have hc0 : w.cell? ⟨bx, ox + 0, none⟩ = some (.int .u64 ((i.natAbs % B18 : Nat) : Int)) := by rw [hcx 0 hip, nth_lim0 (by omega)]
  have hd0 : w.cell? ⟨by_, oy + 0, none⟩ = some (.int .u64 (((j.toNat : Nat) : Int))) := by rw [hcy 0 hjp, nth_lim0 (by omega)]; rw [ejm]
  refine calls_cw Tryd.func38 rfl Tryd.ntmps38 rfl ?_
  have HF : Per No w (fun _ => True) := Per.true_
  have LW := Ext.refl (No) w
  have XLW : ∀ k, (No) k → (No) k ∨ w.heap.size ≤ k := fun _ h => Or.inl h
  have E := Ext.refl No w
  replace HF := HF.on E
  replace LW := LW.step E XLW
  replace E := Ext.refl (No) w
  replace HF := HF.and (Per.nums0 hx)
  replace HF := HF.on E
  replace LW := LW.step E XLW
  replace E := Ext.refl (No) w
  replace HF := HF.and (Per.nums0 hy)
  replace HF := HF.on E
  replace LW := LW.step E XLW
  replace E := Ext.refl (No) w
  replace HF := HF.and (Per.cell0 hc0)
  replace HF := HF.on E
  replace LW := LW.step E XLW
  replace E := Ext.refl (No) w
  replace HF := HF.and (Per.cell0 hd0)
  refine cw_seq ?_
  refine cw_region ?_
  refine rs_op rfl (ow_boxB rfl ?_)
  intro gb1 w2 Bb1 Eb1 Gb1
  have Gb1 : _ ≤ gb1 := Nat.le_trans E.size Gb1
  have GLb1 := Nat.le_trans LW.size Gb1
  replace E := E.trans Eb1.no
  clear Eb1
  replace HF := HF.cons (some_ge Gb1)
  replace E := E.cons (some gb1)
  replace XLW := Mut.grow XLW (fun k e => Or.inr (Nat.le_trans LW.size ((some_ge Gb1) k e)))
  replace HF := HF.on E
  replace LW := LW.step E XLW
  have SB : ∀ k, No k → Mut [(some gb1)] k := (Mut.skip Mut.nil_)
  replace HF := HF.less SB
  replace XLW := fun k h => XLW k (SB k h)
  clear SB
  replace E := Ext.refl (No) w2
  replace HF := HF.and (Per.blkN Bb1 NotIn.nil)
  clear Bb1
  refine rs_op rfl (ow_boxB rfl ?_)
  intro gb3 w4 Bb3 Eb3 Gb3
  have Gb3 : _ ≤ gb3 := Nat.le_trans E.size Gb3
  have GLb3 := Nat.le_trans LW.size Gb3
  replace E := E.trans Eb3.no
  clear Eb3
  replace HF := HF.cons (some_ge Gb3)
  replace E := E.cons (some gb3)
  replace XLW := Mut.grow XLW (fun k e => Or.inr (Nat.le_trans LW.size ((some_ge Gb3) k e)))
  replace HF := HF.on E
  replace LW := LW.step E XLW
  have SB : ∀ k, No k → Mut [(some gb3)] k := (Mut.skip Mut.nil_)
  replace HF := HF.less SB
  replace XLW := fun k h => XLW k (SB k h)
  clear SB
  replace E := Ext.refl (No) w4
  replace HF := HF.and (Per.blkN Bb3 NotIn.nil)
  clear Bb3
  refine rs_op rfl (ow_allocB zr24 ?_)
  intro gb5 w6 Bb5 Eb5 Gb5
  have Gb5 : _ ≤ gb5 := Nat.le_trans E.size Gb5
  have GLb5 := Nat.le_trans LW.size Gb5
  replace E := E.trans Eb5.no
  clear Eb5
  replace HF := HF.cons (some_ge Gb5)
  replace E := E.cons (some gb5)
  replace XLW := Mut.grow XLW (fun k e => Or.inr (Nat.le_trans LW.size ((some_ge Gb5) k e)))
  refine rs_op rfl (ow_assign rfl ?_)
  refine rs_nil ?_
  refine ew_next ?_
  refine cw_seq ?_
  refine cw_seq ?_
  refine cw_region ?_
  refine rs_op rfl (ow_loadB Tryd.underlying24 rfl sz24 rfl (HF.on E).here.1.2 rfl ?_)
  refine rs_op rfl (ow_enter en19 rfl ((goodI _ c _ hi (HF.on E).here.1.1.1.1.1.2).mono ?_))
  rintro e w7 ⟨rfl, hb⟩
  refine ⟨_, rfl, ?_⟩
  have XC : ∀ k, (Mut [(some gb5)]) k → k < w6.heap.size := (Mut.grow Mut.none_ (some_lt Bb5.lt))
  have SC := Nat.le_trans LW.size E.size
  have Ec := Ext.of_below hb No
  replace Bb5 := Bb5.extN Ec NotIn.nil
  replace E := E.trans Ec.no
  clear hb Ec
  refine rs_op rfl (ow_not rfl ?_)
  refine rs_op rfl (ow_move rfl ?_)
  refine rs_op rfl (ow_on rfl (ow_loadB Tryd.underlying24 rfl sz24 rfl (HF.on E).here.2 rfl ?_))
  refine rs_op rfl (ow_on rfl (ow_enter en19 rfl ((goodI _ d _ hj (HF.on E).here.1.1.1.1.2).mono ?_)))
  rintro e w8 ⟨rfl, hb⟩
  refine ⟨_, rfl, ?_⟩
  have XC : ∀ k, (Mut [(some gb5)]) k → k < w7.heap.size := (Mut.grow Mut.none_ (some_lt Bb5.lt))
  have SC := Nat.le_trans LW.size E.size
  have Ec := Ext.of_below hb No
  replace Bb5 := Bb5.extN Ec NotIn.nil
  replace E := E.trans Ec.no
  clear hb Ec
  refine rs_op rfl (ow_on rfl (ow_not rfl ?_))
  refine rs_op rfl (ow_pickF rfl rfl ?_)
  refine rs_nil ?_
  refine ew_next ?_
  refine cw_else rfl ?_
  refine cw_skip ?_
  refine ew_next ?_
  refine cw_seq ?_
  refine cw_seq ?_
  refine cw_region ?_
  refine rs_op rfl (ow_fieldAddr Tryd.underlying24 rfl sz4 (by decide) rfl ?_)
  refine rs_op rfl (ow_loadF Tryd.underlying4 rfl rfl (HF.on E).here.2 rfl ?_)
  refine rs_nil ?_
  refine ew_next ?_
  refine cw_set 19 (.bool false) rfl ((by rw [hd] : (.bool (decide (j < 0)) : Value) = _)) ?_
  refine cw_else rfl ?_
  refine cw_skip ?_
  refine ew_next ?_
  refine cw_seq ?_
  refine cw_region ?_
  refine rs_op rfl (ow_enter en22 rfl ((of_any 1 _ (by decide) (by decide)).mono ?_))
  rintro e w9 ⟨A1, c1, rfl, o1, hb⟩
  refine ⟨_, rfl, ?_⟩
  have XC : ∀ k, (Mut [(some gb5)]) k → k < w8.heap.size := (Mut.grow Mut.none_ (some_lt Bb5.lt))
  have SC := Nat.le_trans LW.size E.size
  have Ec := Ext.of_below hb No
  replace Bb5 := Bb5.extN Ec NotIn.nil
  replace E := E.trans Ec.no
  clear hb Ec
  have S1 := SC
  replace HF := HF.on E
  replace LW := LW.step E XLW
  replace E := Ext.refl (Mut [(some gb5)]) w9
  replace HF := HF.and (Per.ownX o1 XC)
  refine rs_op rfl (ow_allocB zr24 ?_)
  intro gb10 w11 Bb10 Eb10 Gb10
  have Db10_b5 : Apart (some gb10) (some gb5) := Apart.of_lt (some_lt Bb5.lt) Gb10
  have Db5_b10 := Db10_b5.symm
  have Gb10 : _ ≤ gb10 := Nat.le_trans E.size Gb10
  have GLb10 := Nat.le_trans LW.size Gb10
  replace Bb5 := Bb5.extN Eb10 NotIn.nil
  replace E := E.trans Eb10.no
  clear Eb10
  replace HF := HF.cons (some_ge Gb10)
  replace E := E.cons (some gb10)
  replace XLW := Mut.grow XLW (fun k e => Or.inr (Nat.le_trans LW.size ((some_ge Gb10) k e)))
  refine rs_op0 (ow_storeM sz24 rfl rfl Bb10 rfl rfl (Nat.le_of_ble_eq_true rfl) ?_)
  intro w12 Bx Eb10
  replace Bb10 := Bx
  clear Bx
  replace Bb5 := Bb5.extN Eb10 (NotIn.cons Db5_b10 NotIn.nil)
  replace E := E.step1 Eb10 Mut.head
  clear Eb10
  refine rs_nil ?_
  refine ew_next ?_
  refine cw_seq ?_
  refine cw_seq ?_
  refine cw_region ?_
  refine rs_op rfl (ow_fieldAddr Tryd.underlying24 rfl sz22 (by decide) rfl ?_)
  refine rs_op rfl (ow_loadF Tryd.underlying22 rfl rfl (HF.on E).here.1.2 rfl ?_)
  refine rs_op rfl (ow_len Tryd.underlying22 rfl ?_)
  refine rs_op rfl (ow_eql rfl rfl ?_)
  refine rs_nil ?_
  refine ew_next ?_
  refine cw_set 25 (.bool false) rfl ((by rw [beq_eq_false_iff_ne.2 hlen] : (.bool (((((limbs j).length : Nat)) : Int) == 0) : Value) = _)) ?_
  refine cw_else rfl ?_
  refine cw_skip ?_
  refine ew_next ?_
  refine cw_seq ?_
  refine cw_seq ?_
  refine cw_region ?_
  refine rs_op rfl (ow_fieldAddr Tryd.underlying24 rfl sz22 (by decide) rfl ?_)
  refine rs_op rfl (ow_loadF Tryd.underlying22 rfl rfl (HF.on E).here.1.1.2 rfl ?_)
  refine rs_op rfl (ow_len Tryd.underlying22 rfl ?_)
  refine rs_op rfl (ow_eql rfl rfl ?_)
  refine rs_op rfl (ow_move rfl ?_)
  refine rs_set 31 (.bool false) rfl ((by rw [beq_eq_false_iff_ne.2 hleni] : (.bool (((((limbs i).length : Nat)) : Int) == 0) : Value) = _)) ?_
  refine rs_op rfl (ow_on rfl (ow_fieldAddr Tryd.underlying24 rfl sz22 (by decide) rfl ?_))
  refine rs_op rfl (ow_on rfl (ow_loadF Tryd.underlying22 rfl rfl (HF.on E).here.1.1.2 rfl ?_))
  refine rs_op rfl (ow_on rfl (ow_len Tryd.underlying22 rfl ?_))
  refine rs_op rfl (ow_on rfl (ow_eql rfl rfl ?_))
  refine rs_op rfl (ow_on rfl (ow_move rfl ?_))
  have h1 : ((limbs i).length : Int) = 1 := by rw [lim_len1 (by omega) h]; rfl
  refine rs_set 36 (.bool true) rfl ((by rw [h1]; rfl : (.bool (((((limbs i).length : Nat)) : Int) == 1) : Value) = _)) ?_
  refine rs_op rfl (ow_on rfl (ow_fieldAddr Tryd.underlying24 rfl sz22 (by decide) rfl ?_))
  refine rs_op rfl (ow_on rfl (ow_loadF Tryd.underlying22 rfl rfl (HF.on E).here.1.1.2 rfl ?_))
  refine rs_op rfl (ow_on rfl (ow_indexAddr1 (j := 0) Tryd.underlying22 sz63 rfl rfl rfl hip ?_))
  refine rs_op rfl (ow_on rfl (ow_load1 Tryd.underlying63 rfl rfl (HF.on E).here.1.1.1.1.2 ?_))
  refine rs_op rfl (ow_on rfl (ow_eql rfl rfl ?_))
  refine rs_op rfl (ow_on rfl (ow_pickT rfl rfl ?_))
  refine rs_op rfl (ow_pickF rfl rfl ?_)
  refine rs_nil ?_
  refine ew_next ?_
  refine cw_set 43 (.bool false) rfl ((by rw [Nat.mod_eq_of_lt h, beq_eq_false_iff_ne.2 (by omega)] : (.bool (((i.natAbs % B18 : Nat) : Int) == 1) : Value) = _)) ?_
  refine cw_else rfl ?_
  refine cw_skip ?_
  refine ew_next ?_
  refine cw_seq ?_
  refine cw_seq ?_
  refine cw_region ?_
  refine rs_op rfl (ow_fieldAddr Tryd.underlying24 rfl sz22 (by decide) rfl ?_)
  refine rs_op rfl (ow_loadF Tryd.underlying22 rfl rfl (HF.on E).here.1.2 rfl ?_)
  refine rs_op rfl (ow_len Tryd.underlying22 rfl ?_)
  refine rs_op rfl (ow_gtr rfl rfl ?_)
  refine rs_op rfl (ow_move rfl ?_)
  have h2 : ¬ (1 : Int) < ((limbs j).length : Int) := by rw [lim_len1 (by omega) hjb]; decide
  refine rs_set 61 (.bool false) rfl ((by rw [decide_eq_false h2] : (.bool (decide (1 < ((((limbs j).length : Nat)) : Int))) : Value) = _)) ?_
  refine rs_op rfl (ow_on rfl (ow_fieldAddr Tryd.underlying24 rfl sz22 (by decide) rfl ?_))
  refine rs_op rfl (ow_on rfl (ow_loadF Tryd.underlying22 rfl rfl (HF.on E).here.1.2 rfl ?_))
  refine rs_op rfl (ow_on rfl (ow_indexAddr1 (j := 0) Tryd.underlying22 sz63 rfl rfl rfl hjp ?_))
  refine rs_op rfl (ow_on rfl (ow_load1 Tryd.underlying63 rfl rfl (HF.on E).here.1.1.1.2 ?_))
  refine rs_op rfl (ow_on rfl (ow_gtr rfl rfl ?_))
  refine rs_op rfl (ow_pickF rfl rfl ?_)
  refine rs_nil ?_
  refine ew_next ?_
  refine cw_set 67 (.bool false) rfl ((by rw [decide_eq_false (by omega)] : (.bool (decide (2000 < (((j.toNat : Nat) : Int)))) : Value) = _)) ?_
  refine cw_else rfl ?_
  refine cw_skip ?_
  refine ew_next ?_
  refine cw_seq ?_
  refine cw_seq ?_
  refine cw_region ?_
  refine rs_op rfl (ow_fieldAddr Tryd.underlying24 rfl sz22 (by decide) rfl ?_)
  refine rs_op rfl (ow_loadF Tryd.underlying22 rfl rfl (HF.on E).here.1.2 rfl ?_)
  refine rs_op rfl (ow_indexAddr1 (j := 0) Tryd.underlying22 sz63 rfl rfl rfl hjp ?_)
  refine rs_op rfl (ow_load1 Tryd.underlying63 rfl rfl (HF.on E).here.1.1.1.2 ?_)
  refine rs_op rfl (ow_move rfl ?_)
  refine rs_nil ?_
  refine ew_next ?_
  refine cw_block ?_
  have b1 : (i ^ 0).natAbs < B18 ^ 30 := by rw [Int.pow_zero]; exact Nat.one_lt_pow (by decide) (by unfold B18; omega)
  have e0 : i ^ 0 = 1 := Int.pow_zero i
  replace Bb10 : Blk w12 gb10 24 #[.bool (decide (i ^ 0 < 0)), .slice A1 (limbs (i ^ 0)).length c1] := by rw [e0]; exact Bb10
  replace HF := HF.on E
  replace LW := LW.step E XLW
  replace E := Ext.refl (Mut [(some gb10), (some gb5)]) w12
  refine cw_loop (ι := Nat × Option Addr × Nat) (fun (k, A1, c1) => [(2, .pointer (some ⟨gb1, 0, none⟩)), (4, .pointer (some ⟨gb5, 0, none⟩)), (6, .pointer (some ⟨gb10, 0, none⟩)), (72, .int .u64 ((j.toNat : Nat) : Int)), (73, .int .u64 ((k : Nat) : Int))]) (fun (k, A1, c1) w' => Ext (Mut [(some gb10), (some gb5)]) w12 w' ∧ Blk w' gb10 24 (#[.bool (decide (i ^ k < 0)), .slice A1 (limbs (i ^ k)).length c1]) ∧ Blk w' gb5 24 (#[.bool false, .slice none 0 0]) ∧ (k ≤ j.toNat ∧ (i ^ k).natAbs < B18 ^ 30 ∧ Own w' w.heap.size A1 c1 (limbs (i ^ k)))) (fun (k, A1, c1) => j.toNat - k) (0, A1, c1) ⟨rfl, rfl, rfl, rfl, rfl, trivial⟩ ⟨Ext.refl _ _, (by exact Bb10), (by exact Bb5), ⟨Nat.zero_le _, b1, by rw [e0]; exact ((HF.on E).here.2).mono S1⟩⟩ ?_
  clear Bb10
  clear Bb5
  rintro ⟨k, A1, c1⟩ w14 ⟨M13, Bb10, Bb5, ⟨hk, hb1, hown⟩⟩
  replace E := E.trans M13
  replace HF := HF.on E
  replace LW := LW.step E XLW
  replace E := Ext.refl (Mut [(some gb10), (some gb5)]) w14
  have XM13 : ∀ k, (Mut [(some gb10), (some gb5)]) k → (Mut [(some gb10), (some gb5)]) k ∨ w12.heap.size ≤ k := fun _ h => Or.inl h
  replace HF := HF.on E
  replace LW := LW.step E XLW
  replace M13 := M13.step E XM13
  replace E := Ext.refl (Mut [(some gb10), (some gb5)]) w14
  replace HF := HF.and (Per.ownN hown (NotIn.cons (own_apart hown Bb10 (by decide)) (NotIn.cons (own_apart hown Bb5 (by decide)) NotIn.nil)))
  refine cw_seq ?_
  refine cw_region ?_
  refine rs_op rfl (ow_lss rfl rfl ?_)
  refine rs_nil ?_
  refine ew_next ?_
  refine cw_seq ?_
  refine cw_cond rfl (fun hlt => ?_) (fun hlt => ?_)
  · have _way := True.intro
    have hlt := of_decide_eq_true hlt
    refine cw_skip ?_
    refine ew_next ?_
    refine cw_seq ?_
    refine cw_block ?_
    refine cw_seq ?_
    refine cw_region ?_
    refine rs_op rfl (ow_loadB Tryd.underlying24 rfl sz24 rfl Bb10 rfl ?_)
    refine rs_op rfl (ow_loadB Tryd.underlying24 rfl sz24 rfl (HF.on E).here.1.1.1.2 rfl ?_)
    refine rs_op rfl (ow_enter en36 rfl ((mulI A1 _ c1 c _ hb1 hi ((HF.on E).here.2).nums (HF.on E).here.1.1.1.1.1.1.1.2).mono ?_))
    rintro e w15 ⟨A3, c3, rfl, o3, hb⟩
    refine ⟨_, rfl, ?_⟩
    have XC : ∀ k, (Mut [(some gb10), (some gb5)]) k → k < w14.heap.size := (Mut.grow (Mut.grow Mut.none_ (some_lt Bb5.lt)) (some_lt Bb10.lt))
    have SC := Nat.le_trans LW.size E.size
    have Ec := Ext.of_below hb No
    replace Bb10 := Bb10.extN Ec NotIn.nil
    replace Bb5 := Bb5.extN Ec NotIn.nil
    replace E := E.trans Ec.no
    clear hb Ec
    have S3 := SC
    replace HF := HF.on E
    replace LW := LW.step E XLW
    replace M13 := M13.step E XM13
    replace E := Ext.refl (Mut [(some gb10), (some gb5)]) w15
    replace HF := HF.and (Per.ownX o3 XC)
    refine rs_op rfl (ow_move rfl ?_)
    refine rs_op rfl (ow_extract rfl rfl ?_)
    refine rs_op rfl (ow_extract rfl rfl ?_)
    refine rs_op rfl (ow_allocB zr24 ?_)
    intro gb16 w17 Bb16 Eb16 Gb16
    have Db16_b10 : Apart (some gb16) (some gb10) := Apart.of_lt (some_lt Bb10.lt) Gb16
    have Db10_b16 := Db16_b10.symm
    have Db16_b5 : Apart (some gb16) (some gb5) := Apart.of_lt (some_lt Bb5.lt) Gb16
    have Db5_b16 := Db16_b5.symm
    have Gb16 : _ ≤ gb16 := Nat.le_trans E.size Gb16
    have GLb16 := Nat.le_trans LW.size Gb16
    replace Bb10 := Bb10.extN Eb16 NotIn.nil
    replace Bb5 := Bb5.extN Eb16 NotIn.nil
    replace E := E.trans Eb16.no
    clear Eb16
    replace HF := HF.cons (some_ge Gb16)
    replace E := E.cons (some gb16)
    replace XLW := Mut.grow XLW (fun k e => Or.inr (Nat.le_trans LW.size ((some_ge Gb16) k e)))
    replace XM13 := Mut.grow XM13 (fun k e => Or.inr (Nat.le_trans M13.size ((some_ge Gb16) k e)))
    refine rs_op0 (ow_storeM sz24 rfl rfl Bb16 rfl rfl (Nat.le_of_ble_eq_true rfl) ?_)
    intro w18 Bx Eb16
    replace Bb16 := Bx
    clear Bx
    replace Bb10 := Bb10.extN Eb16 (NotIn.cons Db10_b16 NotIn.nil)
    replace Bb5 := Bb5.extN Eb16 (NotIn.cons Db5_b16 NotIn.nil)
    replace E := E.step1 Eb16 Mut.head
    clear Eb16
    refine rs_op rfl (ow_assign rfl ?_)
    refine rs_nil ?_
    refine ew_next ?_
    refine cw_seq ?_
    refine cw_seq ?_
    refine cw_region ?_
    refine rs_op rfl (ow_move rfl ?_)
    refine rs_op rfl (ow_neq rfl rfl ?_)
    refine rs_nil ?_
    refine ew_next ?_
    refine cw_cond rfl (fun q => ?_) (fun q => ?_)
    · have _way := True.intro
      have e1 : B18 ^ 30 ≤ (i ^ j.toNat).natAbs := by
        have h7 : ¬ (i ^ k * i).natAbs < B18 ^ 30 := fun h9 => by rw [outE_ok h9] at q; exact absurd q (by decide)
        have h8 := pow_mono (i := i) (by omega) (show k + 1 ≤ j.toNat by omega)
        rw [Int.pow_succ] at h8
        omega
      have e2 : outE true (i ^ k * i) = 7 := outE_big (by
        rcases Nat.lt_or_ge (i ^ k * i).natAbs (B18 ^ 30) with h9 | h9
        · rw [outE_ok h9] at q; exact absurd q (by decide)
        · exact h9)
      refine cw_seq ?_
      refine cw_region ?_
      refine rs_op rfl (ow_build (cs := #[.bool false, .slice none 0 0]) pl24 zr24 rfl rfl ?_)
      refine rs_op rfl (ow_move rfl ?_)
      refine rs_op0 (ow_storeM sz24 rfl rfl Bb5 rfl rfl (Nat.le_of_ble_eq_true rfl) ?_)
      intro w19 Bx Eb5
      replace Bb5 := Bx
      clear Bx
      replace Bb16 := Bb16.extN Eb5 (NotIn.cons Db16_b5 NotIn.nil)
      replace Bb10 := Bb10.extN Eb5 (NotIn.cons Db10_b5 NotIn.nil)
      replace E := E.step1 Eb5 (Mut.tail (Mut.tail Mut.head))
      clear Eb5
      refine rs_op rfl (ow_assign rfl ?_)
      refine rs_nil ?_
      refine ew_next ?_
      refine cw_ret ?_
      refine ew_then_ret ?_
      refine ew_block_ret ?_
      refine ew_then_ret ?_
      refine ew_then_ret ?_
      refine ew_block_ret ?_
      refine ew_then_ret ?_
      refine ew_set 5 (.int .i64 7) rfl ((by rw [e2] : (.int .i64 (outE true (i ^ k * i)) : Value) = _)) ?_
      refine ew_ret (rs := [.cell 4 24, .tmp 5]) (vs := [_, _]) rfl ⟨⟨_, rfl, res_box Tryd.underlying24 rfl sz24 Bb5 rfl⟩, rfl, trivial⟩ ?_
      exact by rw [outV_big e1, outE_big e1]; exact retErr_zero (LW.step E XLW).toBelow
    · have _way := True.intro
      have h9 : (i ^ k * i).natAbs < B18 ^ 30 := outE_zero (by simpa using q)
      have eV : outV true (i ^ k * i) = i ^ (k + 1) := by rw [outV_ok h9, Int.pow_succ]
      refine cw_skip ?_
      refine ew_next ?_
      refine cw_region ?_
      refine rs_op rfl (ow_loadB Tryd.underlying24 rfl sz24 rfl Bb16 rfl ?_)
      refine rs_op0 (ow_storeM sz24 rfl rfl Bb10 rfl rfl (Nat.le_of_ble_eq_true rfl) ?_)
      intro w20 Bx Eb10
      replace Bb10 := Bx
      clear Bx
      replace Bb16 := Bb16.extN Eb10 (NotIn.cons Db16_b10 NotIn.nil)
      replace Bb5 := Bb5.extN Eb10 (NotIn.cons Db5_b10 NotIn.nil)
      replace E := E.step1 Eb10 (Mut.tail Mut.head)
      clear Eb10
      refine rs_nil ?_
      refine ew_block_normal ?_
      refine ew_next ?_
      refine cw_region ?_
      refine rs_op rfl (ow_add rfl rfl (wrap_u64 (by omega)) ?_)
      refine rs_op rfl (ow_move rfl ?_)
      refine rs_nil ?_
      rw [eV] at Bb10
      exact ew_round (ι := Nat × Option Addr × Nat) (s := fun (k, A1, c1) => [(2, .pointer (some ⟨gb1, 0, none⟩)), (4, .pointer (some ⟨gb5, 0, none⟩)), (6, .pointer (some ⟨gb10, 0, none⟩)), (72, .int .u64 ((j.toNat : Nat) : Int)), (73, .int .u64 ((k : Nat) : Int))]) (R := fun (k, A1, c1) w' => Ext (Mut [(some gb10), (some gb5)]) w12 w' ∧ Blk w' gb10 24 (#[.bool (decide (i ^ k < 0)), .slice A1 (limbs (i ^ k)).length c1]) ∧ Blk w' gb5 24 (#[.bool false, .slice none 0 0]) ∧ (k ≤ j.toNat ∧ (i ^ k).natAbs < B18 ^ 30 ∧ Own w' w.heap.size A1 c1 (limbs (i ^ k)))) (m := fun (k, A1, c1) => j.toNat - k) (i := ⟨k, A1, c1⟩) (k + 1, A3, c3) (by show j.toNat - (k + 1) < j.toNat - k; omega) ⟨rfl, rfl, rfl, rfl, rfl, trivial⟩ ⟨M13.step E XM13, (by exact Bb10), (by exact Bb5), by omega, by rw [Int.pow_succ]; exact h9, by rw [← eV]; exact ((HF.on E).here.2).mono S3⟩
  · have _way := True.intro
    have hge := of_decide_eq_false hlt
    obtain rfl : k = j.toNat := by omega
    refine cw_exit ?_
    refine ew_then_exit ?_
    refine ew_then_exit ?_
    refine ew_block_here ?_
    refine ew_next ?_
    refine cw_seq ?_
    refine cw_region ?_
    refine rs_op rfl (ow_loadB Tryd.underlying24 rfl sz24 rfl Bb10 rfl ?_)
    refine rs_op0 (ow_storeM sz24 rfl rfl Bb5 rfl rfl (Nat.le_of_ble_eq_true rfl) ?_)
    intro w21 Bx Eb5
    replace Bb5 := Bx
    clear Bx
    replace Bb10 := Bb10.extN Eb5 (NotIn.cons Db10_b5 NotIn.nil)
    replace E := E.step1 Eb5 (Mut.tail Mut.head)
    clear Eb5
    replace HF := HF.on E
    replace LW := LW.step E XLW
    replace M13 := M13.step E XM13
    have SB : ∀ k, Mut [(some gb10)] k → Mut [(some gb10), (some gb5)] k := (Mut.keep (Mut.skip Mut.nil_))
    replace HF := HF.less SB
    replace XLW := fun k h => XLW k (SB k h)
    replace XM13 := fun k h => XM13 k (SB k h)
    clear SB
    replace E := Ext.refl (Mut [(some gb10)]) w21
    replace HF := HF.and (Per.blkN Bb5 (NotIn.cons Db5_b10 NotIn.nil))
    clear Bb5
    refine rs_op rfl (ow_assign rfl ?_)
    refine rs_nil ?_
    refine ew_next ?_
    refine cw_ret ?_
    refine ew_ret (rs := [.cell 4 24, .tmp 5]) (vs := [_, _]) rfl ⟨⟨_, rfl, res_box Tryd.underlying24 rfl sz24 (HF.on E).here.2 rfl⟩, rfl, trivial⟩ ?_
    exact ⟨A1, c1, by rw [outV_ok hb1, outE_ok hb1]; rfl, by rw [outV_ok hb1]; exact (HF.on E).here.1.2, (LW.step E XLW).toBelow⟩
theorem pow_l2 (h0 : 0 < j) (hj2 : j ≤ 2000) (h2i : 2 ≤ i.natAbs) (h : B18 ≤ i.natAbs) : Calls Tryd.prog 38 #[.agg #[.bool (decide (i < 0)), .slice A (limbs i).length c], .agg #[.bool (decide (j < 0)), .slice B (limbs j).length d]] w (RetBigErr w (outV true (i ^ j.toNat)) (outE true (i ^ j.toNat))) := by
  have hjb : j.natAbs < B18 := by unfold B18; omega
  have ejm : j.natAbs % B18 = j.toNat := by rw [Nat.mod_eq_of_lt hjb]; omega
  have hd : decide (j < 0) = false := decide_eq_false (by omega)
  have hip := lim_pos (j := i) (by omega)
  have hjp := lim_pos (j := j) (by omega)
  have hlen : ((limbs j).length : Int) ≠ 0 := by omega
  have hleni : ((limbs i).length : Int) ≠ 0 := by omega
  obtain ⟨bx, ox, rfl, hbx, hcx⟩ := hx.2 hip
  obtain ⟨by_, oy, rfl, hby, hcy⟩ := hy.2 hjp
  have hc0 : w.cell? ⟨bx, ox + 0, none⟩ = some (.int .u64 ((i.natAbs % B18 : Nat) : Int)) := by rw [hcx 0 hip, nth_lim0 (by omega)]
  have hd0 : w.cell? ⟨by_, oy + 0, none⟩ = some (.int .u64 (((j.toNat : Nat) : Int))) := by rw [hcy 0 hjp, nth_lim0 (by omega)]; rw [ejm]
  refine calls_cw Tryd.func38 rfl Tryd.ntmps38 rfl ?_
  have HF : Per No w (fun _ => True) := Per.true_
  have LW := Ext.refl (No) w
  have XLW : ∀ k, (No) k → (No) k ∨ w.heap.size ≤ k := fun _ h => Or.inl h
  have E := Ext.refl No w
  replace HF := HF.on E
  replace LW := LW.step E XLW
  replace E := Ext.refl (No) w
  replace HF := HF.and (Per.nums0 hx)
  replace HF := HF.on E
  replace LW := LW.step E XLW
  replace E := Ext.refl (No) w
  replace HF := HF.and (Per.nums0 hy)
  replace HF := HF.on E
  replace LW := LW.step E XLW
  replace E := Ext.refl (No) w
  replace HF := HF.and (Per.cell0 hc0)
  replace HF := HF.on E
  replace LW := LW.step E XLW
  replace E := Ext.refl (No) w
  replace HF := HF.and (Per.cell0 hd0)
  refine cw_seq ?_
  refine cw_region ?_
  refine rs_op rfl (ow_boxB rfl ?_)
  intro gb1 w2 Bb1 Eb1 Gb1
  have Gb1 : _ ≤ gb1 := Nat.le_trans E.size Gb1
  have GLb1 := Nat.le_trans LW.size Gb1
  replace E := E.trans Eb1.no
  clear Eb1
  replace HF := HF.cons (some_ge Gb1)
  replace E := E.cons (some gb1)
  replace XLW := Mut.grow XLW (fun k e => Or.inr (Nat.le_trans LW.size ((some_ge Gb1) k e)))
  replace HF := HF.on E
  replace LW := LW.step E XLW
  have SB : ∀ k, No k → Mut [(some gb1)] k := (Mut.skip Mut.nil_)
  replace HF := HF.less SB
  replace XLW := fun k h => XLW k (SB k h)
  clear SB
  replace E := Ext.refl (No) w2
  replace HF := HF.and (Per.blkN Bb1 NotIn.nil)
  clear Bb1
  refine rs_op rfl (ow_boxB rfl ?_)
  intro gb3 w4 Bb3 Eb3 Gb3
  have Gb3 : _ ≤ gb3 := Nat.le_trans E.size Gb3
  have GLb3 := Nat.le_trans LW.size Gb3
  replace E := E.trans Eb3.no
  clear Eb3
  replace HF := HF.cons (some_ge Gb3)
  replace E := E.cons (some gb3)
  replace XLW := Mut.grow XLW (fun k e => Or.inr (Nat.le_trans LW.size ((some_ge Gb3) k e)))
  replace HF := HF.on E
  replace LW := LW.step E XLW
  have SB : ∀ k, No k → Mut [(some gb3)] k := (Mut.skip Mut.nil_)
  replace HF := HF.less SB
  replace XLW := fun k h => XLW k (SB k h)
  clear SB
  replace E := Ext.refl (No) w4
  replace HF := HF.and (Per.blkN Bb3 NotIn.nil)
  clear Bb3
  refine rs_op rfl (ow_allocB zr24 ?_)
  intro gb5 w6 Bb5 Eb5 Gb5
  have Gb5 : _ ≤ gb5 := Nat.le_trans E.size Gb5
  have GLb5 := Nat.le_trans LW.size Gb5
  replace E := E.trans Eb5.no
  clear Eb5
  replace HF := HF.cons (some_ge Gb5)
  replace E := E.cons (some gb5)
  replace XLW := Mut.grow XLW (fun k e => Or.inr (Nat.le_trans LW.size ((some_ge Gb5) k e)))
  refine rs_op rfl (ow_assign rfl ?_)
  refine rs_nil ?_
  refine ew_next ?_
  refine cw_seq ?_
  refine cw_seq ?_
  refine cw_region ?_
  refine rs_op rfl (ow_loadB Tryd.underlying24 rfl sz24 rfl (HF.on E).here.1.2 rfl ?_)
  refine rs_op rfl (ow_enter en19 rfl ((goodI _ c _ hi (HF.on E).here.1.1.1.1.1.2).mono ?_))
  rintro e w7 ⟨rfl, hb⟩
  refine ⟨_, rfl, ?_⟩
  have XC : ∀ k, (Mut [(some gb5)]) k → k < w6.heap.size := (Mut.grow Mut.none_ (some_lt Bb5.lt))
  have SC := Nat.le_trans LW.size E.size
  have Ec := Ext.of_below hb No
  replace Bb5 := Bb5.extN Ec NotIn.nil
  replace E := E.trans Ec.no
  clear hb Ec
  refine rs_op rfl (ow_not rfl ?_)
  refine rs_op rfl (ow_move rfl ?_)
  refine rs_op rfl (ow_on rfl (ow_loadB Tryd.underlying24 rfl sz24 rfl (HF.on E).here.2 rfl ?_))
  refine rs_op rfl (ow_on rfl (ow_enter en19 rfl ((goodI _ d _ hj (HF.on E).here.1.1.1.1.2).mono ?_)))
  rintro e w8 ⟨rfl, hb⟩
  refine ⟨_, rfl, ?_⟩
  have XC : ∀ k, (Mut [(some gb5)]) k → k < w7.heap.size := (Mut.grow Mut.none_ (some_lt Bb5.lt))
  have SC := Nat.le_trans LW.size E.size
  have Ec := Ext.of_below hb No
  replace Bb5 := Bb5.extN Ec NotIn.nil
  replace E := E.trans Ec.no
  clear hb Ec
  refine rs_op rfl (ow_on rfl (ow_not rfl ?_))
  refine rs_op rfl (ow_pickF rfl rfl ?_)
  refine rs_nil ?_
  refine ew_next ?_
  refine cw_else rfl ?_
  refine cw_skip ?_
  refine ew_next ?_
  refine cw_seq ?_
  refine cw_seq ?_
  refine cw_region ?_
  refine rs_op rfl (ow_fieldAddr Tryd.underlying24 rfl sz4 (by decide) rfl ?_)
  refine rs_op rfl (ow_loadF Tryd.underlying4 rfl rfl (HF.on E).here.2 rfl ?_)
  refine rs_nil ?_
  refine ew_next ?_
  refine cw_set 19 (.bool false) rfl ((by rw [hd] : (.bool (decide (j < 0)) : Value) = _)) ?_
  refine cw_else rfl ?_
  refine cw_skip ?_
  refine ew_next ?_
  refine cw_seq ?_
  refine cw_region ?_
  refine rs_op rfl (ow_enter en22 rfl ((of_any 1 _ (by decide) (by decide)).mono ?_))
  rintro e w9 ⟨A1, c1, rfl, o1, hb⟩
  refine ⟨_, rfl, ?_⟩
  have XC : ∀ k, (Mut [(some gb5)]) k → k < w8.heap.size := (Mut.grow Mut.none_ (some_lt Bb5.lt))
  have SC := Nat.le_trans LW.size E.size
  have Ec := Ext.of_below hb No
  replace Bb5 := Bb5.extN Ec NotIn.nil
  replace E := E.trans Ec.no
  clear hb Ec
  have S1 := SC
  replace HF := HF.on E
  replace LW := LW.step E XLW
  replace E := Ext.refl (Mut [(some gb5)]) w9
  replace HF := HF.and (Per.ownX o1 XC)
  refine rs_op rfl (ow_allocB zr24 ?_)
  intro gb10 w11 Bb10 Eb10 Gb10
  have Db10_b5 : Apart (some gb10) (some gb5) := Apart.of_lt (some_lt Bb5.lt) Gb10
  have Db5_b10 := Db10_b5.symm
  have Gb10 : _ ≤ gb10 := Nat.le_trans E.size Gb10
  have GLb10 := Nat.le_trans LW.size Gb10
  replace Bb5 := Bb5.extN Eb10 NotIn.nil
  replace E := E.trans Eb10.no
  clear Eb10
  replace HF := HF.cons (some_ge Gb10)
  replace E := E.cons (some gb10)
  replace XLW := Mut.grow XLW (fun k e => Or.inr (Nat.le_trans LW.size ((some_ge Gb10) k e)))
  refine rs_op0 (ow_storeM sz24 rfl rfl Bb10 rfl rfl (Nat.le_of_ble_eq_true rfl) ?_)
  intro w12 Bx Eb10
  replace Bb10 := Bx
  clear Bx
  replace Bb5 := Bb5.extN Eb10 (NotIn.cons Db5_b10 NotIn.nil)
  replace E := E.step1 Eb10 Mut.head
  clear Eb10
  refine rs_nil ?_
  refine ew_next ?_
  refine cw_seq ?_
  refine cw_seq ?_
  refine cw_region ?_
  refine rs_op rfl (ow_fieldAddr Tryd.underlying24 rfl sz22 (by decide) rfl ?_)
  refine rs_op rfl (ow_loadF Tryd.underlying22 rfl rfl (HF.on E).here.1.2 rfl ?_)
  refine rs_op rfl (ow_len Tryd.underlying22 rfl ?_)
  refine rs_op rfl (ow_eql rfl rfl ?_)
  refine rs_nil ?_
  refine ew_next ?_
  refine cw_set 25 (.bool false) rfl ((by rw [beq_eq_false_iff_ne.2 hlen] : (.bool (((((limbs j).length : Nat)) : Int) == 0) : Value) = _)) ?_
  refine cw_else rfl ?_
  refine cw_skip ?_
  refine ew_next ?_
  refine cw_seq ?_
  refine cw_seq ?_
  refine cw_region ?_
  refine rs_op rfl (ow_fieldAddr Tryd.underlying24 rfl sz22 (by decide) rfl ?_)
  refine rs_op rfl (ow_loadF Tryd.underlying22 rfl rfl (HF.on E).here.1.1.2 rfl ?_)
  refine rs_op rfl (ow_len Tryd.underlying22 rfl ?_)
  refine rs_op rfl (ow_eql rfl rfl ?_)
  refine rs_op rfl (ow_move rfl ?_)
  refine rs_set 31 (.bool false) rfl ((by rw [beq_eq_false_iff_ne.2 hleni] : (.bool (((((limbs i).length : Nat)) : Int) == 0) : Value) = _)) ?_
  refine rs_op rfl (ow_on rfl (ow_fieldAddr Tryd.underlying24 rfl sz22 (by decide) rfl ?_))
  refine rs_op rfl (ow_on rfl (ow_loadF Tryd.underlying22 rfl rfl (HF.on E).here.1.1.2 rfl ?_))
  refine rs_op rfl (ow_on rfl (ow_len Tryd.underlying22 rfl ?_))
  refine rs_op rfl (ow_on rfl (ow_eql rfl rfl ?_))
  refine rs_op rfl (ow_on rfl (ow_move rfl ?_))
  have h1 : ((limbs i).length : Int) ≠ 1 := by have := lim_len2 h; omega
  refine rs_set 36 (.bool false) rfl ((by rw [beq_eq_false_iff_ne.2 h1] : (.bool (((((limbs i).length : Nat)) : Int) == 1) : Value) = _)) ?_
  refine rs_op rfl (ow_off rfl ?_)
  refine rs_op rfl (ow_off rfl ?_)
  refine rs_op rfl (ow_off rfl ?_)
  refine rs_op rfl (ow_off rfl ?_)
  refine rs_op rfl (ow_off rfl ?_)
  refine rs_op rfl (ow_on rfl (ow_pickF rfl rfl ?_))
  refine rs_op rfl (ow_pickF rfl rfl ?_)
  refine rs_nil ?_
  refine ew_next ?_
  refine cw_else rfl ?_
  refine cw_skip ?_
  refine ew_next ?_
  refine cw_seq ?_
  refine cw_seq ?_
  refine cw_region ?_
  refine rs_op rfl (ow_fieldAddr Tryd.underlying24 rfl sz22 (by decide) rfl ?_)
  refine rs_op rfl (ow_loadF Tryd.underlying22 rfl rfl (HF.on E).here.1.2 rfl ?_)
  refine rs_op rfl (ow_len Tryd.underlying22 rfl ?_)
  refine rs_op rfl (ow_gtr rfl rfl ?_)
  refine rs_op rfl (ow_move rfl ?_)
  have h2 : ¬ (1 : Int) < ((limbs j).length : Int) := by rw [lim_len1 (by omega) hjb]; decide
  refine rs_set 61 (.bool false) rfl ((by rw [decide_eq_false h2] : (.bool (decide (1 < ((((limbs j).length : Nat)) : Int))) : Value) = _)) ?_
  refine rs_op rfl (ow_on rfl (ow_fieldAddr Tryd.underlying24 rfl sz22 (by decide) rfl ?_))
  refine rs_op rfl (ow_on rfl (ow_loadF Tryd.underlying22 rfl rfl (HF.on E).here.1.2 rfl ?_))
  refine rs_op rfl (ow_on rfl (ow_indexAddr1 (j := 0) Tryd.underlying22 sz63 rfl rfl rfl hjp ?_))
  refine rs_op rfl (ow_on rfl (ow_load1 Tryd.underlying63 rfl rfl (HF.on E).here.1.1.1.2 ?_))
  refine rs_op rfl (ow_on rfl (ow_gtr rfl rfl ?_))
  refine rs_op rfl (ow_pickF rfl rfl ?_)
  refine rs_nil ?_
  refine ew_next ?_
  refine cw_set 67 (.bool false) rfl ((by rw [decide_eq_false (by omega)] : (.bool (decide (2000 < (((j.toNat : Nat) : Int)))) : Value) = _)) ?_
  refine cw_else rfl ?_
  refine cw_skip ?_
  refine ew_next ?_
  refine cw_seq ?_
  refine cw_seq ?_
  refine cw_region ?_
  refine rs_op rfl (ow_fieldAddr Tryd.underlying24 rfl sz22 (by decide) rfl ?_)
  refine rs_op rfl (ow_loadF Tryd.underlying22 rfl rfl (HF.on E).here.1.2 rfl ?_)
  refine rs_op rfl (ow_indexAddr1 (j := 0) Tryd.underlying22 sz63 rfl rfl rfl hjp ?_)
  refine rs_op rfl (ow_load1 Tryd.underlying63 rfl rfl (HF.on E).here.1.1.1.2 ?_)
  refine rs_op rfl (ow_move rfl ?_)
  refine rs_nil ?_
  refine ew_next ?_
  refine cw_block ?_
  have b1 : (i ^ 0).natAbs < B18 ^ 30 := by rw [Int.pow_zero]; exact Nat.one_lt_pow (by decide) (by unfold B18; omega)
  have e0 : i ^ 0 = 1 := Int.pow_zero i
  replace Bb10 : Blk w12 gb10 24 #[.bool (decide (i ^ 0 < 0)), .slice A1 (limbs (i ^ 0)).length c1] := by rw [e0]; exact Bb10
  replace HF := HF.on E
  replace LW := LW.step E XLW
  replace E := Ext.refl (Mut [(some gb10), (some gb5)]) w12
  refine cw_loop (ι := Nat × Option Addr × Nat) (fun (k, A1, c1) => [(2, .pointer (some ⟨gb1, 0, none⟩)), (4, .pointer (some ⟨gb5, 0, none⟩)), (6, .pointer (some ⟨gb10, 0, none⟩)), (72, .int .u64 ((j.toNat : Nat) : Int)), (73, .int .u64 ((k : Nat) : Int))]) (fun (k, A1, c1) w' => Ext (Mut [(some gb10), (some gb5)]) w12 w' ∧ Blk w' gb10 24 (#[.bool (decide (i ^ k < 0)), .slice A1 (limbs (i ^ k)).length c1]) ∧ Blk w' gb5 24 (#[.bool false, .slice none 0 0]) ∧ (k ≤ j.toNat ∧ (i ^ k).natAbs < B18 ^ 30 ∧ Own w' w.heap.size A1 c1 (limbs (i ^ k)))) (fun (k, A1, c1) => j.toNat - k) (0, A1, c1) ⟨rfl, rfl, rfl, rfl, rfl, trivial⟩ ⟨Ext.refl _ _, (by exact Bb10), (by exact Bb5), ⟨Nat.zero_le _, b1, by rw [e0]; exact ((HF.on E).here.2).mono S1⟩⟩ ?_
  clear Bb10
  clear Bb5
  rintro ⟨k, A1, c1⟩ w14 ⟨M13, Bb10, Bb5, ⟨hk, hb1, hown⟩⟩
  replace E := E.trans M13
  replace HF := HF.on E
  replace LW := LW.step E XLW
  replace E := Ext.refl (Mut [(some gb10), (some gb5)]) w14
  have XM13 : ∀ k, (Mut [(some gb10), (some gb5)]) k → (Mut [(some gb10), (some gb5)]) k ∨ w12.heap.size ≤ k := fun _ h => Or.inl h
  replace HF := HF.on E
  replace LW := LW.step E XLW
  replace M13 := M13.step E XM13
  replace E := Ext.refl (Mut [(some gb10), (some gb5)]) w14
  replace HF := HF.and (Per.ownN hown (NotIn.cons (own_apart hown Bb10 (by decide)) (NotIn.cons (own_apart hown Bb5 (by decide)) NotIn.nil)))
  refine cw_seq ?_
  refine cw_region ?_
  refine rs_op rfl (ow_lss rfl rfl ?_)
  refine rs_nil ?_
  refine ew_next ?_
  refine cw_seq ?_
  refine cw_cond rfl (fun hlt => ?_) (fun hlt => ?_)
  · have _way := True.intro
    have hlt := of_decide_eq_true hlt
    refine cw_skip ?_
    refine ew_next ?_
    refine cw_seq ?_
    refine cw_block ?_
    refine cw_seq ?_
    refine cw_region ?_
    refine rs_op rfl (ow_loadB Tryd.underlying24 rfl sz24 rfl Bb10 rfl ?_)
    refine rs_op rfl (ow_loadB Tryd.underlying24 rfl sz24 rfl (HF.on E).here.1.1.1.2 rfl ?_)
    refine rs_op rfl (ow_enter en36 rfl ((mulI A1 _ c1 c _ hb1 hi ((HF.on E).here.2).nums (HF.on E).here.1.1.1.1.1.1.1.2).mono ?_))
    rintro e w15 ⟨A3, c3, rfl, o3, hb⟩
    refine ⟨_, rfl, ?_⟩
    have XC : ∀ k, (Mut [(some gb10), (some gb5)]) k → k < w14.heap.size := (Mut.grow (Mut.grow Mut.none_ (some_lt Bb5.lt)) (some_lt Bb10.lt))
    have SC := Nat.le_trans LW.size E.size
    have Ec := Ext.of_below hb No
    replace Bb10 := Bb10.extN Ec NotIn.nil
    replace Bb5 := Bb5.extN Ec NotIn.nil
    replace E := E.trans Ec.no
    clear hb Ec
    have S3 := SC
    replace HF := HF.on E
    replace LW := LW.step E XLW
    replace M13 := M13.step E XM13
    replace E := Ext.refl (Mut [(some gb10), (some gb5)]) w15
    replace HF := HF.and (Per.ownX o3 XC)
    refine rs_op rfl (ow_move rfl ?_)
    refine rs_op rfl (ow_extract rfl rfl ?_)
    refine rs_op rfl (ow_extract rfl rfl ?_)
    refine rs_op rfl (ow_allocB zr24 ?_)
    intro gb16 w17 Bb16 Eb16 Gb16
    have Db16_b10 : Apart (some gb16) (some gb10) := Apart.of_lt (some_lt Bb10.lt) Gb16
    have Db10_b16 := Db16_b10.symm
    have Db16_b5 : Apart (some gb16) (some gb5) := Apart.of_lt (some_lt Bb5.lt) Gb16
    have Db5_b16 := Db16_b5.symm
    have Gb16 : _ ≤ gb16 := Nat.le_trans E.size Gb16
    have GLb16 := Nat.le_trans LW.size Gb16
    replace Bb10 := Bb10.extN Eb16 NotIn.nil
    replace Bb5 := Bb5.extN Eb16 NotIn.nil
    replace E := E.trans Eb16.no
    clear Eb16
    replace HF := HF.cons (some_ge Gb16)
    replace E := E.cons (some gb16)
    replace XLW := Mut.grow XLW (fun k e => Or.inr (Nat.le_trans LW.size ((some_ge Gb16) k e)))
    replace XM13 := Mut.grow XM13 (fun k e => Or.inr (Nat.le_trans M13.size ((some_ge Gb16) k e)))
    refine rs_op0 (ow_storeM sz24 rfl rfl Bb16 rfl rfl (Nat.le_of_ble_eq_true rfl) ?_)
    intro w18 Bx Eb16
    replace Bb16 := Bx
    clear Bx
    replace Bb10 := Bb10.extN Eb16 (NotIn.cons Db10_b16 NotIn.nil)
    replace Bb5 := Bb5.extN Eb16 (NotIn.cons Db5_b16 NotIn.nil)
    replace E := E.step1 Eb16 Mut.head
    clear Eb16
    refine rs_op rfl (ow_assign rfl ?_)
    refine rs_nil ?_
    refine ew_next ?_
    refine cw_seq ?_
    refine cw_seq ?_
    refine cw_region ?_
    refine rs_op rfl (ow_move rfl ?_)
    refine rs_op rfl (ow_neq rfl rfl ?_)
    refine rs_nil ?_
    refine ew_next ?_
    refine cw_cond rfl (fun q => ?_) (fun q => ?_)
    · have _way := True.intro
      have e1 : B18 ^ 30 ≤ (i ^ j.toNat).natAbs := by
        have h7 : ¬ (i ^ k * i).natAbs < B18 ^ 30 := fun h9 => by rw [outE_ok h9] at q; exact absurd q (by decide)
        have h8 := pow_mono (i := i) (by omega) (show k + 1 ≤ j.toNat by omega)
        rw [Int.pow_succ] at h8
        omega
      have e2 : outE true (i ^ k * i) = 7 := outE_big (by
        rcases Nat.lt_or_ge (i ^ k * i).natAbs (B18 ^ 30) with h9 | h9
        · rw [outE_ok h9] at q; exact absurd q (by decide)
        · exact h9)
      refine cw_seq ?_
      refine cw_region ?_
      refine rs_op rfl (ow_build (cs := #[.bool false, .slice none 0 0]) pl24 zr24 rfl rfl ?_)
      refine rs_op rfl (ow_move rfl ?_)
      refine rs_op0 (ow_storeM sz24 rfl rfl Bb5 rfl rfl (Nat.le_of_ble_eq_true rfl) ?_)
      intro w19 Bx Eb5
      replace Bb5 := Bx
      clear Bx
      replace Bb16 := Bb16.extN Eb5 (NotIn.cons Db16_b5 NotIn.nil)
      replace Bb10 := Bb10.extN Eb5 (NotIn.cons Db10_b5 NotIn.nil)
      replace E := E.step1 Eb5 (Mut.tail (Mut.tail Mut.head))
      clear Eb5
      refine rs_op rfl (ow_assign rfl ?_)
      refine rs_nil ?_
      refine ew_next ?_
      refine cw_ret ?_
      refine ew_then_ret ?_
      refine ew_block_ret ?_
      refine ew_then_ret ?_
      refine ew_then_ret ?_
      refine ew_block_ret ?_
      refine ew_then_ret ?_
      refine ew_set 5 (.int .i64 7) rfl ((by rw [e2] : (.int .i64 (outE true (i ^ k * i)) : Value) = _)) ?_
      refine ew_ret (rs := [.cell 4 24, .tmp 5]) (vs := [_, _]) rfl ⟨⟨_, rfl, res_box Tryd.underlying24 rfl sz24 Bb5 rfl⟩, rfl, trivial⟩ ?_
      exact by rw [outV_big e1, outE_big e1]; exact retErr_zero (LW.step E XLW).toBelow
    · have _way := True.intro
      have h9 : (i ^ k * i).natAbs < B18 ^ 30 := outE_zero (by simpa using q)
      have eV : outV true (i ^ k * i) = i ^ (k + 1) := by rw [outV_ok h9, Int.pow_succ]
      refine cw_skip ?_
      refine ew_next ?_
      refine cw_region ?_
      refine rs_op rfl (ow_loadB Tryd.underlying24 rfl sz24 rfl Bb16 rfl ?_)
      refine rs_op0 (ow_storeM sz24 rfl rfl Bb10 rfl rfl (Nat.le_of_ble_eq_true rfl) ?_)
      intro w20 Bx Eb10
      replace Bb10 := Bx
      clear Bx
      replace Bb16 := Bb16.extN Eb10 (NotIn.cons Db16_b10 NotIn.nil)
      replace Bb5 := Bb5.extN Eb10 (NotIn.cons Db5_b10 NotIn.nil)
      replace E := E.step1 Eb10 (Mut.tail Mut.head)
      clear Eb10
      refine rs_nil ?_
      refine ew_block_normal ?_
      refine ew_next ?_
      refine cw_region ?_
      refine rs_op rfl (ow_add rfl rfl (wrap_u64 (by omega)) ?_)
      refine rs_op rfl (ow_move rfl ?_)
      refine rs_nil ?_
      rw [eV] at Bb10
      exact ew_round (ι := Nat × Option Addr × Nat) (s := fun (k, A1, c1) => [(2, .pointer (some ⟨gb1, 0, none⟩)), (4, .pointer (some ⟨gb5, 0, none⟩)), (6, .pointer (some ⟨gb10, 0, none⟩)), (72, .int .u64 ((j.toNat : Nat) : Int)), (73, .int .u64 ((k : Nat) : Int))]) (R := fun (k, A1, c1) w' => Ext (Mut [(some gb10), (some gb5)]) w12 w' ∧ Blk w' gb10 24 (#[.bool (decide (i ^ k < 0)), .slice A1 (limbs (i ^ k)).length c1]) ∧ Blk w' gb5 24 (#[.bool false, .slice none 0 0]) ∧ (k ≤ j.toNat ∧ (i ^ k).natAbs < B18 ^ 30 ∧ Own w' w.heap.size A1 c1 (limbs (i ^ k)))) (m := fun (k, A1, c1) => j.toNat - k) (i := ⟨k, A1, c1⟩) (k + 1, A3, c3) (by show j.toNat - (k + 1) < j.toNat - k; omega) ⟨rfl, rfl, rfl, rfl, rfl, trivial⟩ ⟨M13.step E XM13, (by exact Bb10), (by exact Bb5), by omega, by rw [Int.pow_succ]; exact h9, by rw [← eV]; exact ((HF.on E).here.2).mono S3⟩
  · have _way := True.intro
    have hge := of_decide_eq_false hlt
    obtain rfl : k = j.toNat := by omega
    refine cw_exit ?_
    refine ew_then_exit ?_
    refine ew_then_exit ?_
    refine ew_block_here ?_
    refine ew_next ?_
    refine cw_seq ?_
    refine cw_region ?_
    refine rs_op rfl (ow_loadB Tryd.underlying24 rfl sz24 rfl Bb10 rfl ?_)
    refine rs_op0 (ow_storeM sz24 rfl rfl Bb5 rfl rfl (Nat.le_of_ble_eq_true rfl) ?_)
    intro w21 Bx Eb5
    replace Bb5 := Bx
    clear Bx
    replace Bb10 := Bb10.extN Eb5 (NotIn.cons Db10_b5 NotIn.nil)
    replace E := E.step1 Eb5 (Mut.tail Mut.head)
    clear Eb5
    replace HF := HF.on E
    replace LW := LW.step E XLW
    replace M13 := M13.step E XM13
    have SB : ∀ k, Mut [(some gb10)] k → Mut [(some gb10), (some gb5)] k := (Mut.keep (Mut.skip Mut.nil_))
    replace HF := HF.less SB
    replace XLW := fun k h => XLW k (SB k h)
    replace XM13 := fun k h => XM13 k (SB k h)
    clear SB
    replace E := Ext.refl (Mut [(some gb10)]) w21
    replace HF := HF.and (Per.blkN Bb5 (NotIn.cons Db5_b10 NotIn.nil))
    clear Bb5
    refine rs_op rfl (ow_assign rfl ?_)
    refine rs_nil ?_
    refine ew_next ?_
    refine cw_ret ?_
    refine ew_ret (rs := [.cell 4 24, .tmp 5]) (vs := [_, _]) rfl ⟨⟨_, rfl, res_box Tryd.underlying24 rfl sz24 (HF.on E).here.2 rfl⟩, rfl, trivial⟩ ?_
    exact ⟨A1, c1, by rw [outV_ok hb1, outE_ok hb1]; rfl, by rw [outV_ok hb1]; exact (HF.on E).here.1.2, (LW.step E XLW).toBelow⟩
/-- Pow, of numbers in form: the power, where the exponent is not below nought. -/
theorem powI (h0 : 0 ≤ j) : Calls Tryd.prog 38 #[.agg #[.bool (decide (i < 0)), .slice A (limbs i).length c], .agg #[.bool (decide (j < 0)), .slice B (limbs j).length d]] w (RetBigErr w (outV true (i ^ j.toNat)) (outE true (i ^ j.toNat))) := by
  have hsmall : ∀ z : Int, z.natAbs ≤ 1 → z.natAbs < B18 ^ 30 := fun z hz => Nat.lt_of_le_of_lt hz (Nat.one_lt_pow (by decide) (by unfold B18; omega))
  rcases Int.le_iff_lt_or_eq.1 h0 with hp | rfl
  · rcases Nat.lt_or_ge i.natAbs 2 with h2 | h2
    · rcases (by omega : i.natAbs = 0 ∨ i.natAbs = 1) with h3 | h3
      · have hi0 : i = 0 := by omega
        have e : i ^ j.toNat = 0 := by rw [hi0]; exact Int.zero_pow (by omega)
        rw [e, outV_ok (hsmall 0 (by decide)), outE_ok (hsmall 0 (by decide))]
        exact pow_nought i j A B c d w hi hj hx hy hp hi0
      · have e : (i ^ j.toNat).natAbs ≤ 1 := by rw [pow_abs, h3, Nat.one_pow]; exact Nat.le_refl _
        rw [outV_ok (hsmall _ e), outE_ok (hsmall _ e)]
        cases hin : decide (i < 0)
        · rw [← hin]; exact pow_one i j A B c d w hi hj hx hy hp h3 hin
        · rw [← hin]; exact pow_mone i j A B c d w hi hj hx hy hp h3 hin
    · rcases Int.lt_or_le 2000 j with h4 | h4
      · have e := pow_range h2 (n := j.toNat) (by omega)
        rw [outV_big e, outE_big e]
        rcases Nat.lt_or_ge i.natAbs B18 with h5 | h5 <;> rcases Nat.lt_or_ge j.natAbs B18 with h6 | h6
        · exact pow_g3 i j A B c d w hi hj hx hy h4 h2 h5 h6
        · exact pow_g1 i j A B c d w hi hj hx hy h4 h2 h5 h6
        · exact pow_g4 i j A B c d w hi hj hx hy h4 h2 h5 h6
        · exact pow_g2 i j A B c d w hi hj hx hy h4 h2 h5 h6
      · rcases Nat.lt_or_ge i.natAbs B18 with h5 | h5
        · exact pow_l1 i j A B c d w hi hj hx hy hp h4 h2 h5
        · exact pow_l2 i j A B c d w hi hj hx hy hp h4 h2 h5
  · have e : i ^ (0 : Int).toNat = 1 := Int.pow_zero i
    rw [e, outV_ok (hsmall 1 (by decide)), outE_ok (hsmall 1 (by decide))]
    exact pow_zero i 0 A B c d w hi hj hx hy rfl
end
end Go.Proofs.YteggjfmcpodepaaDoor

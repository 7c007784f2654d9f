/- The walk of the law WholePowers: every Pow. -/
import Derived.Test.YteggjfmcpodepaaDoorRPow
import Derived.Test.YteggjfmcpodepaaDoorROf
namespace Go.Proofs.YteggjfmcpodepaaDoor
open Go.RowKit
set_option maxRecDepth 100000
/-- is, at what a power gives. -/
theorem is_outO (A B : Option Addr) (c d : Nat) (i : Int) (w : World) (hx : Nums w A (limbs (outV true i))) (hy : Nums8 w B (tens (outV true i))) :
    Calls Tryd.prog 16 #[.agg #[.bool (decide (outV true i < 0)), .slice A (limbs (outV true i)).length c], .int .i64 (outE true i), .agg #[.bool (decide (outV true i < 0)), .slice B (tens (outV true i)).length d], .int .i64 (outE true i)] w fun e w' => e = .returned (.bool true) ∧ Below w.heap.size w w' := by
  by_cases h : i.natAbs < B18 ^ 30
  · rw [outV_ok h] at hx hy ⊢
    rw [outE_ok h]
    exact is_ok A B c d i w hx hy (by have := limbs_length h; omega) (by have := tens_length h; omega)
  · rw [outV_big (by omega)] at hx ⊢
    rw [outE_big (by omega), limbs_zero]
    exact is_err A B c d _ _ 7 w (by simp)
theorem rofI {i : Int} (A : Option Addr) (c : Nat) (w : World) (hi : i.natAbs < B18 ^ 30) (hx : Nums w A (limbs i)) : Calls Tryd.prog 18 #[.agg #[.bool (decide (i < 0)), .slice A (limbs i).length c]] w (RetNum w i) := by
  have h := rof_any (decide (i < 0)) A c (limbs i) w hx (good_limbs hi)
  rwa [num_limbs] at h
section
variable (n1 n2 : Bool) (A B : Option Addr) (c d : Nat) (xs ys : List Nat) (w : World)
theorem pow_bad (hx : Nums w A xs) (hy : Nums w B ys) (hl : xs.length ≤ 9223372036854775807) (hl' : ys.length ≤ 9223372036854775807) (hok : (goodB n1 xs && goodB n2 ys) = false) :
    Calls Tryd.prog 38 #[.agg #[.bool n1, .slice A xs.length c], .agg #[.bool n2, .slice B ys.length d]] w (RetNought w 3) := by
  refine Calls.mono (R := RetBigErr w 0 3) ?_ (fun _ _ h => retBigErr_nought h)
  cases hg : goodB n1 xs
  · exact pow_bad1 n1 n2 A B c d xs ys w hx hl hg
  · rw [hg, Bool.true_and] at hok
    exact pow_bad2 n1 n2 A B c d xs ys w hx hy hl hl' hg hok
theorem powers_bad (hx : Nums w A xs) (hy : Nums w B ys) (hl : xs.length ≤ 9223372036854775807) (hl' : ys.length ≤ 9223372036854775807) (hok : (goodB n1 xs && goodB n2 ys) = false) :
    Calls Tryd.prog 7 #[.agg #[.bool n1, .slice A xs.length c], .agg #[.bool n2, .slice B ys.length d]] w (LawTrue w) := by
  have hform := fun w hx hy => lform_any n1 n2 A B c d xs ys w hx hy hl hl'
  have hfo : formE (goodB n1 xs) (goodB n2 ys) = 3 := by unfold formE; rw [hok]; rfl
  rw [hfo] at hform
  have hpow := fun w hx hy => pow_bad n1 n2 A B c d xs ys w hx hy hl hl' hok
  refine calls_cw Tryd.func7 rfl Tryd.ntmps7 rfl ?_
  have HF : Per No w (fun _ => True) := Per.true_
  have LW := Ext.refl (No) w
  have XLW : ∀ k, (No) k → (No) k ∨ w.heap.size ≤ k := fun _ h => Or.inl h
  have E := Ext.refl No w
  replace HF := HF.on E
  replace LW := LW.step E XLW
  replace E := Ext.refl (No) w
  replace HF := HF.and (Per.nums0 hx)
  replace HF := HF.on E
  replace LW := LW.step E XLW
  replace E := Ext.refl (No) w
  replace HF := HF.and (Per.nums0 hy)
  refine cw_seq ?_
  refine cw_region ?_
  refine rs_op rfl (ow_boxB rfl ?_)
  intro gb1 w2 Bb1 Eb1 Gb1
  have Gb1 : _ ≤ gb1 := Nat.le_trans E.size Gb1
  have GLb1 := Nat.le_trans LW.size Gb1
  replace E := E.trans Eb1.no
  clear Eb1
  replace HF := HF.cons (some_ge Gb1)
  replace E := E.cons (some gb1)
  replace XLW := Mut.grow XLW (fun k e => Or.inr (Nat.le_trans LW.size ((some_ge Gb1) k e)))
  replace HF := HF.on E
  replace LW := LW.step E XLW
  have SB : ∀ k, No k → Mut [(some gb1)] k := (Mut.skip Mut.nil_)
  replace HF := HF.less SB
  replace XLW := fun k h => XLW k (SB k h)
  clear SB
  replace E := Ext.refl (No) w2
  replace HF := HF.and (Per.blkN Bb1 NotIn.nil)
  clear Bb1
  refine rs_op rfl (ow_boxB rfl ?_)
  intro gb3 w4 Bb3 Eb3 Gb3
  have Gb3 : _ ≤ gb3 := Nat.le_trans E.size Gb3
  have GLb3 := Nat.le_trans LW.size Gb3
  replace E := E.trans Eb3.no
  clear Eb3
  replace HF := HF.cons (some_ge Gb3)
  replace E := E.cons (some gb3)
  replace XLW := Mut.grow XLW (fun k e => Or.inr (Nat.le_trans LW.size ((some_ge Gb3) k e)))
  replace HF := HF.on E
  replace LW := LW.step E XLW
  have SB : ∀ k, No k → Mut [(some gb3)] k := (Mut.skip Mut.nil_)
  replace HF := HF.less SB
  replace XLW := fun k h => XLW k (SB k h)
  clear SB
  replace E := Ext.refl (No) w4
  replace HF := HF.and (Per.blkN Bb3 NotIn.nil)
  clear Bb3
  refine rs_op rfl (ow_assign rfl ?_)
  refine rs_nil ?_
  refine ew_next ?_
  refine cw_seq ?_
  refine cw_seq ?_
  refine cw_region ?_
  refine rs_op rfl (ow_enter en13 rfl ((known_any _).mono ?_))
  rintro e w5 ⟨rfl, hb⟩
  refine ⟨_, rfl, ?_⟩
  have XC : ∀ k, (No) k → k < w4.heap.size := Mut.none_
  have SC := Nat.le_trans LW.size E.size
  have Ec := Ext.of_below hb No
  replace E := E.trans Ec.no
  clear hb Ec
  refine rs_op rfl (ow_not rfl ?_)
  refine rs_nil ?_
  refine ew_next ?_
  refine cw_else rfl ?_
  refine cw_skip ?_
  refine ew_next ?_
  refine cw_seq ?_
  refine cw_region ?_
  refine rs_op rfl (ow_loadB Tryd.underlying24 rfl sz24 rfl (HF.on E).here.1.2 rfl ?_)
  refine rs_op rfl (ow_loadB Tryd.underlying24 rfl sz24 rfl (HF.on E).here.2 rfl ?_)
  refine rs_op rfl (ow_enter en38 rfl ((hpow _ (HF.on E).here.1.1.1.2 (HF.on E).here.1.1.2).mono ?_))
  rintro e w6 ⟨A1, c1, rfl, _, hb⟩
  refine ⟨_, rfl, ?_⟩
  have XC : ∀ k, (No) k → k < w5.heap.size := Mut.none_
  have SC := Nat.le_trans LW.size E.size
  have Ec := Ext.of_below hb No
  replace E := E.trans Ec.no
  clear hb Ec
  refine rs_op rfl (ow_move rfl ?_)
  refine rs_op rfl (ow_extract rfl rfl ?_)
  refine rs_op rfl (ow_extract rfl rfl ?_)
  refine rs_op rfl (ow_allocB zr24 ?_)
  intro gb7 w8 Bb7 Eb7 Gb7
  have Gb7 : _ ≤ gb7 := Nat.le_trans E.size Gb7
  have GLb7 := Nat.le_trans LW.size Gb7
  replace E := E.trans Eb7.no
  clear Eb7
  replace HF := HF.cons (some_ge Gb7)
  replace E := E.cons (some gb7)
  replace XLW := Mut.grow XLW (fun k e => Or.inr (Nat.le_trans LW.size ((some_ge Gb7) k e)))
  refine rs_op0 (ow_storeM sz24 rfl rfl Bb7 rfl rfl (Nat.le_of_ble_eq_true rfl) ?_)
  intro w9 Bx Eb7
  replace Bb7 := Bx
  clear Bx
  replace E := E.step1 Eb7 Mut.head
  clear Eb7
  replace HF := HF.on E
  replace LW := LW.step E XLW
  have SB : ∀ k, No k → Mut [(some gb7)] k := (Mut.skip Mut.nil_)
  replace HF := HF.less SB
  replace XLW := fun k h => XLW k (SB k h)
  clear SB
  replace E := Ext.refl (No) w9
  replace HF := HF.and (Per.blkN Bb7 NotIn.nil)
  clear Bb7
  refine rs_op rfl (ow_assign rfl ?_)
  refine rs_nil ?_
  refine ew_next ?_
  refine cw_seq ?_
  refine cw_region ?_
  refine rs_op rfl (ow_loadB Tryd.underlying24 rfl sz24 rfl (HF.on E).here.1.1.2 rfl ?_)
  refine rs_op rfl (ow_loadB Tryd.underlying24 rfl sz24 rfl (HF.on E).here.1.2 rfl ?_)
  refine rs_op rfl (ow_enter en15 rfl ((hform _ (HF.on E).here.1.1.1.1.2 (HF.on E).here.1.1.1.2).mono ?_))
  rintro e w10 ⟨rfl, hb⟩
  refine ⟨_, rfl, ?_⟩
  have XC : ∀ k, (No) k → k < w9.heap.size := Mut.none_
  have SC := Nat.le_trans LW.size E.size
  have Ec := Ext.of_below hb No
  replace E := E.trans Ec.no
  clear hb Ec
  refine rs_op rfl (ow_assign rfl ?_)
  refine rs_nil ?_
  refine ew_next ?_
  refine cw_seq ?_
  refine cw_seq ?_
  refine cw_region ?_
  refine rs_op rfl (ow_move rfl ?_)
  refine rs_op rfl (ow_neq rfl rfl ?_)
  refine rs_nil ?_
  refine ew_next ?_
  refine cw_then rfl ?_
  refine cw_seq ?_
  refine cw_region ?_
  refine rs_op rfl (ow_loadB Tryd.underlying24 rfl sz24 rfl (HF.on E).here.2 rfl ?_)
  refine rs_op rfl (ow_move rfl ?_)
  refine rs_op rfl (ow_build (cs := #[.bool false, .slice none 0 0]) pl33 zr33 rfl rfl ?_)
  refine rs_op rfl (ow_move rfl ?_)
  refine rs_op rfl (ow_enter en16 rfl ((is_err A1 none c1 0 false 0 3 _ (by simp)).mono ?_))
  rintro e w11 ⟨rfl, hb⟩
  refine ⟨_, rfl, ?_⟩
  have XC : ∀ k, (No) k → k < w10.heap.size := Mut.none_
  have SC := Nat.le_trans LW.size E.size
  have Ec := Ext.of_below hb No
  replace E := E.trans Ec.no
  clear hb Ec
  refine rs_op rfl (ow_assign rfl ?_)
  refine rs_nil ?_
  refine ew_next ?_
  refine cw_ret ?_
  refine ew_then_ret ?_
  refine ew_ret (rs := [.tmp 4]) (vs := [_]) rfl ⟨rfl, trivial⟩ ?_
  exact ⟨rfl, (LW.step E XLW).toBelow⟩
end
section
variable (i j : Int) (A B : Option Addr) (c d : Nat) (w : World) (hi : i.natAbs < B18 ^ 30) (hj : j.natAbs < B18 ^ 30) (hx : Nums w A (limbs i)) (hy : Nums w B (limbs j))
include hi hj hx hy
theorem powers_neg (h0 : j < 0) :
    Calls Tryd.prog 7 #[.agg #[.bool (decide (i < 0)), .slice A (limbs i).length c], .agg #[.bool (decide (j < 0)), .slice B (limbs j).length d]] w (LawTrue w) := by
  refine calls_cw Tryd.func7 rfl Tryd.ntmps7 rfl ?_
  have HF : Per No w (fun _ => True) := Per.true_
  have LW := Ext.refl (No) w
  have XLW : ∀ k, (No) k → (No) k ∨ w.heap.size ≤ k := fun _ h => Or.inl h
  have E := Ext.refl No w
  replace HF := HF.on E
  replace LW := LW.step E XLW
  replace E := Ext.refl (No) w
  replace HF := HF.and (Per.nums0 hx)
  replace HF := HF.on E
  replace LW := LW.step E XLW
  replace E := Ext.refl (No) w
  replace HF := HF.and (Per.nums0 hy)
  refine cw_seq ?_
  refine cw_region ?_
  refine rs_op rfl (ow_boxB rfl ?_)
  intro gb1 w2 Bb1 Eb1 Gb1
  have Gb1 : _ ≤ gb1 := Nat.le_trans E.size Gb1
  have GLb1 := Nat.le_trans LW.size Gb1
  replace E := E.trans Eb1.no
  clear Eb1
  replace HF := HF.cons (some_ge Gb1)
  replace E := E.cons (some gb1)
  replace XLW := Mut.grow XLW (fun k e => Or.inr (Nat.le_trans LW.size ((some_ge Gb1) k e)))
  replace HF := HF.on E
  replace LW := LW.step E XLW
  have SB : ∀ k, No k → Mut [(some gb1)] k := (Mut.skip Mut.nil_)
  replace HF := HF.less SB
  replace XLW := fun k h => XLW k (SB k h)
  clear SB
  replace E := Ext.refl (No) w2
  replace HF := HF.and (Per.blkN Bb1 NotIn.nil)
  clear Bb1
  refine rs_op rfl (ow_boxB rfl ?_)
  intro gb3 w4 Bb3 Eb3 Gb3
  have Gb3 : _ ≤ gb3 := Nat.le_trans E.size Gb3
  have GLb3 := Nat.le_trans LW.size Gb3
  replace E := E.trans Eb3.no
  clear Eb3
  replace HF := HF.cons (some_ge Gb3)
  replace E := E.cons (some gb3)
  replace XLW := Mut.grow XLW (fun k e => Or.inr (Nat.le_trans LW.size ((some_ge Gb3) k e)))
  replace HF := HF.on E
  replace LW := LW.step E XLW
  have SB : ∀ k, No k → Mut [(some gb3)] k := (Mut.skip Mut.nil_)
  replace HF := HF.less SB
  replace XLW := fun k h => XLW k (SB k h)
  clear SB
  replace E := Ext.refl (No) w4
  replace HF := HF.and (Per.blkN Bb3 NotIn.nil)
  clear Bb3
  refine rs_op rfl (ow_assign rfl ?_)
  refine rs_nil ?_
  refine ew_next ?_
  refine cw_seq ?_
  refine cw_seq ?_
  refine cw_region ?_
  refine rs_op rfl (ow_enter en13 rfl ((known_any _).mono ?_))
  rintro e w5 ⟨rfl, hb⟩
  refine ⟨_, rfl, ?_⟩
  have XC : ∀ k, (No) k → k < w4.heap.size := Mut.none_
  have SC := Nat.le_trans LW.size E.size
  have Ec := Ext.of_below hb No
  replace E := E.trans Ec.no
  clear hb Ec
  refine rs_op rfl (ow_not rfl ?_)
  refine rs_nil ?_
  refine ew_next ?_
  refine cw_else rfl ?_
  refine cw_skip ?_
  refine ew_next ?_
  refine cw_seq ?_
  refine cw_region ?_
  refine rs_op rfl (ow_loadB Tryd.underlying24 rfl sz24 rfl (HF.on E).here.1.2 rfl ?_)
  refine rs_op rfl (ow_loadB Tryd.underlying24 rfl sz24 rfl (HF.on E).here.2 rfl ?_)
  refine rs_op rfl (ow_enter en38 rfl (((pow_neg i j A B c d _ hi hj (HF.on E).here.1.1.1.2 (HF.on E).here.1.1.2 h0).mono (fun _ _ h => retBigErr_nought h)).mono ?_))
  rintro e w6 ⟨A1, c1, rfl, _, hb⟩
  refine ⟨_, rfl, ?_⟩
  have XC : ∀ k, (No) k → k < w5.heap.size := Mut.none_
  have SC := Nat.le_trans LW.size E.size
  have Ec := Ext.of_below hb No
  replace E := E.trans Ec.no
  clear hb Ec
  refine rs_op rfl (ow_move rfl ?_)
  refine rs_op rfl (ow_extract rfl rfl ?_)
  refine rs_op rfl (ow_extract rfl rfl ?_)
  refine rs_op rfl (ow_allocB zr24 ?_)
  intro gb7 w8 Bb7 Eb7 Gb7
  have Gb7 : _ ≤ gb7 := Nat.le_trans E.size Gb7
  have GLb7 := Nat.le_trans LW.size Gb7
  replace E := E.trans Eb7.no
  clear Eb7
  replace HF := HF.cons (some_ge Gb7)
  replace E := E.cons (some gb7)
  replace XLW := Mut.grow XLW (fun k e => Or.inr (Nat.le_trans LW.size ((some_ge Gb7) k e)))
  refine rs_op0 (ow_storeM sz24 rfl rfl Bb7 rfl rfl (Nat.le_of_ble_eq_true rfl) ?_)
  intro w9 Bx Eb7
  replace Bb7 := Bx
  clear Bx
  replace E := E.step1 Eb7 Mut.head
  clear Eb7
  replace HF := HF.on E
  replace LW := LW.step E XLW
  have SB : ∀ k, No k → Mut [(some gb7)] k := (Mut.skip Mut.nil_)
  replace HF := HF.less SB
  replace XLW := fun k h => XLW k (SB k h)
  clear SB
  replace E := Ext.refl (No) w9
  replace HF := HF.and (Per.blkN Bb7 NotIn.nil)
  clear Bb7
  refine rs_op rfl (ow_assign rfl ?_)
  refine rs_nil ?_
  refine ew_next ?_
  refine cw_seq ?_
  refine cw_region ?_
  refine rs_op rfl (ow_loadB Tryd.underlying24 rfl sz24 rfl (HF.on E).here.1.1.2 rfl ?_)
  refine rs_op rfl (ow_loadB Tryd.underlying24 rfl sz24 rfl (HF.on E).here.1.2 rfl ?_)
  refine rs_op rfl (ow_enter en15 rfl ((formI A B c d _ hi hj (HF.on E).here.1.1.1.1.2 (HF.on E).here.1.1.1.2).mono ?_))
  rintro e w10 ⟨rfl, hb⟩
  refine ⟨_, rfl, ?_⟩
  have XC : ∀ k, (No) k → k < w9.heap.size := Mut.none_
  have SC := Nat.le_trans LW.size E.size
  have Ec := Ext.of_below hb No
  replace E := E.trans Ec.no
  clear hb Ec
  refine rs_op rfl (ow_assign rfl ?_)
  refine rs_nil ?_
  refine ew_next ?_
  refine cw_seq ?_
  refine cw_seq ?_
  refine cw_region ?_
  refine rs_op rfl (ow_move rfl ?_)
  refine rs_op rfl (ow_neq rfl rfl ?_)
  refine rs_nil ?_
  refine ew_next ?_
  refine cw_else rfl ?_
  refine cw_skip ?_
  refine ew_next ?_
  refine cw_seq ?_
  have OY : ∀ k, (Mut (outM [])) k → k < (World.drew w10).heap.size → (No) k := fun k h _ => (Mut.none_) k h
  refine cw_drawn (No) Mut.none_ [⟨8, 9, 33, #[.bool false, .slice none 0 0]⟩] [] (fxAt [Fx.of (.agg #[.bool (decide (i < 0)), .slice A (limbs i).length c]),
      ⟨(Option Addr × Nat), fun (A2, c2) => .agg #[.bool (decide (i < 0)), .slice A2 (tens i).length c2], fun (A2, c2) b => (Nums8 b A2 (tens i))⟩,
      Fx.of (.agg #[.bool (decide (j < 0)), .slice B (limbs j).length d]),
      ⟨(Option Addr × Nat), fun (A3, c3) => .agg #[.bool (decide (j < 0)), .slice A3 (tens j).length c3], fun (A3, c3) b => (Nums8 b A3 (tens j))⟩,
      ⟨(Option Addr × Nat), fun (A4, c4) => .tuple #[.agg #[.bool (decide ((0 : Int) < 0)), .slice A4 (tens 0).length c4], .int .i64 1], fun (A4, c4) b => (Nums8 b A4 (tens 0))⟩,
      ⟨(Option Addr × Nat), fun (A4, c4) => .tuple #[.agg #[.bool (decide ((0 : Int) < 0)), .slice A4 (tens 0).length c4], .int .i64 1], fun (A4, c4) b => (Nums8 b A4 (tens 0))⟩,
      ⟨(Option Addr × Nat), fun (A4, c4) => .agg #[.bool (decide ((0 : Int) < 0)), .slice A4 (tens 0).length c4], fun (A4, c4) b => (Nums8 b A4 (tens 0))⟩,
      Fx.of (.int .i64 1),
      Fx.of undef,
      Fx.of undef,
      Fx.of (.int .i64 1)]) mixed rfl trivial (fun _ h => by cases h) ?_ ?_
  · refine ⟨?_, ?_, ?_, ?_, ?_, ?_, ?_, ?_, ?_, ?_, ?_, trivial⟩
    · intro vs X wq K
      have LE := K.1
      have XN := K.2.1
      have SQ := Nat.le_trans LW.size (Nat.le_trans E.size LE.size)
      exact ow_loadB Tryd.underlying24 rfl sz24 rfl (HF.on (E.drew.trans (LE.mono OY))).here.1.1.2 rfl ⟨Below.refl _ _, Left.of rfl⟩
    · intro vs X wq K
      have LE := K.1
      have XN := K.2.1
      have SQ := Nat.le_trans LW.size (Nat.le_trans E.size LE.size)
      obtain ⟨_, e0, k0⟩ := K.dep 0 rfl rfl rfl
      refine ow_set 28 (.agg #[.bool (decide (i < 0)), .slice A (limbs i).length c]) rfl e0 ?_
      refine ow_enter en18 rfl ((rofI A c _ hi (HF.on (E.drew.trans (LE.mono OY))).here.1.1.1.1.2).mono ?_)
      rintro e w2 ⟨A2, c2, rfl, o2, hb⟩
      exact ⟨_, rfl, hb, ⟨(A2, c2), rfl, Per.own8X o2 XN⟩⟩
    · intro vs X wq K
      have LE := K.1
      have XN := K.2.1
      have SQ := Nat.le_trans LW.size (Nat.le_trans E.size LE.size)
      exact ow_loadB Tryd.underlying24 rfl sz24 rfl (HF.on (E.drew.trans (LE.mono OY))).here.1.2 rfl ⟨Below.refl _ _, Left.of rfl⟩
    · intro vs X wq K
      have LE := K.1
      have XN := K.2.1
      have SQ := Nat.le_trans LW.size (Nat.le_trans E.size LE.size)
      obtain ⟨_, e2, k2⟩ := K.dep 2 rfl rfl rfl
      refine ow_set 30 (.agg #[.bool (decide (j < 0)), .slice B (limbs j).length d]) rfl e2 ?_
      refine ow_enter en18 rfl ((rofI B d _ hj (HF.on (E.drew.trans (LE.mono OY))).here.1.1.1.2).mono ?_)
      rintro e w2 ⟨A3, c3, rfl, o3, hb⟩
      exact ⟨_, rfl, hb, ⟨(A3, c3), rfl, Per.own8X o3 XN⟩⟩
    · intro vs X wq K
      have LE := K.1
      have XN := K.2.1
      have SQ := Nat.le_trans LW.size (Nat.le_trans E.size LE.size)
      obtain ⟨⟨A2, c2⟩, e1, k1⟩ := K.dep 1 rfl rfl rfl
      refine ow_set 29 (.agg #[.bool (decide (i < 0)), .slice A2 (tens i).length c2]) rfl e1 ?_
      obtain ⟨⟨A3, c3⟩, e3, k3⟩ := K.dep 3 rfl rfl rfl
      refine ow_set 31 (.agg #[.bool (decide (j < 0)), .slice A3 (tens j).length c3]) rfl e3 ?_
      refine ow_enter en39 rfl ((rpow_neg i j A2 A3 c2 c3 _ hi hj k1.here k3.here h0).mono ?_)
      rintro e w2 ⟨A4, c4, rfl, o4, p4, hb⟩
      exact ⟨_, rfl, hb, ⟨(A4, c4), rfl, per_pow o4 p4 XN (k1.map (fun _ h => h)) hb⟩⟩
    · intro vs X wq K
      have LE := K.1
      have XN := K.2.1
      have SQ := Nat.le_trans LW.size (Nat.le_trans E.size LE.size)
      obtain ⟨⟨A4, c4⟩, e4, k4⟩ := K.dep 4 rfl rfl rfl
      refine ow_set 32 (.tuple #[.agg #[.bool (decide ((0 : Int) < 0)), .slice A4 (tens 0).length c4], .int .i64 1]) rfl e4 ?_
      exact ow_move rfl ⟨Below.refl _ _, ⟨⟨A4, c4⟩, rfl, (k4.map (fun _ h => h))⟩⟩
    · intro vs X wq K
      have LE := K.1
      have XN := K.2.1
      have SQ := Nat.le_trans LW.size (Nat.le_trans E.size LE.size)
      obtain ⟨⟨A4, c4⟩, e5, k5⟩ := K.dep 5 rfl rfl rfl
      refine ow_set 27 (.tuple #[.agg #[.bool (decide ((0 : Int) < 0)), .slice A4 (tens 0).length c4], .int .i64 1]) rfl e5 ?_
      exact ow_extract rfl rfl ⟨Below.refl _ _, ⟨⟨A4, c4⟩, rfl, (k5.map (fun _ h => h))⟩⟩
    · intro vs X wq K
      have LE := K.1
      have XN := K.2.1
      have SQ := Nat.le_trans LW.size (Nat.le_trans E.size LE.size)
      obtain ⟨⟨A4, c4⟩, e5, k5⟩ := K.dep 5 rfl rfl rfl
      refine ow_set 27 (.tuple #[.agg #[.bool (decide ((0 : Int) < 0)), .slice A4 (tens 0).length c4], .int .i64 1]) rfl e5 ?_
      exact ow_extract rfl rfl ⟨Below.refl _ _, Left.of rfl⟩
    · exact ⟨_, _, _, _, _, rfl, zr33, rfl⟩
    · refine ⟨_, _, _, _, _, rfl, rfl, rfl, sz33, fun vs X wq K => ?_⟩
      obtain ⟨⟨A4, c4⟩, e0, _⟩ := K.dep 6 rfl rfl rfl
      exact ⟨vs 6, rfl, by rw [e0]; rfl, by rw [e0]; rfl⟩
    · intro vs X wq K
      have LE := K.1
      have XN := K.2.1
      have SQ := Nat.le_trans LW.size (Nat.le_trans E.size LE.size)
      obtain ⟨_, e7, k7⟩ := K.dep 7 rfl rfl rfl
      refine ow_set 34 (.int .i64 1) rfl e7 ?_
      exact ow_assign rfl ⟨Below.refl _ _, Left.of rfl⟩
  intro vs w11 LE AO AL AF AA
  replace E := E.drew.trans (LE.mono OY)
  obtain ⟨⟨A4, c4⟩, e6, k6⟩ := AL.2.2.2.2.2.2.1
  obtain ⟨_, e10, k10⟩ := AL.2.2.2.2.2.2.2.2.2.2.1
  replace HF := HF.on E
  replace LW := LW.step E XLW
  replace E := Ext.refl (No) w11
  replace HF := HF.and ((k6.map (fun _ h => h) : Per (No) w11 (fun b => Nums8 b A4 (tens 0))))
  obtain ⟨gb12, v0, y0, qb12, Gb12, Bb12, ey, ev0⟩ := AF.1
  cases ey
  obtain rfl : vs 6 = v0 := Option.some.inj ev0
  rw [e6] at Bb12
  replace HF := HF.on E
  replace LW := LW.step E XLW
  replace E := Ext.refl (No) w11
  replace HF := HF.and ((Per.blkN Bb12 NotIn.nil : Per (No) w11 (fun b => Blk b gb12 33 #[.bool (decide ((0 : Int) < 0)), .slice A4 (tens 0).length c4])))
  clear Bb12
  have e8 := qb12
  refine ew_sub (τ := [(4, _), (5, _), (6, _), (7, .int .i64 1), (8, .pointer (some ⟨gb12, 0, none⟩))]) ⟨rfl, rfl, rfl, congrArg some e10, congrArg some e8, trivial⟩ ?_
  clear AL AF AA LE AO OY e6 e10 e8 k6 k10
  refine ew_next ?_
  refine cw_seq ?_
  refine cw_region ?_
  refine rs_op rfl (ow_loadB Tryd.underlying24 rfl sz24 rfl (HF.on E).here.1.1.2 rfl ?_)
  refine rs_op rfl (ow_move rfl ?_)
  refine rs_op rfl (ow_loadB Tryd.underlying33 rfl sz33 rfl (HF.on E).here.2 rfl ?_)
  refine rs_op rfl (ow_move rfl ?_)
  refine rs_op rfl (ow_enter en16 rfl ((is_err A1 A4 c1 c4 _ _ 1 _ (by simp)).mono ?_))
  rintro e w13 ⟨rfl, hb⟩
  refine ⟨_, rfl, ?_⟩
  have XC : ∀ k, (No) k → k < w11.heap.size := Mut.none_
  have SC := Nat.le_trans LW.size E.size
  have Ec := Ext.of_below hb No
  replace E := E.trans Ec.no
  clear hb Ec
  refine rs_op rfl (ow_assign rfl ?_)
  refine rs_nil ?_
  refine ew_next ?_
  refine cw_ret ?_
  refine ew_ret (rs := [.tmp 4]) (vs := [_]) rfl ⟨rfl, trivial⟩ ?_
  exact ⟨rfl, (LW.step E XLW).toBelow⟩
theorem powers_pos (h0 : 0 ≤ j) :
    Calls Tryd.prog 7 #[.agg #[.bool (decide (i < 0)), .slice A (limbs i).length c], .agg #[.bool (decide (j < 0)), .slice B (limbs j).length d]] w (LawTrue w) := by
  obtain ⟨v, hv⟩ : ∃ v, v = i ^ j.toNat := ⟨_, rfl⟩
  have hpow := fun A B c d w hx hy => powI i j A B c d w hi hj hx hy h0
  have hrpow := fun A B c d w hx hy => rpowI i j A B c d w hi hj hx hy h0
  rw [← hv] at hpow hrpow
  refine calls_cw Tryd.func7 rfl Tryd.ntmps7 rfl ?_
  have HF : Per No w (fun _ => True) := Per.true_
  have LW := Ext.refl (No) w
  have XLW : ∀ k, (No) k → (No) k ∨ w.heap.size ≤ k := fun _ h => Or.inl h
  have E := Ext.refl No w
  replace HF := HF.on E
  replace LW := LW.step E XLW
  replace E := Ext.refl (No) w
  replace HF := HF.and (Per.nums0 hx)
  replace HF := HF.on E
  replace LW := LW.step E XLW
  replace E := Ext.refl (No) w
  replace HF := HF.and (Per.nums0 hy)
  refine cw_seq ?_
  refine cw_region ?_
  refine rs_op rfl (ow_boxB rfl ?_)
  intro gb1 w2 Bb1 Eb1 Gb1
  have Gb1 : _ ≤ gb1 := Nat.le_trans E.size Gb1
  have GLb1 := Nat.le_trans LW.size Gb1
  replace E := E.trans Eb1.no
  clear Eb1
  replace HF := HF.cons (some_ge Gb1)
  replace E := E.cons (some gb1)
  replace XLW := Mut.grow XLW (fun k e => Or.inr (Nat.le_trans LW.size ((some_ge Gb1) k e)))
  replace HF := HF.on E
  replace LW := LW.step E XLW
  have SB : ∀ k, No k → Mut [(some gb1)] k := (Mut.skip Mut.nil_)
  replace HF := HF.less SB
  replace XLW := fun k h => XLW k (SB k h)
  clear SB
  replace E := Ext.refl (No) w2
  replace HF := HF.and (Per.blkN Bb1 NotIn.nil)
  clear Bb1
  refine rs_op rfl (ow_boxB rfl ?_)
  intro gb3 w4 Bb3 Eb3 Gb3
  have Gb3 : _ ≤ gb3 := Nat.le_trans E.size Gb3
  have GLb3 := Nat.le_trans LW.size Gb3
  replace E := E.trans Eb3.no
  clear Eb3
  replace HF := HF.cons (some_ge Gb3)
  replace E := E.cons (some gb3)
  replace XLW := Mut.grow XLW (fun k e => Or.inr (Nat.le_trans LW.size ((some_ge Gb3) k e)))
  replace HF := HF.on E
  replace LW := LW.step E XLW
  have SB : ∀ k, No k → Mut [(some gb3)] k := (Mut.skip Mut.nil_)
  replace HF := HF.less SB
  replace XLW := fun k h => XLW k (SB k h)
  clear SB
  replace E := Ext.refl (No) w4
  replace HF := HF.and (Per.blkN Bb3 NotIn.nil)
  clear Bb3
  refine rs_op rfl (ow_assign rfl ?_)
  refine rs_nil ?_
  refine ew_next ?_
  refine cw_seq ?_
  refine cw_seq ?_
  refine cw_region ?_
  refine rs_op rfl (ow_enter en13 rfl ((known_any _).mono ?_))
  rintro e w5 ⟨rfl, hb⟩
  refine ⟨_, rfl, ?_⟩
  have XC : ∀ k, (No) k → k < w4.heap.size := Mut.none_
  have SC := Nat.le_trans LW.size E.size
  have Ec := Ext.of_below hb No
  replace E := E.trans Ec.no
  clear hb Ec
  refine rs_op rfl (ow_not rfl ?_)
  refine rs_nil ?_
  refine ew_next ?_
  refine cw_else rfl ?_
  refine cw_skip ?_
  refine ew_next ?_
  refine cw_seq ?_
  refine cw_region ?_
  refine rs_op rfl (ow_loadB Tryd.underlying24 rfl sz24 rfl (HF.on E).here.1.2 rfl ?_)
  refine rs_op rfl (ow_loadB Tryd.underlying24 rfl sz24 rfl (HF.on E).here.2 rfl ?_)
  refine rs_op rfl (ow_enter en38 rfl ((hpow A B c d _ (HF.on E).here.1.1.1.2 (HF.on E).here.1.1.2).mono ?_))
  rintro e w6 ⟨A1, c1, rfl, o1, hb⟩
  refine ⟨_, rfl, ?_⟩
  have XC : ∀ k, (No) k → k < w5.heap.size := Mut.none_
  have SC := Nat.le_trans LW.size E.size
  have Ec := Ext.of_below hb No
  replace E := E.trans Ec.no
  clear hb Ec
  replace HF := HF.on E
  replace LW := LW.step E XLW
  replace E := Ext.refl (No) w6
  replace HF := HF.and (Per.nums0 o1.nums)
  refine rs_op rfl (ow_move rfl ?_)
  refine rs_op rfl (ow_extract rfl rfl ?_)
  refine rs_op rfl (ow_extract rfl rfl ?_)
  refine rs_op rfl (ow_allocB zr24 ?_)
  intro gb7 w8 Bb7 Eb7 Gb7
  have Gb7 : _ ≤ gb7 := Nat.le_trans E.size Gb7
  have GLb7 := Nat.le_trans LW.size Gb7
  replace E := E.trans Eb7.no
  clear Eb7
  replace HF := HF.cons (some_ge Gb7)
  replace E := E.cons (some gb7)
  replace XLW := Mut.grow XLW (fun k e => Or.inr (Nat.le_trans LW.size ((some_ge Gb7) k e)))
  refine rs_op0 (ow_storeM sz24 rfl rfl Bb7 rfl rfl (Nat.le_of_ble_eq_true rfl) ?_)
  intro w9 Bx Eb7
  replace Bb7 := Bx
  clear Bx
  replace E := E.step1 Eb7 Mut.head
  clear Eb7
  replace HF := HF.on E
  replace LW := LW.step E XLW
  have SB : ∀ k, No k → Mut [(some gb7)] k := (Mut.skip Mut.nil_)
  replace HF := HF.less SB
  replace XLW := fun k h => XLW k (SB k h)
  clear SB
  replace E := Ext.refl (No) w9
  replace HF := HF.and (Per.blkN Bb7 NotIn.nil)
  clear Bb7
  refine rs_op rfl (ow_assign rfl ?_)
  refine rs_nil ?_
  refine ew_next ?_
  refine cw_seq ?_
  refine cw_region ?_
  refine rs_op rfl (ow_loadB Tryd.underlying24 rfl sz24 rfl (HF.on E).here.1.1.1.2 rfl ?_)
  refine rs_op rfl (ow_loadB Tryd.underlying24 rfl sz24 rfl (HF.on E).here.1.1.2 rfl ?_)
  refine rs_op rfl (ow_enter en15 rfl ((formI A B c d _ hi hj (HF.on E).here.1.1.1.1.1.2 (HF.on E).here.1.1.1.1.2).mono ?_))
  rintro e w10 ⟨rfl, hb⟩
  refine ⟨_, rfl, ?_⟩
  have XC : ∀ k, (No) k → k < w9.heap.size := Mut.none_
  have SC := Nat.le_trans LW.size E.size
  have Ec := Ext.of_below hb No
  replace E := E.trans Ec.no
  clear hb Ec
  refine rs_op rfl (ow_assign rfl ?_)
  refine rs_nil ?_
  refine ew_next ?_
  refine cw_seq ?_
  refine cw_seq ?_
  refine cw_region ?_
  refine rs_op rfl (ow_move rfl ?_)
  refine rs_op rfl (ow_neq rfl rfl ?_)
  refine rs_nil ?_
  refine ew_next ?_
  refine cw_else rfl ?_
  refine cw_skip ?_
  refine ew_next ?_
  refine cw_seq ?_
  have OY : ∀ k, (Mut (outM [])) k → k < (World.drew w10).heap.size → (No) k := fun k h _ => (Mut.none_) k h
  refine cw_drawn (No) Mut.none_ [⟨8, 9, 33, #[.bool false, .slice none 0 0]⟩] [] (fxAt [Fx.of (.agg #[.bool (decide (i < 0)), .slice A (limbs i).length c]),
      ⟨(Option Addr × Nat), fun (A2, c2) => .agg #[.bool (decide (i < 0)), .slice A2 (tens i).length c2], fun (A2, c2) b => (Nums8 b A2 (tens i))⟩,
      Fx.of (.agg #[.bool (decide (j < 0)), .slice B (limbs j).length d]),
      ⟨(Option Addr × Nat), fun (A3, c3) => .agg #[.bool (decide (j < 0)), .slice A3 (tens j).length c3], fun (A3, c3) b => (Nums8 b A3 (tens j))⟩,
      ⟨(Option Addr × Nat), fun (A4, c4) => .tuple #[.agg #[.bool (decide (outV true v < 0)), .slice A4 (tens (outV true v)).length c4], .int .i64 (outE true v)], fun (A4, c4) b => (Nums8 b A4 (tens (outV true v)))⟩,
      ⟨(Option Addr × Nat), fun (A4, c4) => .tuple #[.agg #[.bool (decide (outV true v < 0)), .slice A4 (tens (outV true v)).length c4], .int .i64 (outE true v)], fun (A4, c4) b => (Nums8 b A4 (tens (outV true v)))⟩,
      ⟨(Option Addr × Nat), fun (A4, c4) => .agg #[.bool (decide (outV true v < 0)), .slice A4 (tens (outV true v)).length c4], fun (A4, c4) b => (Nums8 b A4 (tens (outV true v)))⟩,
      Fx.of (.int .i64 (outE true v)),
      Fx.of undef,
      Fx.of undef,
      Fx.of (.int .i64 (outE true v))]) mixed rfl trivial (fun _ h => by cases h) ?_ ?_
  · refine ⟨?_, ?_, ?_, ?_, ?_, ?_, ?_, ?_, ?_, ?_, ?_, trivial⟩
    · intro vs X wq K
      have LE := K.1
      have XN := K.2.1
      have SQ := Nat.le_trans LW.size (Nat.le_trans E.size LE.size)
      exact ow_loadB Tryd.underlying24 rfl sz24 rfl (HF.on (E.drew.trans (LE.mono OY))).here.1.1.1.2 rfl ⟨Below.refl _ _, Left.of rfl⟩
    · intro vs X wq K
      have LE := K.1
      have XN := K.2.1
      have SQ := Nat.le_trans LW.size (Nat.le_trans E.size LE.size)
      obtain ⟨_, e0, k0⟩ := K.dep 0 rfl rfl rfl
      refine ow_set 28 (.agg #[.bool (decide (i < 0)), .slice A (limbs i).length c]) rfl e0 ?_
      refine ow_enter en18 rfl ((rofI A c _ hi (HF.on (E.drew.trans (LE.mono OY))).here.1.1.1.1.1.2).mono ?_)
      rintro e w2 ⟨A2, c2, rfl, o2, hb⟩
      exact ⟨_, rfl, hb, ⟨(A2, c2), rfl, Per.own8X o2 XN⟩⟩
    · intro vs X wq K
      have LE := K.1
      have XN := K.2.1
      have SQ := Nat.le_trans LW.size (Nat.le_trans E.size LE.size)
      exact ow_loadB Tryd.underlying24 rfl sz24 rfl (HF.on (E.drew.trans (LE.mono OY))).here.1.1.2 rfl ⟨Below.refl _ _, Left.of rfl⟩
    · intro vs X wq K
      have LE := K.1
      have XN := K.2.1
      have SQ := Nat.le_trans LW.size (Nat.le_trans E.size LE.size)
      obtain ⟨_, e2, k2⟩ := K.dep 2 rfl rfl rfl
      refine ow_set 30 (.agg #[.bool (decide (j < 0)), .slice B (limbs j).length d]) rfl e2 ?_
      refine ow_enter en18 rfl ((rofI B d _ hj (HF.on (E.drew.trans (LE.mono OY))).here.1.1.1.1.2).mono ?_)
      rintro e w2 ⟨A3, c3, rfl, o3, hb⟩
      exact ⟨_, rfl, hb, ⟨(A3, c3), rfl, Per.own8X o3 XN⟩⟩
    · intro vs X wq K
      have LE := K.1
      have XN := K.2.1
      have SQ := Nat.le_trans LW.size (Nat.le_trans E.size LE.size)
      obtain ⟨⟨A2, c2⟩, e1, k1⟩ := K.dep 1 rfl rfl rfl
      refine ow_set 29 (.agg #[.bool (decide (i < 0)), .slice A2 (tens i).length c2]) rfl e1 ?_
      obtain ⟨⟨A3, c3⟩, e3, k3⟩ := K.dep 3 rfl rfl rfl
      refine ow_set 31 (.agg #[.bool (decide (j < 0)), .slice A3 (tens j).length c3]) rfl e3 ?_
      refine ow_enter en39 rfl ((hrpow A2 A3 c2 c3 _ k1.here k3.here).mono ?_)
      rintro e w2 ⟨A4, c4, rfl, o4, p4, hb⟩
      exact ⟨_, rfl, hb, ⟨(A4, c4), rfl, per_pow o4 p4 XN (k1.map (fun _ h => h)) hb⟩⟩
    · intro vs X wq K
      have LE := K.1
      have XN := K.2.1
      have SQ := Nat.le_trans LW.size (Nat.le_trans E.size LE.size)
      obtain ⟨⟨A4, c4⟩, e4, k4⟩ := K.dep 4 rfl rfl rfl
      refine ow_set 32 (.tuple #[.agg #[.bool (decide (outV true v < 0)), .slice A4 (tens (outV true v)).length c4], .int .i64 (outE true v)]) rfl e4 ?_
      exact ow_move rfl ⟨Below.refl _ _, ⟨⟨A4, c4⟩, rfl, (k4.map (fun _ h => h))⟩⟩
    · intro vs X wq K
      have LE := K.1
      have XN := K.2.1
      have SQ := Nat.le_trans LW.size (Nat.le_trans E.size LE.size)
      obtain ⟨⟨A4, c4⟩, e5, k5⟩ := K.dep 5 rfl rfl rfl
      refine ow_set 27 (.tuple #[.agg #[.bool (decide (outV true v < 0)), .slice A4 (tens (outV true v)).length c4], .int .i64 (outE true v)]) rfl e5 ?_
      exact ow_extract rfl rfl ⟨Below.refl _ _, ⟨⟨A4, c4⟩, rfl, (k5.map (fun _ h => h))⟩⟩
    · intro vs X wq K
      have LE := K.1
      have XN := K.2.1
      have SQ := Nat.le_trans LW.size (Nat.le_trans E.size LE.size)
      obtain ⟨⟨A4, c4⟩, e5, k5⟩ := K.dep 5 rfl rfl rfl
      refine ow_set 27 (.tuple #[.agg #[.bool (decide (outV true v < 0)), .slice A4 (tens (outV true v)).length c4], .int .i64 (outE true v)]) rfl e5 ?_
      exact ow_extract rfl rfl ⟨Below.refl _ _, Left.of rfl⟩
    · exact ⟨_, _, _, _, _, rfl, zr33, rfl⟩
    · refine ⟨_, _, _, _, _, rfl, rfl, rfl, sz33, fun vs X wq K => ?_⟩
      obtain ⟨⟨A4, c4⟩, e0, _⟩ := K.dep 6 rfl rfl rfl
      exact ⟨vs 6, rfl, by rw [e0]; rfl, by rw [e0]; rfl⟩
    · intro vs X wq K
      have LE := K.1
      have XN := K.2.1
      have SQ := Nat.le_trans LW.size (Nat.le_trans E.size LE.size)
      obtain ⟨_, e7, k7⟩ := K.dep 7 rfl rfl rfl
      refine ow_set 34 (.int .i64 (outE true v)) rfl e7 ?_
      exact ow_assign rfl ⟨Below.refl _ _, Left.of rfl⟩
  intro vs w11 LE AO AL AF AA
  replace E := E.drew.trans (LE.mono OY)
  obtain ⟨⟨A4, c4⟩, e6, k6⟩ := AL.2.2.2.2.2.2.1
  obtain ⟨_, e10, k10⟩ := AL.2.2.2.2.2.2.2.2.2.2.1
  replace HF := HF.on E
  replace LW := LW.step E XLW
  replace E := Ext.refl (No) w11
  replace HF := HF.and ((k6.map (fun _ h => h) : Per (No) w11 (fun b => Nums8 b A4 (tens (outV true v)))))
  obtain ⟨gb12, v0, y0, qb12, Gb12, Bb12, ey, ev0⟩ := AF.1
  cases ey
  obtain rfl : vs 6 = v0 := Option.some.inj ev0
  rw [e6] at Bb12
  replace HF := HF.on E
  replace LW := LW.step E XLW
  replace E := Ext.refl (No) w11
  replace HF := HF.and ((Per.blkN Bb12 NotIn.nil : Per (No) w11 (fun b => Blk b gb12 33 #[.bool (decide (outV true v < 0)), .slice A4 (tens (outV true v)).length c4])))
  clear Bb12
  have e8 := qb12
  refine ew_sub (τ := [(4, _), (5, _), (6, _), (7, .int .i64 (outE true v)), (8, .pointer (some ⟨gb12, 0, none⟩))]) ⟨rfl, rfl, rfl, congrArg some e10, congrArg some e8, trivial⟩ ?_
  clear AL AF AA LE AO OY e6 e10 e8 k6 k10
  refine ew_next ?_
  refine cw_seq ?_
  refine cw_region ?_
  refine rs_op rfl (ow_loadB Tryd.underlying24 rfl sz24 rfl (HF.on E).here.1.1.2 rfl ?_)
  refine rs_op rfl (ow_move rfl ?_)
  refine rs_op rfl (ow_loadB Tryd.underlying33 rfl sz33 rfl (HF.on E).here.2 rfl ?_)
  refine rs_op rfl (ow_move rfl ?_)
  refine rs_op rfl (ow_enter en16 rfl ((is_outO A1 A4 c1 c4 v _ (HF.on E).here.1.1.1.2 (HF.on E).here.1.2).mono ?_))
  rintro e w13 ⟨rfl, hb⟩
  refine ⟨_, rfl, ?_⟩
  have XC : ∀ k, (No) k → k < w11.heap.size := Mut.none_
  have SC := Nat.le_trans LW.size E.size
  have Ec := Ext.of_below hb No
  replace E := E.trans Ec.no
  clear hb Ec
  refine rs_op rfl (ow_assign rfl ?_)
  refine rs_nil ?_
  refine ew_next ?_
  refine cw_ret ?_
  refine ew_ret (rs := [.tmp 4]) (vs := [_]) rfl ⟨rfl, trivial⟩ ?_
  exact ⟨rfl, (LW.step E XLW).toBelow⟩
end
/-- WholePowers answers true at every two numbers. -/
theorem powers_law (n1 : Bool) (A : Option Addr) (c : Nat) (xs : List Nat) (n2 : Bool) (B : Option Addr) (d : Nat) (ys : List Nat) (w : World) (hx : Nums w A xs) (hl : xs.length ≤ 9223372036854775807) (hy : Nums w B ys) (hl' : ys.length ≤ 9223372036854775807) :
    Calls Tryd.prog 7 #[.agg #[.bool n1, .slice A xs.length c], .agg #[.bool n2, .slice B ys.length d]] w fun e w' => e = .returned (.bool true) ∧ Below w.heap.size w w' := by
  cases hok : (goodB n1 xs && goodB n2 ys)
  · exact powers_bad n1 n2 A B c d xs ys w hx hy hl hl' hok
  · obtain ⟨hg, hk⟩ := Bool.and_eq_true_iff.1 hok
    obtain ⟨i, rfl, rfl, hi⟩ := good_is hg
    obtain ⟨j, rfl, rfl, hj⟩ := good_is hk
    rcases Int.lt_or_le j 0 with h0 | h0
    · exact powers_neg i j A B c d w hi hj hx hy h0
    · exact powers_pos i j A B c d w hi hj hx hy h0
end Go.Proofs.YteggjfmcpodepaaDoor

/- RealSums: every Neg, Add, Sub, Mul and Div. -/
import Derived.Test.YtljndllhmdpjlaaGreatDoorS11
namespace Go.Proofs.YtljndllhmdpjlaaGreatDoor
open Go.RowKit
set_option maxRecDepth 100000
theorem rs71_7 : Gives 71 #[.float .f64 13840687554816376832] (.float .f64 4617315517961601024) := by
  intro w
  refine calls_cw Tryz.func71 rfl Tryz.ntmps71 rfl ?_
  have HF : Per (No) w (fun _ => True) := Per.true_
  have LW := Ext.refl (No) w
  have XLW : ∀ q9, (No) q9 → (No) q9 ∨ w.heap.size ≤ q9 := fun _ h => Or.inl h
  have E := Ext.refl (No) w
  refine cw_seq ?_
  refine cw_region ?_
  refine rs_op rfl (ow_assign rfl ?_)
  refine rs_nil ?_
  refine ew_next ?_
  refine cw_seq ?_
  refine cw_region ?_
  refine rs_op rfl (ow_move rfl ?_)
  refine rs_op rfl (ow_bits ex59 rfl ?_)
  refine rs_op rfl (ow_andNot (z := 4617315517961601024) rfl rfl (by kernel_rfl) ?_)
  refine rs_op rfl (ow_frombits (b := 4617315517961601024) ex60 rfl ?_)
  refine rs_op rfl (ow_assign rfl ?_)
  refine rs_nil ?_
  refine ew_next ?_
  refine cw_ret ?_
  refine ew_ret (rs := [.tmp 2]) (vs := [.float .f64 4617315517961601024]) rfl ⟨rfl, trivial⟩ ?_
  exact ⟨rfl, (LW.step E XLW).toBelow⟩
theorem rs61_7 : Gives 61 #[.float .f64 13840687554816376832, .int .i64 0] (.bool false) := by
  intro w
  refine calls_cw Tryz.func61 rfl Tryz.ntmps61 rfl ?_
  have HF : Per (No) w (fun _ => True) := Per.true_
  have LW := Ext.refl (No) w
  have XLW : ∀ q9, (No) q9 → (No) q9 ∨ w.heap.size ≤ q9 := fun _ h => Or.inl h
  have E := Ext.refl (No) w
  refine cw_seq ?_
  refine cw_region ?_
  refine rs_op rfl (ow_assign rfl ?_)
  refine rs_nil ?_
  refine ew_next ?_
  refine cw_seq ?_
  refine cw_seq ?_
  refine cw_region ?_
  refine rs_op rfl (ow_move rfl ?_)
  refine rs_op rfl (ow_eql rfl rfl ?_)
  refine rs_nil ?_
  refine ew_next ?_
  refine cw_then rfl ?_
  refine cw_region ?_
  refine rs_op rfl (ow_move rfl ?_)
  refine rs_op rfl (ow_enter en71 rfl ((rs71_7 _).mono ?_))
  rintro e w1 ⟨rfl, hb⟩
  refine ⟨_, rfl, ?_⟩
  have Ec := Ext.of_below hb No
  replace E := E.trans Ec.no
  clear hb Ec
  refine rs_op rfl (ow_assign rfl ?_)
  refine rs_nil ?_
  refine ew_next ?_
  refine cw_seq ?_
  refine cw_region ?_
  refine rs_op rfl (ow_move rfl ?_)
  refine rs_op rfl (ow_fgtr rfl rfl ?_)
  refine rs_set 14 (.bool false) rfl (by kernel_rfl : (.bool (ford 4617315517961601024 9218868437227405311 == some .gt) : Value) = _) ?_
  refine rs_op rfl (ow_assign rfl ?_)
  refine rs_nil ?_
  refine ew_next ?_
  refine cw_ret ?_
  refine ew_ret (rs := [.tmp 4]) (vs := [.bool false]) rfl ⟨rfl, trivial⟩ ?_
  exact ⟨rfl, (LW.step E XLW).toBelow⟩
theorem rs138_8 : Gives 138 #[.float .f64 13840687554816376832] (.bool false) := by
  intro w
  refine calls_cw Tryz.func138 rfl Tryz.ntmps138 rfl ?_
  have HF : Per (No) w (fun _ => True) := Per.true_
  have LW := Ext.refl (No) w
  have XLW : ∀ q9, (No) q9 → (No) q9 ∨ w.heap.size ≤ q9 := fun _ h => Or.inl h
  have E := Ext.refl (No) w
  refine cw_seq ?_
  refine cw_region ?_
  refine rs_op rfl (ow_assign rfl ?_)
  refine rs_nil ?_
  refine ew_next ?_
  refine cw_seq ?_
  refine cw_region ?_
  refine rs_op rfl (ow_move rfl ?_)
  refine rs_op rfl (ow_move rfl ?_)
  refine rs_op rfl (ow_fneq rfl rfl ?_)
  refine rs_set 5 (.bool false) rfl (by kernel_rfl : (.bool (ford 13840687554816376832 13840687554816376832 != some .eq) : Value) = _) ?_
  refine rs_op rfl (ow_assign rfl ?_)
  refine rs_nil ?_
  refine ew_next ?_
  refine cw_ret ?_
  refine ew_ret (rs := [.tmp 2]) (vs := [.bool false]) rfl ⟨rfl, trivial⟩ ?_
  exact ⟨rfl, (LW.step E XLW).toBelow⟩
theorem rs138_9 : Gives 138 #[.float .f64 9218868437227405312] (.bool false) := by
  intro w
  refine calls_cw Tryz.func138 rfl Tryz.ntmps138 rfl ?_
  have HF : Per (No) w (fun _ => True) := Per.true_
  have LW := Ext.refl (No) w
  have XLW : ∀ q9, (No) q9 → (No) q9 ∨ w.heap.size ≤ q9 := fun _ h => Or.inl h
  have E := Ext.refl (No) w
  refine cw_seq ?_
  refine cw_region ?_
  refine rs_op rfl (ow_assign rfl ?_)
  refine rs_nil ?_
  refine ew_next ?_
  refine cw_seq ?_
  refine cw_region ?_
  refine rs_op rfl (ow_move rfl ?_)
  refine rs_op rfl (ow_move rfl ?_)
  refine rs_op rfl (ow_fneq rfl rfl ?_)
  refine rs_set 5 (.bool false) rfl (by kernel_rfl : (.bool (ford 9218868437227405312 9218868437227405312 != some .eq) : Value) = _) ?_
  refine rs_op rfl (ow_assign rfl ?_)
  refine rs_nil ?_
  refine ew_next ?_
  refine cw_ret ?_
  refine ew_ret (rs := [.tmp 2]) (vs := [.bool false]) rfl ⟨rfl, trivial⟩ ?_
  exact ⟨rfl, (LW.step E XLW).toBelow⟩
theorem rs71_10 : Gives 71 #[.float .f64 9218868437227405312] (.float .f64 9218868437227405312) := by
  intro w
  refine calls_cw Tryz.func71 rfl Tryz.ntmps71 rfl ?_
  have HF : Per (No) w (fun _ => True) := Per.true_
  have LW := Ext.refl (No) w
  have XLW : ∀ q9, (No) q9 → (No) q9 ∨ w.heap.size ≤ q9 := fun _ h => Or.inl h
  have E := Ext.refl (No) w
  refine cw_seq ?_
  refine cw_region ?_
  refine rs_op rfl (ow_assign rfl ?_)
  refine rs_nil ?_
  refine ew_next ?_
  refine cw_seq ?_
  refine cw_region ?_
  refine rs_op rfl (ow_move rfl ?_)
  refine rs_op rfl (ow_bits ex59 rfl ?_)
  refine rs_op rfl (ow_andNot (z := 9218868437227405312) rfl rfl (by kernel_rfl) ?_)
  refine rs_op rfl (ow_frombits (b := 9218868437227405312) ex60 rfl ?_)
  refine rs_op rfl (ow_assign rfl ?_)
  refine rs_nil ?_
  refine ew_next ?_
  refine cw_ret ?_
  refine ew_ret (rs := [.tmp 2]) (vs := [.float .f64 9218868437227405312]) rfl ⟨rfl, trivial⟩ ?_
  exact ⟨rfl, (LW.step E XLW).toBelow⟩
theorem rs61_13 : Gives 61 #[.float .f64 9218868437227405312, .int .i64 0] (.bool true) := by
  intro w
  refine calls_cw Tryz.func61 rfl Tryz.ntmps61 rfl ?_
  have HF : Per (No) w (fun _ => True) := Per.true_
  have LW := Ext.refl (No) w
  have XLW : ∀ q9, (No) q9 → (No) q9 ∨ w.heap.size ≤ q9 := fun _ h => Or.inl h
  have E := Ext.refl (No) w
  refine cw_seq ?_
  refine cw_region ?_
  refine rs_op rfl (ow_assign rfl ?_)
  refine rs_nil ?_
  refine ew_next ?_
  refine cw_seq ?_
  refine cw_seq ?_
  refine cw_region ?_
  refine rs_op rfl (ow_move rfl ?_)
  refine rs_op rfl (ow_eql rfl rfl ?_)
  refine rs_nil ?_
  refine ew_next ?_
  refine cw_then rfl ?_
  refine cw_region ?_
  refine rs_op rfl (ow_move rfl ?_)
  refine rs_op rfl (ow_enter en71 rfl ((rs71_10 _).mono ?_))
  rintro e w1 ⟨rfl, hb⟩
  refine ⟨_, rfl, ?_⟩
  have Ec := Ext.of_below hb No
  replace E := E.trans Ec.no
  clear hb Ec
  refine rs_op rfl (ow_assign rfl ?_)
  refine rs_nil ?_
  refine ew_next ?_
  refine cw_seq ?_
  refine cw_region ?_
  refine rs_op rfl (ow_move rfl ?_)
  refine rs_op rfl (ow_fgtr rfl rfl ?_)
  refine rs_set 14 (.bool true) rfl (by kernel_rfl : (.bool (ford 9218868437227405312 9218868437227405311 == some .gt) : Value) = _) ?_
  refine rs_op rfl (ow_assign rfl ?_)
  refine rs_nil ?_
  refine ew_next ?_
  refine cw_ret ?_
  refine ew_ret (rs := [.tmp 4]) (vs := [.bool true]) rfl ⟨rfl, trivial⟩ ?_
  exact ⟨rfl, (LW.step E XLW).toBelow⟩
theorem rs106_13 : Gives 106 #[.float .f64 9218868437227405312] (.tuple #[.float .f64 9218868437227405312, .int .i64 0]) := by
  intro w
  refine calls_cw Tryz.func106 rfl Tryz.ntmps106 rfl ?_
  have HF : Per (No) w (fun _ => True) := Per.true_
  have LW := Ext.refl (No) w
  have XLW : ∀ q9, (No) q9 → (No) q9 ∨ w.heap.size ≤ q9 := fun _ h => Or.inl h
  have E := Ext.refl (No) w
  refine cw_seq ?_
  refine cw_region ?_
  refine rs_op rfl (ow_assign rfl ?_)
  refine rs_op rfl (ow_assign rfl ?_)
  refine rs_nil ?_
  refine ew_next ?_
  refine cw_seq ?_
  refine cw_block ?_
  refine cw_seq ?_
  refine cw_region ?_
  refine rs_op rfl (ow_move rfl ?_)
  refine rs_op rfl (ow_feql rfl rfl ?_)
  refine rs_set 7 (.bool false) rfl (by kernel_rfl : (.bool (ford 9218868437227405312 0 == some .eq) : Value) = _) ?_
  refine rs_op rfl (ow_assign rfl ?_)
  refine rs_nil ?_
  refine ew_next ?_
  refine cw_else rfl ?_
  refine cw_seq ?_
  refine cw_region ?_
  refine rs_op rfl (ow_move rfl ?_)
  refine rs_op rfl (ow_enter en61 rfl ((rs61_13 _).mono ?_))
  rintro e w1 ⟨rfl, hb⟩
  refine ⟨_, rfl, ?_⟩
  have Ec := Ext.of_below hb No
  replace E := E.trans Ec.no
  clear hb Ec
  refine rs_op rfl (ow_move rfl ?_)
  refine rs_op rfl (ow_off rfl ?_)
  refine rs_op rfl (ow_off rfl ?_)
  refine rs_op rfl (ow_pickT rfl rfl ?_)
  refine rs_op rfl (ow_assign rfl ?_)
  refine rs_nil ?_
  refine ew_next ?_
  refine cw_then rfl ?_
  refine cw_seq ?_
  refine cw_region ?_
  refine rs_op rfl (ow_move rfl ?_)
  refine rs_op rfl (ow_assign rfl ?_)
  refine rs_op rfl (ow_assign rfl ?_)
  refine rs_nil ?_
  refine ew_next ?_
  refine cw_ret ?_
  refine ew_block_ret ?_
  refine ew_then_ret ?_
  refine ew_ret (rs := [.tmp 2, .tmp 3]) (vs := [.float .f64 9218868437227405312, .int .i64 0]) rfl ⟨rfl, rfl, trivial⟩ ?_
  exact ⟨rfl, (LW.step E XLW).toBelow⟩
theorem rs70_13 : Gives 70 #[.float .f64 9218868437227405312] (.tuple #[.float .f64 9218868437227405312, .int .i64 0]) := by
  intro w
  refine calls_cw Tryz.func70 rfl Tryz.ntmps70 rfl ?_
  have HF : Per (No) w (fun _ => True) := Per.true_
  have LW := Ext.refl (No) w
  have XLW : ∀ q9, (No) q9 → (No) q9 ∨ w.heap.size ≤ q9 := fun _ h => Or.inl h
  have E := Ext.refl (No) w
  refine cw_seq ?_
  refine cw_region ?_
  refine rs_op rfl (ow_assign rfl ?_)
  refine rs_op rfl (ow_assign rfl ?_)
  refine rs_nil ?_
  refine ew_next ?_
  refine cw_seq ?_
  refine cw_else rfl ?_
  refine cw_skip ?_
  refine ew_next ?_
  refine cw_seq ?_
  refine cw_region ?_
  refine rs_op rfl (ow_move rfl ?_)
  refine rs_op rfl (ow_enter en106 rfl ((rs106_13 _).mono ?_))
  rintro e w1 ⟨rfl, hb⟩
  refine ⟨_, rfl, ?_⟩
  have Ec := Ext.of_below hb No
  replace E := E.trans Ec.no
  clear hb Ec
  refine rs_op rfl (ow_extract rfl rfl ?_)
  refine rs_op rfl (ow_extract rfl rfl ?_)
  refine rs_op rfl (ow_assign rfl ?_)
  refine rs_op rfl (ow_assign rfl ?_)
  refine rs_nil ?_
  refine ew_next ?_
  refine cw_ret ?_
  refine ew_ret (rs := [.tmp 2, .tmp 3]) (vs := [.float .f64 9218868437227405312, .int .i64 0]) rfl ⟨rfl, rfl, trivial⟩ ?_
  exact ⟨rfl, (LW.step E XLW).toBelow⟩
theorem rs135_13 : Gives 135 #[.float .f64 13840687554816376832, .float .f64 9218868437227405312] (.float .f64 13840687554816376832) := by
  intro w
  refine calls_cw Tryz.func135 rfl Tryz.ntmps135 rfl ?_
  have HF : Per (No) w (fun _ => True) := Per.true_
  have LW := Ext.refl (No) w
  have XLW : ∀ q9, (No) q9 → (No) q9 ∨ w.heap.size ≤ q9 := fun _ h => Or.inl h
  have E := Ext.refl (No) w
  refine cw_seq ?_
  refine cw_region ?_
  refine rs_op rfl (ow_assign rfl ?_)
  refine rs_nil ?_
  refine ew_next ?_
  refine cw_seq ?_
  refine cw_seq ?_
  refine cw_region ?_
  refine rs_op rfl (ow_move rfl ?_)
  refine rs_op rfl (ow_feql rfl rfl ?_)
  refine rs_set 11 (.bool false) rfl (by kernel_rfl : (.bool (ford 9218868437227405312 0 == some .eq) : Value) = _) ?_
  refine rs_op rfl (ow_move rfl ?_)
  refine rs_op rfl (ow_on rfl (ow_move rfl ?_))
  refine rs_op rfl (ow_on rfl (ow_enter en61 rfl ((rs61_7 _).mono ?_)))
  rintro e w1 ⟨rfl, hb⟩
  refine ⟨_, rfl, ?_⟩
  have Ec := Ext.of_below hb No
  replace E := E.trans Ec.no
  clear hb Ec
  refine rs_op rfl (ow_pickF rfl rfl ?_)
  refine rs_op rfl (ow_move rfl ?_)
  refine rs_op rfl (ow_on rfl (ow_move rfl ?_))
  refine rs_op rfl (ow_on rfl (ow_enter en138 rfl ((rs138_8 _).mono ?_)))
  rintro e w2 ⟨rfl, hb⟩
  refine ⟨_, rfl, ?_⟩
  have Ec := Ext.of_below hb No
  replace E := E.trans Ec.no
  clear hb Ec
  refine rs_op rfl (ow_pickF rfl rfl ?_)
  refine rs_op rfl (ow_move rfl ?_)
  refine rs_op rfl (ow_on rfl (ow_move rfl ?_))
  refine rs_op rfl (ow_on rfl (ow_enter en138 rfl ((rs138_9 _).mono ?_)))
  rintro e w3 ⟨rfl, hb⟩
  refine ⟨_, rfl, ?_⟩
  have Ec := Ext.of_below hb No
  replace E := E.trans Ec.no
  clear hb Ec
  refine rs_op rfl (ow_pickF rfl rfl ?_)
  refine rs_nil ?_
  refine ew_next ?_
  refine cw_else rfl ?_
  refine cw_skip ?_
  refine ew_next ?_
  refine cw_seq ?_
  refine cw_region ?_
  refine rs_op rfl (ow_move rfl ?_)
  refine rs_op rfl (ow_enter en71 rfl ((rs71_10 _).mono ?_))
  rintro e w4 ⟨rfl, hb⟩
  refine ⟨_, rfl, ?_⟩
  have Ec := Ext.of_below hb No
  replace E := E.trans Ec.no
  clear hb Ec
  refine rs_op rfl (ow_assign rfl ?_)
  refine rs_nil ?_
  refine ew_next ?_
  refine cw_seq ?_
  refine cw_region ?_
  refine rs_op rfl (ow_move rfl ?_)
  refine rs_op rfl (ow_enter en70 rfl ((rs70_13 _).mono ?_))
  rintro e w5 ⟨rfl, hb⟩
  refine ⟨_, rfl, ?_⟩
  have Ec := Ext.of_below hb No
  replace E := E.trans Ec.no
  clear hb Ec
  refine rs_op rfl (ow_move rfl ?_)
  refine rs_op rfl (ow_extract rfl rfl ?_)
  refine rs_op rfl (ow_extract rfl rfl ?_)
  refine rs_op rfl (ow_assign rfl ?_)
  refine rs_op rfl (ow_assign rfl ?_)
  refine rs_nil ?_
  refine ew_next ?_
  refine cw_seq ?_
  refine cw_region ?_
  refine rs_op rfl (ow_move rfl ?_)
  refine rs_op rfl (ow_assign rfl ?_)
  refine rs_nil ?_
  refine ew_next ?_
  refine cw_seq ?_
  refine cw_seq ?_
  refine cw_region ?_
  refine rs_op rfl (ow_move rfl ?_)
  refine rs_op rfl (ow_flss rfl rfl ?_)
  refine rs_set 34 (.bool true) rfl (by kernel_rfl : (.bool (ford 13840687554816376832 0 == some .lt) : Value) = _) ?_
  refine rs_nil ?_
  refine ew_next ?_
  refine cw_then rfl ?_
  refine cw_region ?_
  refine rs_op rfl (ow_move rfl ?_)
  refine rs_op rfl (ow_fneg rfl ?_)
  refine rs_set 36 (.float .f64 4617315517961601024) rfl (by kernel_rfl : (.float .f64 (13840687554816376832 ^^^ 9223372036854775808) : Value) = _) ?_
  refine rs_op rfl (ow_assign rfl ?_)
  refine rs_nil ?_
  refine ew_next ?_
  refine cw_seq ?_
  refine cw_block ?_
  refine cw_unroll ?_
  refine cw_seq ?_
  refine cw_seq ?_
  refine cw_region ?_
  refine rs_op rfl (ow_move rfl ?_)
  refine rs_op rfl (ow_move rfl ?_)
  refine rs_op rfl (ow_fgeq rfl rfl ?_)
  refine rs_set 39 (.bool false) rfl (by kernel_rfl : (.bool (ford 4617315517961601024 9218868437227405312 == some .gt || ford 4617315517961601024 9218868437227405312 == some .eq) : Value) = _) ?_
  refine rs_nil ?_
  refine ew_next ?_
  refine cw_else rfl ?_
  refine cw_exit ?_
  refine ew_then_exit ?_
  refine ew_then_exit ?_
  refine ew_block_here ?_
  refine ew_next ?_
  refine cw_seq ?_
  refine cw_seq ?_
  refine cw_region ?_
  refine rs_op rfl (ow_move rfl ?_)
  refine rs_op rfl (ow_flss rfl rfl ?_)
  refine rs_set 58 (.bool true) rfl (by kernel_rfl : (.bool (ford 13840687554816376832 0 == some .lt) : Value) = _) ?_
  refine rs_nil ?_
  refine ew_next ?_
  refine cw_then rfl ?_
  refine cw_region ?_
  refine rs_op rfl (ow_move rfl ?_)
  refine rs_op rfl (ow_fneg rfl ?_)
  refine rs_set 60 (.float .f64 13840687554816376832) rfl (by kernel_rfl : (.float .f64 (4617315517961601024 ^^^ 9223372036854775808) : Value) = _) ?_
  refine rs_op rfl (ow_assign rfl ?_)
  refine rs_nil ?_
  refine ew_next ?_
  refine cw_seq ?_
  refine cw_region ?_
  refine rs_op rfl (ow_move rfl ?_)
  refine rs_op rfl (ow_assign rfl ?_)
  refine rs_nil ?_
  refine ew_next ?_
  refine cw_ret ?_
  refine ew_ret (rs := [.tmp 4]) (vs := [.float .f64 13840687554816376832]) rfl ⟨rfl, trivial⟩ ?_
  exact ⟨rfl, (LW.step E XLW).toBelow⟩
theorem rs102_13 : Gives 102 #[.float .f64 13840687554816376832, .float .f64 9218868437227405312] (.float .f64 13840687554816376832) := by
  intro w
  refine calls_cw Tryz.func102 rfl Tryz.ntmps102 rfl ?_
  have HF : Per (No) w (fun _ => True) := Per.true_
  have LW := Ext.refl (No) w
  have XLW : ∀ q9, (No) q9 → (No) q9 ∨ w.heap.size ≤ q9 := fun _ h => Or.inl h
  have E := Ext.refl (No) w
  refine cw_seq ?_
  refine cw_region ?_
  refine rs_op rfl (ow_assign rfl ?_)
  refine rs_nil ?_
  refine ew_next ?_
  refine cw_seq ?_
  refine cw_else rfl ?_
  refine cw_skip ?_
  refine ew_next ?_
  refine cw_seq ?_
  refine cw_region ?_
  refine rs_op rfl (ow_move rfl ?_)
  refine rs_op rfl (ow_move rfl ?_)
  refine rs_op rfl (ow_enter en135 rfl ((rs135_13 _).mono ?_))
  rintro e w1 ⟨rfl, hb⟩
  refine ⟨_, rfl, ?_⟩
  have Ec := Ext.of_below hb No
  replace E := E.trans Ec.no
  clear hb Ec
  refine rs_op rfl (ow_assign rfl ?_)
  refine rs_nil ?_
  refine ew_next ?_
  refine cw_ret ?_
  refine ew_ret (rs := [.tmp 4]) (vs := [.float .f64 13840687554816376832]) rfl ⟨rfl, trivial⟩ ?_
  exact ⟨rfl, (LW.step E XLW).toBelow⟩
theorem rs103_14 : Gives 103 #[.float .f64 13830554455654793216] (.float .f64 13830554455654793216) := by
  intro w
  refine calls_cw Tryz.func103 rfl Tryz.ntmps103 rfl ?_
  have HF : Per (No) w (fun _ => True) := Per.true_
  have LW := Ext.refl (No) w
  have XLW : ∀ q9, (No) q9 → (No) q9 ∨ w.heap.size ≤ q9 := fun _ h => Or.inl h
  have E := Ext.refl (No) w
  refine cw_seq ?_
  refine cw_region ?_
  refine rs_op rfl (ow_assign rfl ?_)
  refine rs_nil ?_
  refine ew_next ?_
  refine cw_seq ?_
  refine cw_then rfl ?_
  refine cw_seq ?_
  refine cw_region ?_
  refine rs_op rfl (ow_move rfl ?_)
  refine rs_op rfl (ow_round ex136 rfl (by kernel_rfl) ?_)
  refine rs_set 4 (.float .f64 13830554455654793216) rfl (by kernel_rfl : (.float .f64 (fround .down 13830554455654793216) : Value) = _) ?_
  refine rs_op rfl (ow_assign rfl ?_)
  refine rs_nil ?_
  refine ew_next ?_
  refine cw_ret ?_
  refine ew_then_ret ?_
  refine ew_ret (rs := [.tmp 2]) (vs := [.float .f64 13830554455654793216]) rfl ⟨rfl, trivial⟩ ?_
  exact ⟨rfl, (LW.step E XLW).toBelow⟩
theorem rs66_14 : Gives 66 #[.float .f64 13840687554816376832, .float .f64 9218868437227405312] (.tuple #[.float .f64 13830554455654793216, .float .f64 9218868437227405312]) := by
  intro w
  refine calls_cw Tryz.func66 rfl Tryz.ntmps66 rfl ?_
  have HF : Per (No) w (fun _ => True) := Per.true_
  have LW := Ext.refl (No) w
  have XLW : ∀ q9, (No) q9 → (No) q9 ∨ w.heap.size ≤ q9 := fun _ h => Or.inl h
  have E := Ext.refl (No) w
  refine cw_seq ?_
  refine cw_region ?_
  refine rs_op rfl (ow_assign rfl ?_)
  refine rs_op rfl (ow_assign rfl ?_)
  refine rs_nil ?_
  refine ew_next ?_
  refine cw_seq ?_
  refine cw_region ?_
  refine rs_op rfl (ow_move rfl ?_)
  refine rs_op rfl (ow_move rfl ?_)
  refine rs_op rfl (ow_enter en102 rfl ((rs102_13 _).mono ?_))
  rintro e w1 ⟨rfl, hb⟩
  refine ⟨_, rfl, ?_⟩
  have Ec := Ext.of_below hb No
  replace E := E.trans Ec.no
  clear hb Ec
  refine rs_op rfl (ow_assign rfl ?_)
  refine rs_nil ?_
  refine ew_next ?_
  refine cw_seq ?_
  refine cw_region ?_
  refine rs_op rfl (ow_move rfl ?_)
  refine rs_op rfl (ow_move rfl ?_)
  refine rs_op rfl (ow_fV (z := 0) (.inr (.inl rfl)) rfl rfl (by kernel_rfl) ?_)
  refine rs_op rfl (ow_move rfl ?_)
  refine rs_op rfl (ow_fV (z := 0) (.inr (.inr (.inr rfl))) rfl rfl (by kernel_rfl) ?_)
  refine rs_op rfl (ow_assign rfl ?_)
  refine rs_nil ?_
  refine ew_next ?_
  refine cw_seq ?_
  refine cw_seq ?_
  refine cw_region ?_
  refine rs_op rfl (ow_move rfl ?_)
  refine rs_op rfl (ow_fneq rfl rfl ?_)
  refine rs_set 18 (.bool true) rfl (by kernel_rfl : (.bool (ford 13840687554816376832 0 != some .eq) : Value) = _) ?_
  refine rs_nil ?_
  refine ew_next ?_
  refine cw_then rfl ?_
  refine cw_seq ?_
  refine cw_region ?_
  refine rs_op rfl (ow_move rfl ?_)
  refine rs_op rfl (ow_flss rfl rfl ?_)
  refine rs_set 20 (.bool true) rfl (by kernel_rfl : (.bool (ford 13840687554816376832 0 == some .lt) : Value) = _) ?_
  refine rs_op rfl (ow_move rfl ?_)
  refine rs_op rfl (ow_flss rfl rfl ?_)
  refine rs_set 22 (.bool false) rfl (by kernel_rfl : (.bool (ford 9218868437227405312 0 == some .lt) : Value) = _) ?_
  refine rs_op rfl (ow_neqB Tryz.underlying4 rfl rfl ?_)
  refine rs_nil ?_
  refine ew_next ?_
  refine cw_then rfl ?_
  refine cw_seq ?_
  refine cw_region ?_
  refine rs_op rfl (ow_move rfl ?_)
  refine rs_op rfl (ow_move rfl ?_)
  refine rs_op rfl (ow_fV (z := 9218868437227405312) (.inl rfl) rfl rfl (by kernel_rfl) ?_)
  refine rs_op rfl (ow_assign rfl ?_)
  refine rs_nil ?_
  refine ew_next ?_
  refine cw_region ?_
  refine rs_op rfl (ow_move rfl ?_)
  refine rs_op rfl (ow_fV (z := 13830554455654793216) (.inr (.inl rfl)) rfl rfl (by kernel_rfl) ?_)
  refine rs_op rfl (ow_assign rfl ?_)
  refine rs_nil ?_
  refine ew_next ?_
  refine cw_seq ?_
  refine cw_seq ?_
  refine cw_region ?_
  refine rs_op rfl (ow_move rfl ?_)
  refine rs_op rfl (ow_feql rfl rfl ?_)
  refine rs_set 32 (.bool false) rfl (by kernel_rfl : (.bool (ford 13830554455654793216 0 == some .eq) : Value) = _) ?_
  refine rs_nil ?_
  refine ew_next ?_
  refine cw_else rfl ?_
  refine cw_skip ?_
  refine ew_next ?_
  refine cw_seq ?_
  refine cw_region ?_
  refine rs_op rfl (ow_move rfl ?_)
  refine rs_op rfl (ow_enter en103 rfl ((rs103_14 _).mono ?_))
  rintro e w2 ⟨rfl, hb⟩
  refine ⟨_, rfl, ?_⟩
  have Ec := Ext.of_below hb No
  replace E := E.trans Ec.no
  clear hb Ec
  refine rs_op rfl (ow_assign rfl ?_)
  refine rs_nil ?_
  refine ew_next ?_
  refine cw_seq ?_
  refine cw_seq ?_
  refine cw_region ?_
  refine rs_op rfl (ow_move rfl ?_)
  refine rs_op rfl (ow_move rfl ?_)
  refine rs_op rfl (ow_fV (z := 0) (.inr (.inl rfl)) rfl rfl (by kernel_rfl) ?_)
  refine rs_op rfl (ow_fgtr rfl rfl ?_)
  refine rs_set 43 (.bool false) rfl (by kernel_rfl : (.bool (ford 0 4602678819172646912 == some .gt) : Value) = _) ?_
  refine rs_nil ?_
  refine ew_next ?_
  refine cw_else rfl ?_
  refine cw_skip ?_
  refine ew_next ?_
  refine cw_seq ?_
  refine cw_region ?_
  refine rs_op rfl (ow_move rfl ?_)
  refine rs_op rfl (ow_move rfl ?_)
  refine rs_op rfl (ow_assign rfl ?_)
  refine rs_op rfl (ow_assign rfl ?_)
  refine rs_nil ?_
  refine ew_next ?_
  refine cw_ret ?_
  refine ew_ret (rs := [.tmp 4, .tmp 5]) (vs := [.float .f64 13830554455654793216, .float .f64 9218868437227405312]) rfl ⟨rfl, rfl, trivial⟩ ?_
  exact ⟨rfl, (LW.step E XLW).toBelow⟩
theorem rs57_15 : Gives 57 #[.float .f64 9218868437227405312] (.int .u64 9218868437227405312) := by
  intro w
  refine calls_cw Tryz.func57 rfl Tryz.ntmps57 rfl ?_
  have HF : Per (No) w (fun _ => True) := Per.true_
  have LW := Ext.refl (No) w
  have XLW : ∀ q9, (No) q9 → (No) q9 ∨ w.heap.size ≤ q9 := fun _ h => Or.inl h
  have E := Ext.refl (No) w
  refine cw_seq ?_
  refine cw_region ?_
  refine rs_op rfl (ow_assign rfl ?_)
  refine rs_nil ?_
  refine ew_next ?_
  refine cw_seq ?_
  refine cw_seq ?_
  refine cw_region ?_
  refine rs_op rfl (ow_move rfl ?_)
  refine rs_op rfl (ow_move rfl ?_)
  refine rs_op rfl (ow_fneq rfl rfl ?_)
  refine rs_set 5 (.bool false) rfl (by kernel_rfl : (.bool (ford 9218868437227405312 9218868437227405312 != some .eq) : Value) = _) ?_
  refine rs_nil ?_
  refine ew_next ?_
  refine cw_else rfl ?_
  refine cw_skip ?_
  refine ew_next ?_
  refine cw_seq ?_
  refine cw_region ?_
  refine rs_op rfl (ow_move rfl ?_)
  refine rs_op rfl (ow_bits ex59 rfl ?_)
  refine rs_op rfl (ow_assign rfl ?_)
  refine rs_nil ?_
  refine ew_next ?_
  refine cw_ret ?_
  refine ew_ret (rs := [.tmp 2]) (vs := [.int .u64 9218868437227405312]) rfl ⟨rfl, trivial⟩ ?_
  exact ⟨rfl, (LW.step E XLW).toBelow⟩
theorem rs21_15 : Gives 21 #[.int .u64 13840687554816376832, .int .u64 9218868437227405312] (.tuple #[.int .u64 9218868437227405312, .int .i64 0]) := by
  intro w
  refine calls_cw Tryz.func21 rfl Tryz.ntmps21 rfl ?_
  have HF : Per (No) w (fun _ => True) := Per.true_
  have LW := Ext.refl (No) w
  have XLW : ∀ q9, (No) q9 → (No) q9 ∨ w.heap.size ≤ q9 := fun _ h => Or.inl h
  have E := Ext.refl (No) w
  refine cw_seq ?_
  refine cw_region ?_
  refine rs_op rfl (ow_assign rfl ?_)
  refine rs_op rfl (ow_assign rfl ?_)
  refine rs_nil ?_
  refine ew_next ?_
  refine cw_seq ?_
  refine cw_region ?_
  refine rs_op rfl (ow_move rfl ?_)
  refine rs_op rfl (ow_frombits (b := 9218868437227405312) ex60 rfl ?_)
  refine rs_op rfl (ow_assign rfl ?_)
  refine rs_nil ?_
  refine ew_next ?_
  refine cw_seq ?_
  refine cw_seq ?_
  refine cw_region ?_
  refine rs_op rfl (ow_move rfl ?_)
  refine rs_op rfl (ow_feql rfl rfl ?_)
  refine rs_set 12 (.bool false) rfl (by kernel_rfl : (.bool (ford 9218868437227405312 0 == some .eq) : Value) = _) ?_
  refine rs_nil ?_
  refine ew_next ?_
  refine cw_else rfl ?_
  refine cw_skip ?_
  refine ew_next ?_
  refine cw_seq ?_
  refine cw_region ?_
  refine rs_op rfl (ow_move rfl ?_)
  refine rs_op rfl (ow_frombits (b := 13840687554816376832) ex60 rfl ?_)
  refine rs_op rfl (ow_move rfl ?_)
  refine rs_op rfl (ow_enter en66 rfl ((rs66_14 _).mono ?_))
  rintro e w1 ⟨rfl, hb⟩
  refine ⟨_, rfl, ?_⟩
  have Ec := Ext.of_below hb No
  replace E := E.trans Ec.no
  clear hb Ec
  refine rs_op rfl (ow_move rfl ?_)
  refine rs_op rfl (ow_extract rfl rfl ?_)
  refine rs_op rfl (ow_extract rfl rfl ?_)
  refine rs_op rfl (ow_assign rfl ?_)
  refine rs_op rfl (ow_assign rfl ?_)
  refine rs_nil ?_
  refine ew_next ?_
  refine cw_seq ?_
  refine cw_region ?_
  refine rs_op rfl (ow_move rfl ?_)
  refine rs_op rfl (ow_enter en57 rfl ((rs57_15 _).mono ?_))
  rintro e w2 ⟨rfl, hb⟩
  refine ⟨_, rfl, ?_⟩
  have Ec := Ext.of_below hb No
  replace E := E.trans Ec.no
  clear hb Ec
  refine rs_op rfl (ow_assign rfl ?_)
  refine rs_op rfl (ow_assign rfl ?_)
  refine rs_nil ?_
  refine ew_next ?_
  refine cw_ret ?_
  refine ew_ret (rs := [.tmp 4, .tmp 5]) (vs := [.int .u64 9218868437227405312, .int .i64 0]) rfl ⟨rfl, rfl, trivial⟩ ?_
  exact ⟨rfl, (LW.step E XLW).toBelow⟩
theorem rs123_19 : Gives 123 #[.string ⟨#[45, 110, 97, 110]⟩, .string ⟨#[45]⟩] (.bool true) := by
  intro w
  refine calls_cw Tryz.func123 rfl Tryz.ntmps123 rfl ?_
  have HF : Per (No) w (fun _ => True) := Per.true_
  have LW := Ext.refl (No) w
  have XLW : ∀ q9, (No) q9 → (No) q9 ∨ w.heap.size ≤ q9 := fun _ h => Or.inl h
  have E := Ext.refl (No) w
  refine cw_seq ?_
  refine cw_region ?_
  refine rs_op rfl (ow_assign rfl ?_)
  refine rs_nil ?_
  refine ew_next ?_
  refine cw_seq ?_
  refine cw_region ?_
  refine rs_op rfl (ow_move rfl ?_)
  refine rs_op rfl (ow_lenS Tryz.underlying9 rfl ?_)
  refine rs_op rfl (ow_move rfl ?_)
  refine rs_op rfl (ow_lenS Tryz.underlying9 rfl ?_)
  refine rs_op rfl (ow_geq rfl rfl ?_)
  refine rs_op rfl (ow_move rfl ?_)
  refine rs_op rfl (ow_on rfl (ow_move rfl ?_))
  refine rs_op rfl (ow_on rfl (ow_move rfl ?_))
  refine rs_op rfl (ow_on rfl (ow_lenS Tryz.underlying9 rfl ?_))
  refine rs_op rfl (ow_on rfl (ow_sliceS (l := 0) (h := 1) Tryz.underlying9 rfl rfl ⟨_, rfl⟩ (by decide) (by decide) ?_))
  refine rs_set 14 (.string ⟨#[45]⟩) rfl (by kernel_rfl : (.string ((⟨#[45, 110, 97, 110]⟩ : ByteArray).extract 0 1) : Value) = _) ?_
  refine rs_op rfl (ow_on rfl (ow_move rfl ?_))
  refine rs_op rfl (ow_on rfl (ow_eqlS rfl rfl ?_))
  refine rs_set 16 (.bool true) rfl (by simp only [bytes_list]; rfl : (.bool ((⟨#[45]⟩ : ByteArray).toList == (⟨#[45]⟩ : ByteArray).toList) : Value) = _) ?_
  refine rs_op rfl (ow_pickT rfl rfl ?_)
  refine rs_op rfl (ow_assign rfl ?_)
  refine rs_nil ?_
  refine ew_next ?_
  refine cw_ret ?_
  refine ew_ret (rs := [.tmp 4]) (vs := [.bool true]) rfl ⟨rfl, trivial⟩ ?_
  exact ⟨rfl, (LW.step E XLW).toBelow⟩
theorem rs92_19 : Gives 92 #[.string ⟨#[45, 110, 97, 110]⟩, .string ⟨#[45]⟩] (.tuple #[.string ⟨#[110, 97, 110]⟩, .bool true]) := by
  intro w
  refine calls_cw Tryz.func92 rfl Tryz.ntmps92 rfl ?_
  have HF : Per (No) w (fun _ => True) := Per.true_
  have LW := Ext.refl (No) w
  have XLW : ∀ q9, (No) q9 → (No) q9 ∨ w.heap.size ≤ q9 := fun _ h => Or.inl h
  have E := Ext.refl (No) w
  refine cw_seq ?_
  refine cw_region ?_
  refine rs_op rfl (ow_assign rfl ?_)
  refine rs_op rfl (ow_assign rfl ?_)
  refine rs_nil ?_
  refine ew_next ?_
  refine cw_seq ?_
  refine cw_seq ?_
  refine cw_region ?_
  refine rs_op rfl (ow_move rfl ?_)
  refine rs_op rfl (ow_move rfl ?_)
  refine rs_op rfl (ow_enter en123 rfl ((rs123_19 _).mono ?_))
  rintro e w1 ⟨rfl, hb⟩
  refine ⟨_, rfl, ?_⟩
  have Ec := Ext.of_below hb No
  replace E := E.trans Ec.no
  clear hb Ec
  refine rs_op rfl (ow_not rfl ?_)
  refine rs_nil ?_
  refine ew_next ?_
  refine cw_else rfl ?_
  refine cw_skip ?_
  refine ew_next ?_
  refine cw_seq ?_
  refine cw_region ?_
  refine rs_op rfl (ow_move rfl ?_)
  refine rs_op rfl (ow_move rfl ?_)
  refine rs_op rfl (ow_lenS Tryz.underlying9 rfl ?_)
  refine rs_op rfl (ow_sliceS (l := 1) (h := 4) Tryz.underlying9 rfl ⟨_, rfl⟩ rfl (by decide) (by decide) ?_)
  refine rs_set 14 (.string ⟨#[110, 97, 110]⟩) rfl (by kernel_rfl : (.string ((⟨#[45, 110, 97, 110]⟩ : ByteArray).extract 1 4) : Value) = _) ?_
  refine rs_op rfl (ow_assign rfl ?_)
  refine rs_op rfl (ow_assign rfl ?_)
  refine rs_nil ?_
  refine ew_next ?_
  refine cw_ret ?_
  refine ew_ret (rs := [.tmp 4, .tmp 5]) (vs := [.string ⟨#[110, 97, 110]⟩, .bool true]) rfl ⟨rfl, rfl, trivial⟩ ?_
  exact ⟨rfl, (LW.step E XLW).toBelow⟩
theorem rs52_19 : Gives 52 #[.string ⟨#[45, 110, 97, 110]⟩, .string ⟨#[45]⟩] (.tuple #[.string ⟨#[110, 97, 110]⟩, .bool true]) := by
  intro w
  refine calls_cw Tryz.func52 rfl Tryz.ntmps52 rfl ?_
  have HF : Per (No) w (fun _ => True) := Per.true_
  have LW := Ext.refl (No) w
  have XLW : ∀ q9, (No) q9 → (No) q9 ∨ w.heap.size ≤ q9 := fun _ h => Or.inl h
  have E := Ext.refl (No) w
  refine cw_seq ?_
  refine cw_region ?_
  refine rs_op rfl (ow_assign rfl ?_)
  refine rs_op rfl (ow_assign rfl ?_)
  refine rs_nil ?_
  refine ew_next ?_
  refine cw_seq ?_
  refine cw_region ?_
  refine rs_op rfl (ow_move rfl ?_)
  refine rs_op rfl (ow_move rfl ?_)
  refine rs_op rfl (ow_enter en92 rfl ((rs92_19 _).mono ?_))
  rintro e w1 ⟨rfl, hb⟩
  refine ⟨_, rfl, ?_⟩
  have Ec := Ext.of_below hb No
  replace E := E.trans Ec.no
  clear hb Ec
  refine rs_op rfl (ow_extract rfl rfl ?_)
  refine rs_op rfl (ow_extract rfl rfl ?_)
  refine rs_op rfl (ow_assign rfl ?_)
  refine rs_op rfl (ow_assign rfl ?_)
  refine rs_nil ?_
  refine ew_next ?_
  refine cw_ret ?_
  refine ew_ret (rs := [.tmp 4, .tmp 5]) (vs := [.string ⟨#[110, 97, 110]⟩, .bool true]) rfl ⟨rfl, rfl, trivial⟩ ?_
  exact ⟨rfl, (LW.step E XLW).toBelow⟩
theorem rs14_19 : Gives 14 #[.string ⟨#[45, 110, 97, 110]⟩] (.tuple #[.int .u64 9221120237041090560, .int .i64 0]) := by
  intro w
  refine calls_cw Tryz.func14 rfl Tryz.ntmps14 rfl ?_
  have HF : Per (No) w (fun _ => True) := Per.true_
  have LW := Ext.refl (No) w
  have XLW : ∀ q9, (No) q9 → (No) q9 ∨ w.heap.size ≤ q9 := fun _ h => Or.inl h
  have E := Ext.refl (No) w
  refine cw_seq ?_
  refine cw_region ?_
  refine rs_op rfl (ow_assign rfl ?_)
  refine rs_op rfl (ow_assign rfl ?_)
  refine rs_nil ?_
  refine ew_next ?_
  refine cw_seq ?_
  refine cw_seq ?_
  refine cw_region ?_
  refine rs_op rfl (ow_move rfl ?_)
  refine rs_op rfl (ow_lenS Tryz.underlying9 rfl ?_)
  refine rs_op rfl (ow_gtr rfl rfl ?_)
  refine rs_nil ?_
  refine ew_next ?_
  refine cw_else rfl ?_
  refine cw_skip ?_
  refine ew_next ?_
  refine cw_seq ?_
  refine cw_region ?_
  refine rs_op rfl (ow_move rfl ?_)
  refine rs_op rfl (ow_enter en52 rfl ((rs52_19 _).mono ?_))
  rintro e w1 ⟨rfl, hb⟩
  refine ⟨_, rfl, ?_⟩
  have Ec := Ext.of_below hb No
  replace E := E.trans Ec.no
  clear hb Ec
  refine rs_op rfl (ow_move rfl ?_)
  refine rs_op rfl (ow_extract rfl rfl ?_)
  refine rs_op rfl (ow_extract rfl rfl ?_)
  refine rs_op rfl (ow_assign rfl ?_)
  refine rs_op rfl (ow_assign rfl ?_)
  refine rs_nil ?_
  refine ew_next ?_
  refine cw_seq ?_
  refine cw_region ?_
  refine rs_op rfl (ow_assign rfl ?_)
  refine rs_nil ?_
  refine ew_next ?_
  refine cw_seq ?_
  refine cw_block ?_
  refine cw_seq ?_
  refine cw_region ?_
  refine rs_op rfl (ow_move rfl ?_)
  refine rs_op rfl (ow_eqlS rfl rfl ?_)
  refine rs_set 17 (.bool false) rfl (by simp only [bytes_list]; rfl : (.bool ((⟨#[110, 97, 110]⟩ : ByteArray).toList == (⟨#[105, 110, 102]⟩ : ByteArray).toList) : Value) = _) ?_
  refine rs_op rfl (ow_assign rfl ?_)
  refine rs_nil ?_
  refine ew_next ?_
  refine cw_else rfl ?_
  refine cw_seq ?_
  refine cw_region ?_
  refine rs_op rfl (ow_move rfl ?_)
  refine rs_op rfl (ow_eqlS rfl rfl ?_)
  refine rs_set 21 (.bool true) rfl (by simp only [bytes_list]; rfl : (.bool ((⟨#[110, 97, 110]⟩ : ByteArray).toList == (⟨#[110, 97, 110]⟩ : ByteArray).toList) : Value) = _) ?_
  refine rs_op rfl (ow_assign rfl ?_)
  refine rs_nil ?_
  refine ew_next ?_
  refine cw_then rfl ?_
  refine cw_seq ?_
  refine cw_region ?_
  refine rs_op rfl (ow_assign rfl ?_)
  refine rs_op rfl (ow_assign rfl ?_)
  refine rs_nil ?_
  refine ew_next ?_
  refine cw_ret ?_
  refine ew_block_ret ?_
  refine ew_then_ret ?_
  refine ew_ret (rs := [.tmp 2, .tmp 3]) (vs := [.int .u64 9221120237041090560, .int .i64 0]) rfl ⟨rfl, rfl, trivial⟩ ?_
  exact ⟨rfl, (LW.step E XLW).toBelow⟩
theorem rs71_22 : Gives 71 #[.float .f64 9223372036854775808] (.float .f64 0) := by
  intro w
  refine calls_cw Tryz.func71 rfl Tryz.ntmps71 rfl ?_
  have HF : Per (No) w (fun _ => True) := Per.true_
  have LW := Ext.refl (No) w
  have XLW : ∀ q9, (No) q9 → (No) q9 ∨ w.heap.size ≤ q9 := fun _ h => Or.inl h
  have E := Ext.refl (No) w
  refine cw_seq ?_
  refine cw_region ?_
  refine rs_op rfl (ow_assign rfl ?_)
  refine rs_nil ?_
  refine ew_next ?_
  refine cw_seq ?_
  refine cw_region ?_
  refine rs_op rfl (ow_move rfl ?_)
  refine rs_op rfl (ow_bits ex59 rfl ?_)
  refine rs_op rfl (ow_andNot (z := 0) rfl rfl (by kernel_rfl) ?_)
  refine rs_op rfl (ow_frombits (b := 0) ex60 rfl ?_)
  refine rs_op rfl (ow_assign rfl ?_)
  refine rs_nil ?_
  refine ew_next ?_
  refine cw_ret ?_
  refine ew_ret (rs := [.tmp 2]) (vs := [.float .f64 0]) rfl ⟨rfl, trivial⟩ ?_
  exact ⟨rfl, (LW.step E XLW).toBelow⟩
theorem rs61_22 : Gives 61 #[.float .f64 9223372036854775808, .int .i64 0] (.bool false) := by
  intro w
  refine calls_cw Tryz.func61 rfl Tryz.ntmps61 rfl ?_
  have HF : Per (No) w (fun _ => True) := Per.true_
  have LW := Ext.refl (No) w
  have XLW : ∀ q9, (No) q9 → (No) q9 ∨ w.heap.size ≤ q9 := fun _ h => Or.inl h
  have E := Ext.refl (No) w
  refine cw_seq ?_
  refine cw_region ?_
  refine rs_op rfl (ow_assign rfl ?_)
  refine rs_nil ?_
  refine ew_next ?_
  refine cw_seq ?_
  refine cw_seq ?_
  refine cw_region ?_
  refine rs_op rfl (ow_move rfl ?_)
  refine rs_op rfl (ow_eql rfl rfl ?_)
  refine rs_nil ?_
  refine ew_next ?_
  refine cw_then rfl ?_
  refine cw_region ?_
  refine rs_op rfl (ow_move rfl ?_)
  refine rs_op rfl (ow_enter en71 rfl ((rs71_22 _).mono ?_))
  rintro e w1 ⟨rfl, hb⟩
  refine ⟨_, rfl, ?_⟩
  have Ec := Ext.of_below hb No
  replace E := E.trans Ec.no
  clear hb Ec
  refine rs_op rfl (ow_assign rfl ?_)
  refine rs_nil ?_
  refine ew_next ?_
  refine cw_seq ?_
  refine cw_region ?_
  refine rs_op rfl (ow_move rfl ?_)
  refine rs_op rfl (ow_fgtr rfl rfl ?_)
  refine rs_set 14 (.bool false) rfl (by kernel_rfl : (.bool (ford 0 9218868437227405311 == some .gt) : Value) = _) ?_
  refine rs_op rfl (ow_assign rfl ?_)
  refine rs_nil ?_
  refine ew_next ?_
  refine cw_ret ?_
  refine ew_ret (rs := [.tmp 4]) (vs := [.bool false]) rfl ⟨rfl, trivial⟩ ?_
  exact ⟨rfl, (LW.step E XLW).toBelow⟩
theorem sums_law (a b : Nat) (ha : a < 18446744073709551616) (hb : b < 18446744073709551616) (w : World) (hT : ∀ b, Below w.heap.size w b → Ten b) (hD : ∀ b, Below w.heap.size w b → TabD b) :
    Calls Tryz.prog 6 #[.int .u64 ((a : Nat) : Int), .int .u64 ((b : Nat) : Int)] w fun e w' => e = .returned (.bool true) ∧ Below w.heap.size w w' := by
  refine calls_cw Tryz.func6 rfl Tryz.ntmps6 rfl ?_
  have HF : Per (No) w (fun _ => True) := Per.true_
  have LW := Ext.refl (No) w
  have XLW : ∀ q9, (No) q9 → (No) q9 ∨ w.heap.size ≤ q9 := fun _ h => Or.inl h
  have E := Ext.refl (No) w
  refine cw_seq ?_
  refine cw_region ?_
  refine rs_op rfl (ow_assign rfl ?_)
  refine rs_nil ?_
  refine ew_next ?_
  refine cw_seq ?_
  refine cw_region ?_
  refine rs_op rfl (ow_move rfl ?_)
  refine rs_op rfl (ow_move rfl ?_)
  refine rs_op rfl (ow_enter en23 rfl ((div_any_r _ a b).mono ?_))
  rintro e w1 ⟨rfl, hb⟩
  refine ⟨_, rfl, ?_⟩
  have XC : ∀ q9, (No) q9 → q9 < w.heap.size := Mut.none_
  have SC := Nat.le_trans LW.size E.size
  have SE := E.size
  have Ec := Ext.of_below hb No
  replace E := E.trans Ec.no
  clear hb Ec
  refine rs_op rfl (ow_move rfl ?_)
  refine rs_op rfl (ow_extract rfl rfl ?_)
  refine rs_op rfl (ow_extract rfl rfl ?_)
  refine rs_op rfl (ow_assign rfl ?_)
  refine rs_op rfl (ow_assign rfl ?_)
  refine rs_nil ?_
  refine ew_next ?_
  refine cw_seq ?_
  refine cw_region ?_
  refine rs_op rfl (ow_move rfl ?_)
  refine rs_op rfl (ow_move rfl ?_)
  refine rs_op rfl (ow_enter en24 rfl ((rdiv_any_r _ a b hb).mono ?_))
  rintro e w2 ⟨rfl, hb⟩
  refine ⟨_, rfl, ?_⟩
  have XC : ∀ q9, (No) q9 → q9 < w1.heap.size := Mut.none_
  have SC := Nat.le_trans LW.size E.size
  have SE := E.size
  have Ec := Ext.of_below hb No
  replace E := E.trans Ec.no
  clear hb Ec
  refine rs_op rfl (ow_move rfl ?_)
  refine rs_op rfl (ow_extract rfl rfl ?_)
  refine rs_op rfl (ow_extract rfl rfl ?_)
  refine rs_op rfl (ow_assign rfl ?_)
  refine rs_op rfl (ow_assign rfl ?_)
  refine rs_nil ?_
  refine ew_next ?_
  refine cw_seq ?_
  refine cw_region ?_
  refine rs_op rfl (ow_enter en16 rfl ((known_any _ (later hT (LW.step E XLW).toBelow) (later hD (LW.step E XLW).toBelow)).mono ?_))
  rintro e w3 ⟨rfl, hb⟩
  refine ⟨_, rfl, ?_⟩
  have XC : ∀ q9, (No) q9 → q9 < w2.heap.size := Mut.none_
  have SC := Nat.le_trans LW.size E.size
  have SE := E.size
  have Ec := Ext.of_below hb No
  replace E := E.trans Ec.no
  clear hb Ec
  refine rs_op rfl (ow_move rfl ?_)
  refine rs_op rfl (ow_on rfl (ow_move rfl ?_))
  refine rs_op rfl (ow_on rfl (ow_enter en25 rfl ((neg_any_r _ a).mono ?_)))
  rintro e w4 ⟨rfl, hb⟩
  refine ⟨_, rfl, ?_⟩
  have XC : ∀ q9, (No) q9 → q9 < w3.heap.size := Mut.none_
  have SC := Nat.le_trans LW.size E.size
  have SE := E.size
  have Ec := Ext.of_below hb No
  replace E := E.trans Ec.no
  clear hb Ec
  refine rs_op rfl (ow_on rfl (ow_move rfl ?_))
  refine rs_op rfl (ow_on rfl (ow_enter en26 rfl ((rneg_any _ a ha).mono ?_)))
  rintro e w5 ⟨rfl, hb⟩
  refine ⟨_, rfl, ?_⟩
  have XC : ∀ q9, (No) q9 → q9 < w4.heap.size := Mut.none_
  have SC := Nat.le_trans LW.size E.size
  have SE := E.size
  have Ec := Ext.of_below hb No
  replace E := E.trans Ec.no
  clear hb Ec
  refine rs_op rfl (ow_on rfl (ow_eql rfl rfl ?_))
  refine rs_set 27 (.bool true) rfl (by simp : (.bool (((bareN (fnegate a) : Nat) : Int) == ((bareN (fnegate a) : Nat) : Int)) : Value) = _) ?_
  refine rs_op rfl (ow_pickT rfl rfl ?_)
  refine rs_op rfl (ow_move rfl ?_)
  refine rs_op rfl (ow_on rfl (ow_move rfl ?_))
  refine rs_op rfl (ow_on rfl (ow_move rfl ?_))
  refine rs_op rfl (ow_on rfl (ow_enter en27 rfl ((add_any_r _ a b).mono ?_)))
  rintro e w6 ⟨rfl, hb⟩
  refine ⟨_, rfl, ?_⟩
  have XC : ∀ q9, (No) q9 → q9 < w5.heap.size := Mut.none_
  have SC := Nat.le_trans LW.size E.size
  have SE := E.size
  have Ec := Ext.of_below hb No
  replace E := E.trans Ec.no
  clear hb Ec
  refine rs_op rfl (ow_on rfl (ow_move rfl ?_))
  refine rs_op rfl (ow_on rfl (ow_move rfl ?_))
  refine rs_op rfl (ow_on rfl (ow_enter en28 rfl ((radd_any_r _ a b).mono ?_)))
  rintro e w7 ⟨rfl, hb⟩
  refine ⟨_, rfl, ?_⟩
  have XC : ∀ q9, (No) q9 → q9 < w6.heap.size := Mut.none_
  have SC := Nat.le_trans LW.size E.size
  have SE := E.size
  have Ec := Ext.of_below hb No
  replace E := E.trans Ec.no
  clear hb Ec
  refine rs_op rfl (ow_on rfl (ow_eql rfl rfl ?_))
  refine rs_set 36 (.bool true) rfl (by simp : (.bool (((ansF (fop .add a b) : Nat) : Int) == ((ansF (fop .add a b) : Nat) : Int)) : Value) = _) ?_
  refine rs_op rfl (ow_pickT rfl rfl ?_)
  refine rs_op rfl (ow_move rfl ?_)
  refine rs_op rfl (ow_on rfl (ow_move rfl ?_))
  refine rs_op rfl (ow_on rfl (ow_move rfl ?_))
  refine rs_op rfl (ow_on rfl (ow_enter en29 rfl ((sub_any_r _ a b).mono ?_)))
  rintro e w8 ⟨rfl, hb⟩
  refine ⟨_, rfl, ?_⟩
  have XC : ∀ q9, (No) q9 → q9 < w7.heap.size := Mut.none_
  have SC := Nat.le_trans LW.size E.size
  have SE := E.size
  have Ec := Ext.of_below hb No
  replace E := E.trans Ec.no
  clear hb Ec
  refine rs_op rfl (ow_on rfl (ow_move rfl ?_))
  refine rs_op rfl (ow_on rfl (ow_move rfl ?_))
  refine rs_op rfl (ow_on rfl (ow_enter en30 rfl ((rsub_any_r _ a b hb).mono ?_)))
  rintro e w9 ⟨rfl, hb⟩
  refine ⟨_, rfl, ?_⟩
  have XC : ∀ q9, (No) q9 → q9 < w8.heap.size := Mut.none_
  have SC := Nat.le_trans LW.size E.size
  have SE := E.size
  have Ec := Ext.of_below hb No
  replace E := E.trans Ec.no
  clear hb Ec
  refine rs_op rfl (ow_on rfl (ow_eql rfl rfl ?_))
  refine rs_set 45 (.bool true) rfl (by simp : (.bool (((ansF (fop .sub a b) : Nat) : Int) == ((ansF (fop .sub a b) : Nat) : Int)) : Value) = _) ?_
  refine rs_op rfl (ow_pickT rfl rfl ?_)
  refine rs_op rfl (ow_move rfl ?_)
  refine rs_op rfl (ow_on rfl (ow_move rfl ?_))
  refine rs_op rfl (ow_on rfl (ow_move rfl ?_))
  refine rs_op rfl (ow_on rfl (ow_enter en31 rfl ((mul_any_r _ a b).mono ?_)))
  rintro e w10 ⟨rfl, hb⟩
  refine ⟨_, rfl, ?_⟩
  have XC : ∀ q9, (No) q9 → q9 < w9.heap.size := Mut.none_
  have SC := Nat.le_trans LW.size E.size
  have SE := E.size
  have Ec := Ext.of_below hb No
  replace E := E.trans Ec.no
  clear hb Ec
  refine rs_op rfl (ow_on rfl (ow_move rfl ?_))
  refine rs_op rfl (ow_on rfl (ow_move rfl ?_))
  refine rs_op rfl (ow_on rfl (ow_enter en32 rfl ((rmul_any_r _ a b).mono ?_)))
  rintro e w11 ⟨rfl, hb⟩
  refine ⟨_, rfl, ?_⟩
  have XC : ∀ q9, (No) q9 → q9 < w10.heap.size := Mut.none_
  have SC := Nat.le_trans LW.size E.size
  have SE := E.size
  have Ec := Ext.of_below hb No
  replace E := E.trans Ec.no
  clear hb Ec
  refine rs_op rfl (ow_on rfl (ow_eql rfl rfl ?_))
  refine rs_set 54 (.bool true) rfl (by simp : (.bool (((ansF (fop .mul a b) : Nat) : Int) == ((ansF (fop .mul a b) : Nat) : Int)) : Value) = _) ?_
  refine rs_op rfl (ow_pickT rfl rfl ?_)
  refine rs_op rfl (ow_move rfl ?_)
  refine rs_op rfl (ow_on rfl (ow_move rfl ?_))
  refine rs_op rfl (ow_on rfl (ow_move rfl ?_))
  refine rs_op rfl (ow_on rfl (ow_eql rfl rfl ?_))
  refine rs_set 59 (.bool true) rfl (by simp : (.bool (((divV a b : Nat) : Int) == ((divV a b : Nat) : Int)) : Value) = _) ?_
  refine rs_op rfl (ow_pickT rfl rfl ?_)
  refine rs_op rfl (ow_move rfl ?_)
  refine rs_op rfl (ow_on rfl (ow_move rfl ?_))
  refine rs_op rfl (ow_on rfl (ow_move rfl ?_))
  refine rs_op rfl (ow_on rfl (ow_eql rfl rfl ?_))
  refine rs_set 64 (.bool true) rfl (by simp : (.bool ((divE b) == (divE b)) : Value) = _) ?_
  refine rs_op rfl (ow_pickT rfl rfl ?_)
  refine rs_op rfl (ow_assign rfl ?_)
  refine rs_nil ?_
  refine ew_next ?_
  refine cw_ret ?_
  refine ew_ret (rs := [.tmp 4]) (vs := [_]) rfl ⟨rfl, trivial⟩ ?_
  exact ⟨rfl, (LW.step E XLW).toBelow⟩
end Go.Proofs.YtljndllhmdpjlaaGreatDoor

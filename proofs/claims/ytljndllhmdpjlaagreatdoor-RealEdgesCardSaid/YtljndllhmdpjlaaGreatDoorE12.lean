/- RealEdges: NaN, infinities, noughts. -/
import Derived.Test.YtljndllhmdpjlaaGreatDoorE11
namespace Go.Proofs.YtljndllhmdpjlaaGreatDoor
open Go.RowKit
set_option maxRecDepth 100000
theorem cmpF_ends (a b : Nat) : -1 ≤ cmpF a b ∧ cmpF a b ≤ 1 := by
  unfold cmpF ordI
  split
  · split
    · decide
    · split <;> decide
  · decide
theorem cmpF_anti (a b : Nat) : cmpF a b = 0 - cmpF b a := by
  unfold cmpF ordered
  rw [Bool.and_comm]
  split
  · unfold ordI
    rcases Int.lt_trichotomy (pc a) (pc b) with h | h | h
    · rw [if_pos h, if_neg (by omega), if_pos (by omega)]; rfl
    · rw [if_neg (by omega), if_neg (by omega), if_neg (by omega), if_neg (by omega)]; rfl
    · rw [if_neg (by omega), if_pos (by omega), if_pos h]; rfl
  · rfl
theorem cmpF_same (a : Nat) : cmpF a a = 0 := by have := cmpF_anti a a; omega
theorem neg_neg_r {a : Nat} (ha : a < 18446744073709551616) (h : isN a = false) : bareN (fnegate (bareN (fnegate a))) = a := by
  have h1 := negate_parts ha
  have h2 := negate_parts h1.2.2
  have hn := negate_isN ha
  rw [h] at hn
  have hb : bareN (fnegate a) = fnegate a := by rw [bareN, if_neg (by rw [hn]; decide)]
  have hn2 := negate_isN h1.2.2
  rw [hn] at hn2
  rw [hb, bareN, if_neg (by rw [hn2]; decide)]
  refine rg_ng_inj h2.2.2 ha (by rw [h2.1, h1.1]) (by rw [h2.2.1, h1.2.1]; simp)
theorem cmp_zero {a b : Nat} (ha : a < 18446744073709551616) (hb : b < 18446744073709551616) (h1 : isN a = false) (h2 : isN b = false) : (cmpF a b == 0) = ((((a : Nat) : Int) == ((b : Nat) : Int)) || (isZ a && isZ b)) := by
  have ho : ordered a b = true := by rw [ordered, h1, h2]; rfl
  rw [cmpF, if_pos ho]
  have hz : ∀ c, isZ c = decide (pc c = 0) := by
    intro c
    unfold isZ pc
    congr 1
    apply propext
    split <;> omega
  rcases Classical.em (pc a = pc b) with h | h
  · have e1 : ordI (pc a) (pc b) = 0 := by rw [h, ordI, if_neg (by omega), if_neg (by omega)]
    rw [e1]
    rcases Classical.em (pc a = 0) with h0 | h0
    · rw [hz, hz, ← h, h0]; simp
    · have hab : a = b := by
        have ra := rg_lt a
        have rb := rg_lt b
        unfold pc at h h0
        refine rg_ng_inj ha hb ?_ ?_
        · split at h <;> split at h <;> omega
        · cases e1 : ng a <;> cases e2 : ng b <;> simp only [e1, e2] at h h0 <;> first | rfl | (exfalso; simp at h h0; omega)
      subst hab; simp
  · have e1 : ordI (pc a) (pc b) ≠ 0 := by
      unfold ordI
      split
      · decide
      · rw [if_pos (by omega)]; decide
    have hab : a ≠ b := fun e => h (by rw [e])
    have hzz : (isZ a && isZ b) = false := by
      rw [hz, hz]
      rcases Classical.em (pc a = 0) with h3 | h3
      · have : pc b ≠ 0 := fun h4 => h (by rw [h3, h4])
        simp [this]
      · simp [h3]
    rw [hzz]
    have hab2 : ((a : Nat) : Int) ≠ ((b : Nat) : Int) := by omega
    rw [beq_false_of_ne e1, beq_false_of_ne hab2]; rfl
theorem ansF_nan {op : BinOp} {a b : Nat} (h : isN a = true ∨ isN b = true) : ansF (fop op a b) = 9221120237041090560 := by rw [fop_nan h]; rfl
theorem div_nan_zero {a b : Nat} (h : isZ b = true) : (.tuple #[.int .u64 ((divV a b : Nat) : Int), .int .i64 (divE b)] : Value) = .tuple #[.int .u64 0, .int .i64 6] := by rw [divV, divE, if_pos h, if_pos h]; rfl
theorem div_nan_else {a b : Nat} (hn : isN a = true ∨ isN b = true) (h : isZ b = false) : (.tuple #[.int .u64 ((divV a b : Nat) : Int), .int .i64 (divE b)] : Value) = .tuple #[.int .u64 9221120237041090560, .int .i64 0] := by
  rw [divV, divE, if_neg (by rw [h]; decide), if_neg (by rw [h]; decide), ansF_nan hn]; rfl
theorem re71_7 : Gives 71 #[.float .f64 13840687554816376832] (.float .f64 4617315517961601024) := by
  intro w
  refine calls_cw Tryz.func71 rfl Tryz.ntmps71 rfl ?_
  have HF : Per (No) w (fun _ => True) := Per.true_
  have LW := Ext.refl (No) w
  have XLW : ∀ q9, (No) q9 → (No) q9 ∨ w.heap.size ≤ q9 := fun _ h => Or.inl h
  have E := Ext.refl (No) w
  refine cw_seq ?_
  refine cw_region ?_
  refine rs_op rfl (ow_assign rfl ?_)
  refine rs_nil ?_
  refine ew_next ?_
  refine cw_seq ?_
  refine cw_region ?_
  refine rs_op rfl (ow_move rfl ?_)
  refine rs_op rfl (ow_bits ex59 rfl ?_)
  refine rs_op rfl (ow_andNot (z := 4617315517961601024) rfl rfl (by kernel_rfl) ?_)
  refine rs_op rfl (ow_frombits (b := 4617315517961601024) ex60 rfl ?_)
  refine rs_op rfl (ow_assign rfl ?_)
  refine rs_nil ?_
  refine ew_next ?_
  refine cw_ret ?_
  refine ew_ret (rs := [.tmp 2]) (vs := [.float .f64 4617315517961601024]) rfl ⟨rfl, trivial⟩ ?_
  exact ⟨rfl, (LW.step E XLW).toBelow⟩
theorem re61_7 : Gives 61 #[.float .f64 13840687554816376832, .int .i64 0] (.bool false) := by
  intro w
  refine calls_cw Tryz.func61 rfl Tryz.ntmps61 rfl ?_
  have HF : Per (No) w (fun _ => True) := Per.true_
  have LW := Ext.refl (No) w
  have XLW : ∀ q9, (No) q9 → (No) q9 ∨ w.heap.size ≤ q9 := fun _ h => Or.inl h
  have E := Ext.refl (No) w
  refine cw_seq ?_
  refine cw_region ?_
  refine rs_op rfl (ow_assign rfl ?_)
  refine rs_nil ?_
  refine ew_next ?_
  refine cw_seq ?_
  refine cw_seq ?_
  refine cw_region ?_
  refine rs_op rfl (ow_move rfl ?_)
  refine rs_op rfl (ow_eql rfl rfl ?_)
  refine rs_nil ?_
  refine ew_next ?_
  refine cw_then rfl ?_
  refine cw_region ?_
  refine rs_op rfl (ow_move rfl ?_)
  refine rs_op rfl (ow_enter en71 rfl ((re71_7 _).mono ?_))
  rintro e w1 ⟨rfl, hb⟩
  refine ⟨_, rfl, ?_⟩
  have Ec := Ext.of_below hb No
  replace E := E.trans Ec.no
  clear hb Ec
  refine rs_op rfl (ow_assign rfl ?_)
  refine rs_nil ?_
  refine ew_next ?_
  refine cw_seq ?_
  refine cw_region ?_
  refine rs_op rfl (ow_move rfl ?_)
  refine rs_op rfl (ow_fgtr rfl rfl ?_)
  refine rs_set 14 (.bool false) rfl (by kernel_rfl : (.bool (ford 4617315517961601024 9218868437227405311 == some .gt) : Value) = _) ?_
  refine rs_op rfl (ow_assign rfl ?_)
  refine rs_nil ?_
  refine ew_next ?_
  refine cw_ret ?_
  refine ew_ret (rs := [.tmp 4]) (vs := [.bool false]) rfl ⟨rfl, trivial⟩ ?_
  exact ⟨rfl, (LW.step E XLW).toBelow⟩
theorem re138_8 : Gives 138 #[.float .f64 13840687554816376832] (.bool false) := by
  intro w
  refine calls_cw Tryz.func138 rfl Tryz.ntmps138 rfl ?_
  have HF : Per (No) w (fun _ => True) := Per.true_
  have LW := Ext.refl (No) w
  have XLW : ∀ q9, (No) q9 → (No) q9 ∨ w.heap.size ≤ q9 := fun _ h => Or.inl h
  have E := Ext.refl (No) w
  refine cw_seq ?_
  refine cw_region ?_
  refine rs_op rfl (ow_assign rfl ?_)
  refine rs_nil ?_
  refine ew_next ?_
  refine cw_seq ?_
  refine cw_region ?_
  refine rs_op rfl (ow_move rfl ?_)
  refine rs_op rfl (ow_move rfl ?_)
  refine rs_op rfl (ow_fneq rfl rfl ?_)
  refine rs_set 5 (.bool false) rfl (by kernel_rfl : (.bool (ford 13840687554816376832 13840687554816376832 != some .eq) : Value) = _) ?_
  refine rs_op rfl (ow_assign rfl ?_)
  refine rs_nil ?_
  refine ew_next ?_
  refine cw_ret ?_
  refine ew_ret (rs := [.tmp 2]) (vs := [.bool false]) rfl ⟨rfl, trivial⟩ ?_
  exact ⟨rfl, (LW.step E XLW).toBelow⟩
theorem re138_9 : Gives 138 #[.float .f64 9218868437227405312] (.bool false) := by
  intro w
  refine calls_cw Tryz.func138 rfl Tryz.ntmps138 rfl ?_
  have HF : Per (No) w (fun _ => True) := Per.true_
  have LW := Ext.refl (No) w
  have XLW : ∀ q9, (No) q9 → (No) q9 ∨ w.heap.size ≤ q9 := fun _ h => Or.inl h
  have E := Ext.refl (No) w
  refine cw_seq ?_
  refine cw_region ?_
  refine rs_op rfl (ow_assign rfl ?_)
  refine rs_nil ?_
  refine ew_next ?_
  refine cw_seq ?_
  refine cw_region ?_
  refine rs_op rfl (ow_move rfl ?_)
  refine rs_op rfl (ow_move rfl ?_)
  refine rs_op rfl (ow_fneq rfl rfl ?_)
  refine rs_set 5 (.bool false) rfl (by kernel_rfl : (.bool (ford 9218868437227405312 9218868437227405312 != some .eq) : Value) = _) ?_
  refine rs_op rfl (ow_assign rfl ?_)
  refine rs_nil ?_
  refine ew_next ?_
  refine cw_ret ?_
  refine ew_ret (rs := [.tmp 2]) (vs := [.bool false]) rfl ⟨rfl, trivial⟩ ?_
  exact ⟨rfl, (LW.step E XLW).toBelow⟩
theorem re71_10 : Gives 71 #[.float .f64 9218868437227405312] (.float .f64 9218868437227405312) := by
  intro w
  refine calls_cw Tryz.func71 rfl Tryz.ntmps71 rfl ?_
  have HF : Per (No) w (fun _ => True) := Per.true_
  have LW := Ext.refl (No) w
  have XLW : ∀ q9, (No) q9 → (No) q9 ∨ w.heap.size ≤ q9 := fun _ h => Or.inl h
  have E := Ext.refl (No) w
  refine cw_seq ?_
  refine cw_region ?_
  refine rs_op rfl (ow_assign rfl ?_)
  refine rs_nil ?_
  refine ew_next ?_
  refine cw_seq ?_
  refine cw_region ?_
  refine rs_op rfl (ow_move rfl ?_)
  refine rs_op rfl (ow_bits ex59 rfl ?_)
  refine rs_op rfl (ow_andNot (z := 9218868437227405312) rfl rfl (by kernel_rfl) ?_)
  refine rs_op rfl (ow_frombits (b := 9218868437227405312) ex60 rfl ?_)
  refine rs_op rfl (ow_assign rfl ?_)
  refine rs_nil ?_
  refine ew_next ?_
  refine cw_ret ?_
  refine ew_ret (rs := [.tmp 2]) (vs := [.float .f64 9218868437227405312]) rfl ⟨rfl, trivial⟩ ?_
  exact ⟨rfl, (LW.step E XLW).toBelow⟩
theorem re61_13 : Gives 61 #[.float .f64 9218868437227405312, .int .i64 0] (.bool true) := by
  intro w
  refine calls_cw Tryz.func61 rfl Tryz.ntmps61 rfl ?_
  have HF : Per (No) w (fun _ => True) := Per.true_
  have LW := Ext.refl (No) w
  have XLW : ∀ q9, (No) q9 → (No) q9 ∨ w.heap.size ≤ q9 := fun _ h => Or.inl h
  have E := Ext.refl (No) w
  refine cw_seq ?_
  refine cw_region ?_
  refine rs_op rfl (ow_assign rfl ?_)
  refine rs_nil ?_
  refine ew_next ?_
  refine cw_seq ?_
  refine cw_seq ?_
  refine cw_region ?_
  refine rs_op rfl (ow_move rfl ?_)
  refine rs_op rfl (ow_eql rfl rfl ?_)
  refine rs_nil ?_
  refine ew_next ?_
  refine cw_then rfl ?_
  refine cw_region ?_
  refine rs_op rfl (ow_move rfl ?_)
  refine rs_op rfl (ow_enter en71 rfl ((re71_10 _).mono ?_))
  rintro e w1 ⟨rfl, hb⟩
  refine ⟨_, rfl, ?_⟩
  have Ec := Ext.of_below hb No
  replace E := E.trans Ec.no
  clear hb Ec
  refine rs_op rfl (ow_assign rfl ?_)
  refine rs_nil ?_
  refine ew_next ?_
  refine cw_seq ?_
  refine cw_region ?_
  refine rs_op rfl (ow_move rfl ?_)
  refine rs_op rfl (ow_fgtr rfl rfl ?_)
  refine rs_set 14 (.bool true) rfl (by kernel_rfl : (.bool (ford 9218868437227405312 9218868437227405311 == some .gt) : Value) = _) ?_
  refine rs_op rfl (ow_assign rfl ?_)
  refine rs_nil ?_
  refine ew_next ?_
  refine cw_ret ?_
  refine ew_ret (rs := [.tmp 4]) (vs := [.bool true]) rfl ⟨rfl, trivial⟩ ?_
  exact ⟨rfl, (LW.step E XLW).toBelow⟩
theorem re106_13 : Gives 106 #[.float .f64 9218868437227405312] (.tuple #[.float .f64 9218868437227405312, .int .i64 0]) := by
  intro w
  refine calls_cw Tryz.func106 rfl Tryz.ntmps106 rfl ?_
  have HF : Per (No) w (fun _ => True) := Per.true_
  have LW := Ext.refl (No) w
  have XLW : ∀ q9, (No) q9 → (No) q9 ∨ w.heap.size ≤ q9 := fun _ h => Or.inl h
  have E := Ext.refl (No) w
  refine cw_seq ?_
  refine cw_region ?_
  refine rs_op rfl (ow_assign rfl ?_)
  refine rs_op rfl (ow_assign rfl ?_)
  refine rs_nil ?_
  refine ew_next ?_
  refine cw_seq ?_
  refine cw_block ?_
  refine cw_seq ?_
  refine cw_region ?_
  refine rs_op rfl (ow_move rfl ?_)
  refine rs_op rfl (ow_feql rfl rfl ?_)
  refine rs_set 7 (.bool false) rfl (by kernel_rfl : (.bool (ford 9218868437227405312 0 == some .eq) : Value) = _) ?_
  refine rs_op rfl (ow_assign rfl ?_)
  refine rs_nil ?_
  refine ew_next ?_
  refine cw_else rfl ?_
  refine cw_seq ?_
  refine cw_region ?_
  refine rs_op rfl (ow_move rfl ?_)
  refine rs_op rfl (ow_enter en61 rfl ((re61_13 _).mono ?_))
  rintro e w1 ⟨rfl, hb⟩
  refine ⟨_, rfl, ?_⟩
  have Ec := Ext.of_below hb No
  replace E := E.trans Ec.no
  clear hb Ec
  refine rs_op rfl (ow_move rfl ?_)
  refine rs_op rfl (ow_off rfl ?_)
  refine rs_op rfl (ow_off rfl ?_)
  refine rs_op rfl (ow_pickT rfl rfl ?_)
  refine rs_op rfl (ow_assign rfl ?_)
  refine rs_nil ?_
  refine ew_next ?_
  refine cw_then rfl ?_
  refine cw_seq ?_
  refine cw_region ?_
  refine rs_op rfl (ow_move rfl ?_)
  refine rs_op rfl (ow_assign rfl ?_)
  refine rs_op rfl (ow_assign rfl ?_)
  refine rs_nil ?_
  refine ew_next ?_
  refine cw_ret ?_
  refine ew_block_ret ?_
  refine ew_then_ret ?_
  refine ew_ret (rs := [.tmp 2, .tmp 3]) (vs := [.float .f64 9218868437227405312, .int .i64 0]) rfl ⟨rfl, rfl, trivial⟩ ?_
  exact ⟨rfl, (LW.step E XLW).toBelow⟩
theorem re70_13 : Gives 70 #[.float .f64 9218868437227405312] (.tuple #[.float .f64 9218868437227405312, .int .i64 0]) := by
  intro w
  refine calls_cw Tryz.func70 rfl Tryz.ntmps70 rfl ?_
  have HF : Per (No) w (fun _ => True) := Per.true_
  have LW := Ext.refl (No) w
  have XLW : ∀ q9, (No) q9 → (No) q9 ∨ w.heap.size ≤ q9 := fun _ h => Or.inl h
  have E := Ext.refl (No) w
  refine cw_seq ?_
  refine cw_region ?_
  refine rs_op rfl (ow_assign rfl ?_)
  refine rs_op rfl (ow_assign rfl ?_)
  refine rs_nil ?_
  refine ew_next ?_
  refine cw_seq ?_
  refine cw_else rfl ?_
  refine cw_skip ?_
  refine ew_next ?_
  refine cw_seq ?_
  refine cw_region ?_
  refine rs_op rfl (ow_move rfl ?_)
  refine rs_op rfl (ow_enter en106 rfl ((re106_13 _).mono ?_))
  rintro e w1 ⟨rfl, hb⟩
  refine ⟨_, rfl, ?_⟩
  have Ec := Ext.of_below hb No
  replace E := E.trans Ec.no
  clear hb Ec
  refine rs_op rfl (ow_extract rfl rfl ?_)
  refine rs_op rfl (ow_extract rfl rfl ?_)
  refine rs_op rfl (ow_assign rfl ?_)
  refine rs_op rfl (ow_assign rfl ?_)
  refine rs_nil ?_
  refine ew_next ?_
  refine cw_ret ?_
  refine ew_ret (rs := [.tmp 2, .tmp 3]) (vs := [.float .f64 9218868437227405312, .int .i64 0]) rfl ⟨rfl, rfl, trivial⟩ ?_
  exact ⟨rfl, (LW.step E XLW).toBelow⟩
theorem re135_13 : Gives 135 #[.float .f64 13840687554816376832, .float .f64 9218868437227405312] (.float .f64 13840687554816376832) := by
  intro w
  refine calls_cw Tryz.func135 rfl Tryz.ntmps135 rfl ?_
  have HF : Per (No) w (fun _ => True) := Per.true_
  have LW := Ext.refl (No) w
  have XLW : ∀ q9, (No) q9 → (No) q9 ∨ w.heap.size ≤ q9 := fun _ h => Or.inl h
  have E := Ext.refl (No) w
  refine cw_seq ?_
  refine cw_region ?_
  refine rs_op rfl (ow_assign rfl ?_)
  refine rs_nil ?_
  refine ew_next ?_
  refine cw_seq ?_
  refine cw_seq ?_
  refine cw_region ?_
  refine rs_op rfl (ow_move rfl ?_)
  refine rs_op rfl (ow_feql rfl rfl ?_)
  refine rs_set 11 (.bool false) rfl (by kernel_rfl : (.bool (ford 9218868437227405312 0 == some .eq) : Value) = _) ?_
  refine rs_op rfl (ow_move rfl ?_)
  refine rs_op rfl (ow_on rfl (ow_move rfl ?_))
  refine rs_op rfl (ow_on rfl (ow_enter en61 rfl ((re61_7 _).mono ?_)))
  rintro e w1 ⟨rfl, hb⟩
  refine ⟨_, rfl, ?_⟩
  have Ec := Ext.of_below hb No
  replace E := E.trans Ec.no
  clear hb Ec
  refine rs_op rfl (ow_pickF rfl rfl ?_)
  refine rs_op rfl (ow_move rfl ?_)
  refine rs_op rfl (ow_on rfl (ow_move rfl ?_))
  refine rs_op rfl (ow_on rfl (ow_enter en138 rfl ((re138_8 _).mono ?_)))
  rintro e w2 ⟨rfl, hb⟩
  refine ⟨_, rfl, ?_⟩
  have Ec := Ext.of_below hb No
  replace E := E.trans Ec.no
  clear hb Ec
  refine rs_op rfl (ow_pickF rfl rfl ?_)
  refine rs_op rfl (ow_move rfl ?_)
  refine rs_op rfl (ow_on rfl (ow_move rfl ?_))
  refine rs_op rfl (ow_on rfl (ow_enter en138 rfl ((re138_9 _).mono ?_)))
  rintro e w3 ⟨rfl, hb⟩
  refine ⟨_, rfl, ?_⟩
  have Ec := Ext.of_below hb No
  replace E := E.trans Ec.no
  clear hb Ec
  refine rs_op rfl (ow_pickF rfl rfl ?_)
  refine rs_nil ?_
  refine ew_next ?_
  refine cw_else rfl ?_
  refine cw_skip ?_
  refine ew_next ?_
  refine cw_seq ?_
  refine cw_region ?_
  refine rs_op rfl (ow_move rfl ?_)
  refine rs_op rfl (ow_enter en71 rfl ((re71_10 _).mono ?_))
  rintro e w4 ⟨rfl, hb⟩
  refine ⟨_, rfl, ?_⟩
  have Ec := Ext.of_below hb No
  replace E := E.trans Ec.no
  clear hb Ec
  refine rs_op rfl (ow_assign rfl ?_)
  refine rs_nil ?_
  refine ew_next ?_
  refine cw_seq ?_
  refine cw_region ?_
  refine rs_op rfl (ow_move rfl ?_)
  refine rs_op rfl (ow_enter en70 rfl ((re70_13 _).mono ?_))
  rintro e w5 ⟨rfl, hb⟩
  refine ⟨_, rfl, ?_⟩
  have Ec := Ext.of_below hb No
  replace E := E.trans Ec.no
  clear hb Ec
  refine rs_op rfl (ow_move rfl ?_)
  refine rs_op rfl (ow_extract rfl rfl ?_)
  refine rs_op rfl (ow_extract rfl rfl ?_)
  refine rs_op rfl (ow_assign rfl ?_)
  refine rs_op rfl (ow_assign rfl ?_)
  refine rs_nil ?_
  refine ew_next ?_
  refine cw_seq ?_
  refine cw_region ?_
  refine rs_op rfl (ow_move rfl ?_)
  refine rs_op rfl (ow_assign rfl ?_)
  refine rs_nil ?_
  refine ew_next ?_
  refine cw_seq ?_
  refine cw_seq ?_
  refine cw_region ?_
  refine rs_op rfl (ow_move rfl ?_)
  refine rs_op rfl (ow_flss rfl rfl ?_)
  refine rs_set 34 (.bool true) rfl (by kernel_rfl : (.bool (ford 13840687554816376832 0 == some .lt) : Value) = _) ?_
  refine rs_nil ?_
  refine ew_next ?_
  refine cw_then rfl ?_
  refine cw_region ?_
  refine rs_op rfl (ow_move rfl ?_)
  refine rs_op rfl (ow_fneg rfl ?_)
  refine rs_set 36 (.float .f64 4617315517961601024) rfl (by kernel_rfl : (.float .f64 (13840687554816376832 ^^^ 9223372036854775808) : Value) = _) ?_
  refine rs_op rfl (ow_assign rfl ?_)
  refine rs_nil ?_
  refine ew_next ?_
  refine cw_seq ?_
  refine cw_block ?_
  refine cw_unroll ?_
  refine cw_seq ?_
  refine cw_seq ?_
  refine cw_region ?_
  refine rs_op rfl (ow_move rfl ?_)
  refine rs_op rfl (ow_move rfl ?_)
  refine rs_op rfl (ow_fgeq rfl rfl ?_)
  refine rs_set 39 (.bool false) rfl (by kernel_rfl : (.bool (ford 4617315517961601024 9218868437227405312 == some .gt || ford 4617315517961601024 9218868437227405312 == some .eq) : Value) = _) ?_
  refine rs_nil ?_
  refine ew_next ?_
  refine cw_else rfl ?_
  refine cw_exit ?_
  refine ew_then_exit ?_
  refine ew_then_exit ?_
  refine ew_block_here ?_
  refine ew_next ?_
  refine cw_seq ?_
  refine cw_seq ?_
  refine cw_region ?_
  refine rs_op rfl (ow_move rfl ?_)
  refine rs_op rfl (ow_flss rfl rfl ?_)
  refine rs_set 58 (.bool true) rfl (by kernel_rfl : (.bool (ford 13840687554816376832 0 == some .lt) : Value) = _) ?_
  refine rs_nil ?_
  refine ew_next ?_
  refine cw_then rfl ?_
  refine cw_region ?_
  refine rs_op rfl (ow_move rfl ?_)
  refine rs_op rfl (ow_fneg rfl ?_)
  refine rs_set 60 (.float .f64 13840687554816376832) rfl (by kernel_rfl : (.float .f64 (4617315517961601024 ^^^ 9223372036854775808) : Value) = _) ?_
  refine rs_op rfl (ow_assign rfl ?_)
  refine rs_nil ?_
  refine ew_next ?_
  refine cw_seq ?_
  refine cw_region ?_
  refine rs_op rfl (ow_move rfl ?_)
  refine rs_op rfl (ow_assign rfl ?_)
  refine rs_nil ?_
  refine ew_next ?_
  refine cw_ret ?_
  refine ew_ret (rs := [.tmp 4]) (vs := [.float .f64 13840687554816376832]) rfl ⟨rfl, trivial⟩ ?_
  exact ⟨rfl, (LW.step E XLW).toBelow⟩
theorem re102_13 : Gives 102 #[.float .f64 13840687554816376832, .float .f64 9218868437227405312] (.float .f64 13840687554816376832) := by
  intro w
  refine calls_cw Tryz.func102 rfl Tryz.ntmps102 rfl ?_
  have HF : Per (No) w (fun _ => True) := Per.true_
  have LW := Ext.refl (No) w
  have XLW : ∀ q9, (No) q9 → (No) q9 ∨ w.heap.size ≤ q9 := fun _ h => Or.inl h
  have E := Ext.refl (No) w
  refine cw_seq ?_
  refine cw_region ?_
  refine rs_op rfl (ow_assign rfl ?_)
  refine rs_nil ?_
  refine ew_next ?_
  refine cw_seq ?_
  refine cw_else rfl ?_
  refine cw_skip ?_
  refine ew_next ?_
  refine cw_seq ?_
  refine cw_region ?_
  refine rs_op rfl (ow_move rfl ?_)
  refine rs_op rfl (ow_move rfl ?_)
  refine rs_op rfl (ow_enter en135 rfl ((re135_13 _).mono ?_))
  rintro e w1 ⟨rfl, hb⟩
  refine ⟨_, rfl, ?_⟩
  have Ec := Ext.of_below hb No
  replace E := E.trans Ec.no
  clear hb Ec
  refine rs_op rfl (ow_assign rfl ?_)
  refine rs_nil ?_
  refine ew_next ?_
  refine cw_ret ?_
  refine ew_ret (rs := [.tmp 4]) (vs := [.float .f64 13840687554816376832]) rfl ⟨rfl, trivial⟩ ?_
  exact ⟨rfl, (LW.step E XLW).toBelow⟩
theorem re103_14 : Gives 103 #[.float .f64 13830554455654793216] (.float .f64 13830554455654793216) := by
  intro w
  refine calls_cw Tryz.func103 rfl Tryz.ntmps103 rfl ?_
  have HF : Per (No) w (fun _ => True) := Per.true_
  have LW := Ext.refl (No) w
  have XLW : ∀ q9, (No) q9 → (No) q9 ∨ w.heap.size ≤ q9 := fun _ h => Or.inl h
  have E := Ext.refl (No) w
  refine cw_seq ?_
  refine cw_region ?_
  refine rs_op rfl (ow_assign rfl ?_)
  refine rs_nil ?_
  refine ew_next ?_
  refine cw_seq ?_
  refine cw_then rfl ?_
  refine cw_seq ?_
  refine cw_region ?_
  refine rs_op rfl (ow_move rfl ?_)
  refine rs_op rfl (ow_round ex136 rfl (by kernel_rfl) ?_)
  refine rs_set 4 (.float .f64 13830554455654793216) rfl (by kernel_rfl : (.float .f64 (fround .down 13830554455654793216) : Value) = _) ?_
  refine rs_op rfl (ow_assign rfl ?_)
  refine rs_nil ?_
  refine ew_next ?_
  refine cw_ret ?_
  refine ew_then_ret ?_
  refine ew_ret (rs := [.tmp 2]) (vs := [.float .f64 13830554455654793216]) rfl ⟨rfl, trivial⟩ ?_
  exact ⟨rfl, (LW.step E XLW).toBelow⟩
theorem re66_14 : Gives 66 #[.float .f64 13840687554816376832, .float .f64 9218868437227405312] (.tuple #[.float .f64 13830554455654793216, .float .f64 9218868437227405312]) := by
  intro w
  refine calls_cw Tryz.func66 rfl Tryz.ntmps66 rfl ?_
  have HF : Per (No) w (fun _ => True) := Per.true_
  have LW := Ext.refl (No) w
  have XLW : ∀ q9, (No) q9 → (No) q9 ∨ w.heap.size ≤ q9 := fun _ h => Or.inl h
  have E := Ext.refl (No) w
  refine cw_seq ?_
  refine cw_region ?_
  refine rs_op rfl (ow_assign rfl ?_)
  refine rs_op rfl (ow_assign rfl ?_)
  refine rs_nil ?_
  refine ew_next ?_
  refine cw_seq ?_
  refine cw_region ?_
  refine rs_op rfl (ow_move rfl ?_)
  refine rs_op rfl (ow_move rfl ?_)
  refine rs_op rfl (ow_enter en102 rfl ((re102_13 _).mono ?_))
  rintro e w1 ⟨rfl, hb⟩
  refine ⟨_, rfl, ?_⟩
  have Ec := Ext.of_below hb No
  replace E := E.trans Ec.no
  clear hb Ec
  refine rs_op rfl (ow_assign rfl ?_)
  refine rs_nil ?_
  refine ew_next ?_
  refine cw_seq ?_
  refine cw_region ?_
  refine rs_op rfl (ow_move rfl ?_)
  refine rs_op rfl (ow_move rfl ?_)
  refine rs_op rfl (ow_fV (z := 0) (.inr (.inl rfl)) rfl rfl (by kernel_rfl) ?_)
  refine rs_op rfl (ow_move rfl ?_)
  refine rs_op rfl (ow_fV (z := 0) (.inr (.inr (.inr rfl))) rfl rfl (by kernel_rfl) ?_)
  refine rs_op rfl (ow_assign rfl ?_)
  refine rs_nil ?_
  refine ew_next ?_
  refine cw_seq ?_
  refine cw_seq ?_
  refine cw_region ?_
  refine rs_op rfl (ow_move rfl ?_)
  refine rs_op rfl (ow_fneq rfl rfl ?_)
  refine rs_set 18 (.bool true) rfl (by kernel_rfl : (.bool (ford 13840687554816376832 0 != some .eq) : Value) = _) ?_
  refine rs_nil ?_
  refine ew_next ?_
  refine cw_then rfl ?_
  refine cw_seq ?_
  refine cw_region ?_
  refine rs_op rfl (ow_move rfl ?_)
  refine rs_op rfl (ow_flss rfl rfl ?_)
  refine rs_set 20 (.bool true) rfl (by kernel_rfl : (.bool (ford 13840687554816376832 0 == some .lt) : Value) = _) ?_
  refine rs_op rfl (ow_move rfl ?_)
  refine rs_op rfl (ow_flss rfl rfl ?_)
  refine rs_set 22 (.bool false) rfl (by kernel_rfl : (.bool (ford 9218868437227405312 0 == some .lt) : Value) = _) ?_
  refine rs_op rfl (ow_neqB Tryz.underlying4 rfl rfl ?_)
  refine rs_nil ?_
  refine ew_next ?_
  refine cw_then rfl ?_
  refine cw_seq ?_
  refine cw_region ?_
  refine rs_op rfl (ow_move rfl ?_)
  refine rs_op rfl (ow_move rfl ?_)
  refine rs_op rfl (ow_fV (z := 9218868437227405312) (.inl rfl) rfl rfl (by kernel_rfl) ?_)
  refine rs_op rfl (ow_assign rfl ?_)
  refine rs_nil ?_
  refine ew_next ?_
  refine cw_region ?_
  refine rs_op rfl (ow_move rfl ?_)
  refine rs_op rfl (ow_fV (z := 13830554455654793216) (.inr (.inl rfl)) rfl rfl (by kernel_rfl) ?_)
  refine rs_op rfl (ow_assign rfl ?_)
  refine rs_nil ?_
  refine ew_next ?_
  refine cw_seq ?_
  refine cw_seq ?_
  refine cw_region ?_
  refine rs_op rfl (ow_move rfl ?_)
  refine rs_op rfl (ow_feql rfl rfl ?_)
  refine rs_set 32 (.bool false) rfl (by kernel_rfl : (.bool (ford 13830554455654793216 0 == some .eq) : Value) = _) ?_
  refine rs_nil ?_
  refine ew_next ?_
  refine cw_else rfl ?_
  refine cw_skip ?_
  refine ew_next ?_
  refine cw_seq ?_
  refine cw_region ?_
  refine rs_op rfl (ow_move rfl ?_)
  refine rs_op rfl (ow_enter en103 rfl ((re103_14 _).mono ?_))
  rintro e w2 ⟨rfl, hb⟩
  refine ⟨_, rfl, ?_⟩
  have Ec := Ext.of_below hb No
  replace E := E.trans Ec.no
  clear hb Ec
  refine rs_op rfl (ow_assign rfl ?_)
  refine rs_nil ?_
  refine ew_next ?_
  refine cw_seq ?_
  refine cw_seq ?_
  refine cw_region ?_
  refine rs_op rfl (ow_move rfl ?_)
  refine rs_op rfl (ow_move rfl ?_)
  refine rs_op rfl (ow_fV (z := 0) (.inr (.inl rfl)) rfl rfl (by kernel_rfl) ?_)
  refine rs_op rfl (ow_fgtr rfl rfl ?_)
  refine rs_set 43 (.bool false) rfl (by kernel_rfl : (.bool (ford 0 4602678819172646912 == some .gt) : Value) = _) ?_
  refine rs_nil ?_
  refine ew_next ?_
  refine cw_else rfl ?_
  refine cw_skip ?_
  refine ew_next ?_
  refine cw_seq ?_
  refine cw_region ?_
  refine rs_op rfl (ow_move rfl ?_)
  refine rs_op rfl (ow_move rfl ?_)
  refine rs_op rfl (ow_assign rfl ?_)
  refine rs_op rfl (ow_assign rfl ?_)
  refine rs_nil ?_
  refine ew_next ?_
  refine cw_ret ?_
  refine ew_ret (rs := [.tmp 4, .tmp 5]) (vs := [.float .f64 13830554455654793216, .float .f64 9218868437227405312]) rfl ⟨rfl, rfl, trivial⟩ ?_
  exact ⟨rfl, (LW.step E XLW).toBelow⟩
theorem re57_15 : Gives 57 #[.float .f64 9218868437227405312] (.int .u64 9218868437227405312) := by
  intro w
  refine calls_cw Tryz.func57 rfl Tryz.ntmps57 rfl ?_
  have HF : Per (No) w (fun _ => True) := Per.true_
  have LW := Ext.refl (No) w
  have XLW : ∀ q9, (No) q9 → (No) q9 ∨ w.heap.size ≤ q9 := fun _ h => Or.inl h
  have E := Ext.refl (No) w
  refine cw_seq ?_
  refine cw_region ?_
  refine rs_op rfl (ow_assign rfl ?_)
  refine rs_nil ?_
  refine ew_next ?_
  refine cw_seq ?_
  refine cw_seq ?_
  refine cw_region ?_
  refine rs_op rfl (ow_move rfl ?_)
  refine rs_op rfl (ow_move rfl ?_)
  refine rs_op rfl (ow_fneq rfl rfl ?_)
  refine rs_set 5 (.bool false) rfl (by kernel_rfl : (.bool (ford 9218868437227405312 9218868437227405312 != some .eq) : Value) = _) ?_
  refine rs_nil ?_
  refine ew_next ?_
  refine cw_else rfl ?_
  refine cw_skip ?_
  refine ew_next ?_
  refine cw_seq ?_
  refine cw_region ?_
  refine rs_op rfl (ow_move rfl ?_)
  refine rs_op rfl (ow_bits ex59 rfl ?_)
  refine rs_op rfl (ow_assign rfl ?_)
  refine rs_nil ?_
  refine ew_next ?_
  refine cw_ret ?_
  refine ew_ret (rs := [.tmp 2]) (vs := [.int .u64 9218868437227405312]) rfl ⟨rfl, trivial⟩ ?_
  exact ⟨rfl, (LW.step E XLW).toBelow⟩
theorem re21_15 : Gives 21 #[.int .u64 13840687554816376832, .int .u64 9218868437227405312] (.tuple #[.int .u64 9218868437227405312, .int .i64 0]) := by
  intro w
  refine calls_cw Tryz.func21 rfl Tryz.ntmps21 rfl ?_
  have HF : Per (No) w (fun _ => True) := Per.true_
  have LW := Ext.refl (No) w
  have XLW : ∀ q9, (No) q9 → (No) q9 ∨ w.heap.size ≤ q9 := fun _ h => Or.inl h
  have E := Ext.refl (No) w
  refine cw_seq ?_
  refine cw_region ?_
  refine rs_op rfl (ow_assign rfl ?_)
  refine rs_op rfl (ow_assign rfl ?_)
  refine rs_nil ?_
  refine ew_next ?_
  refine cw_seq ?_
  refine cw_region ?_
  refine rs_op rfl (ow_move rfl ?_)
  refine rs_op rfl (ow_frombits (b := 9218868437227405312) ex60 rfl ?_)
  refine rs_op rfl (ow_assign rfl ?_)
  refine rs_nil ?_
  refine ew_next ?_
  refine cw_seq ?_
  refine cw_seq ?_
  refine cw_region ?_
  refine rs_op rfl (ow_move rfl ?_)
  refine rs_op rfl (ow_feql rfl rfl ?_)
  refine rs_set 12 (.bool false) rfl (by kernel_rfl : (.bool (ford 9218868437227405312 0 == some .eq) : Value) = _) ?_
  refine rs_nil ?_
  refine ew_next ?_
  refine cw_else rfl ?_
  refine cw_skip ?_
  refine ew_next ?_
  refine cw_seq ?_
  refine cw_region ?_
  refine rs_op rfl (ow_move rfl ?_)
  refine rs_op rfl (ow_frombits (b := 13840687554816376832) ex60 rfl ?_)
  refine rs_op rfl (ow_move rfl ?_)
  refine rs_op rfl (ow_enter en66 rfl ((re66_14 _).mono ?_))
  rintro e w1 ⟨rfl, hb⟩
  refine ⟨_, rfl, ?_⟩
  have Ec := Ext.of_below hb No
  replace E := E.trans Ec.no
  clear hb Ec
  refine rs_op rfl (ow_move rfl ?_)
  refine rs_op rfl (ow_extract rfl rfl ?_)
  refine rs_op rfl (ow_extract rfl rfl ?_)
  refine rs_op rfl (ow_assign rfl ?_)
  refine rs_op rfl (ow_assign rfl ?_)
  refine rs_nil ?_
  refine ew_next ?_
  refine cw_seq ?_
  refine cw_region ?_
  refine rs_op rfl (ow_move rfl ?_)
  refine rs_op rfl (ow_enter en57 rfl ((re57_15 _).mono ?_))
  rintro e w2 ⟨rfl, hb⟩
  refine ⟨_, rfl, ?_⟩
  have Ec := Ext.of_below hb No
  replace E := E.trans Ec.no
  clear hb Ec
  refine rs_op rfl (ow_assign rfl ?_)
  refine rs_op rfl (ow_assign rfl ?_)
  refine rs_nil ?_
  refine ew_next ?_
  refine cw_ret ?_
  refine ew_ret (rs := [.tmp 4, .tmp 5]) (vs := [.int .u64 9218868437227405312, .int .i64 0]) rfl ⟨rfl, rfl, trivial⟩ ?_
  exact ⟨rfl, (LW.step E XLW).toBelow⟩
theorem re123_19 : Gives 123 #[.string ⟨#[45, 110, 97, 110]⟩, .string ⟨#[45]⟩] (.bool true) := by
  intro w
  refine calls_cw Tryz.func123 rfl Tryz.ntmps123 rfl ?_
  have HF : Per (No) w (fun _ => True) := Per.true_
  have LW := Ext.refl (No) w
  have XLW : ∀ q9, (No) q9 → (No) q9 ∨ w.heap.size ≤ q9 := fun _ h => Or.inl h
  have E := Ext.refl (No) w
  refine cw_seq ?_
  refine cw_region ?_
  refine rs_op rfl (ow_assign rfl ?_)
  refine rs_nil ?_
  refine ew_next ?_
  refine cw_seq ?_
  refine cw_region ?_
  refine rs_op rfl (ow_move rfl ?_)
  refine rs_op rfl (ow_lenS Tryz.underlying9 rfl ?_)
  refine rs_op rfl (ow_move rfl ?_)
  refine rs_op rfl (ow_lenS Tryz.underlying9 rfl ?_)
  refine rs_op rfl (ow_geq rfl rfl ?_)
  refine rs_op rfl (ow_move rfl ?_)
  refine rs_op rfl (ow_on rfl (ow_move rfl ?_))
  refine rs_op rfl (ow_on rfl (ow_move rfl ?_))
  refine rs_op rfl (ow_on rfl (ow_lenS Tryz.underlying9 rfl ?_))
  refine rs_op rfl (ow_on rfl (ow_sliceS (l := 0) (h := 1) Tryz.underlying9 rfl rfl ⟨_, rfl⟩ (by decide) (by decide) ?_))
  refine rs_set 14 (.string ⟨#[45]⟩) rfl (by kernel_rfl : (.string ((⟨#[45, 110, 97, 110]⟩ : ByteArray).extract 0 1) : Value) = _) ?_
  refine rs_op rfl (ow_on rfl (ow_move rfl ?_))
  refine rs_op rfl (ow_on rfl (ow_eqlS rfl rfl ?_))
  refine rs_set 16 (.bool true) rfl (by simp only [bytes_list]; rfl : (.bool ((⟨#[45]⟩ : ByteArray).toList == (⟨#[45]⟩ : ByteArray).toList) : Value) = _) ?_
  refine rs_op rfl (ow_pickT rfl rfl ?_)
  refine rs_op rfl (ow_assign rfl ?_)
  refine rs_nil ?_
  refine ew_next ?_
  refine cw_ret ?_
  refine ew_ret (rs := [.tmp 4]) (vs := [.bool true]) rfl ⟨rfl, trivial⟩ ?_
  exact ⟨rfl, (LW.step E XLW).toBelow⟩
theorem re92_19 : Gives 92 #[.string ⟨#[45, 110, 97, 110]⟩, .string ⟨#[45]⟩] (.tuple #[.string ⟨#[110, 97, 110]⟩, .bool true]) := by
  intro w
  refine calls_cw Tryz.func92 rfl Tryz.ntmps92 rfl ?_
  have HF : Per (No) w (fun _ => True) := Per.true_
  have LW := Ext.refl (No) w
  have XLW : ∀ q9, (No) q9 → (No) q9 ∨ w.heap.size ≤ q9 := fun _ h => Or.inl h
  have E := Ext.refl (No) w
  refine cw_seq ?_
  refine cw_region ?_
  refine rs_op rfl (ow_assign rfl ?_)
  refine rs_op rfl (ow_assign rfl ?_)
  refine rs_nil ?_
  refine ew_next ?_
  refine cw_seq ?_
  refine cw_seq ?_
  refine cw_region ?_
  refine rs_op rfl (ow_move rfl ?_)
  refine rs_op rfl (ow_move rfl ?_)
  refine rs_op rfl (ow_enter en123 rfl ((re123_19 _).mono ?_))
  rintro e w1 ⟨rfl, hb⟩
  refine ⟨_, rfl, ?_⟩
  have Ec := Ext.of_below hb No
  replace E := E.trans Ec.no
  clear hb Ec
  refine rs_op rfl (ow_not rfl ?_)
  refine rs_nil ?_
  refine ew_next ?_
  refine cw_else rfl ?_
  refine cw_skip ?_
  refine ew_next ?_
  refine cw_seq ?_
  refine cw_region ?_
  refine rs_op rfl (ow_move rfl ?_)
  refine rs_op rfl (ow_move rfl ?_)
  refine rs_op rfl (ow_lenS Tryz.underlying9 rfl ?_)
  refine rs_op rfl (ow_sliceS (l := 1) (h := 4) Tryz.underlying9 rfl ⟨_, rfl⟩ rfl (by decide) (by decide) ?_)
  refine rs_set 14 (.string ⟨#[110, 97, 110]⟩) rfl (by kernel_rfl : (.string ((⟨#[45, 110, 97, 110]⟩ : ByteArray).extract 1 4) : Value) = _) ?_
  refine rs_op rfl (ow_assign rfl ?_)
  refine rs_op rfl (ow_assign rfl ?_)
  refine rs_nil ?_
  refine ew_next ?_
  refine cw_ret ?_
  refine ew_ret (rs := [.tmp 4, .tmp 5]) (vs := [.string ⟨#[110, 97, 110]⟩, .bool true]) rfl ⟨rfl, rfl, trivial⟩ ?_
  exact ⟨rfl, (LW.step E XLW).toBelow⟩
theorem re52_19 : Gives 52 #[.string ⟨#[45, 110, 97, 110]⟩, .string ⟨#[45]⟩] (.tuple #[.string ⟨#[110, 97, 110]⟩, .bool true]) := by
  intro w
  refine calls_cw Tryz.func52 rfl Tryz.ntmps52 rfl ?_
  have HF : Per (No) w (fun _ => True) := Per.true_
  have LW := Ext.refl (No) w
  have XLW : ∀ q9, (No) q9 → (No) q9 ∨ w.heap.size ≤ q9 := fun _ h => Or.inl h
  have E := Ext.refl (No) w
  refine cw_seq ?_
  refine cw_region ?_
  refine rs_op rfl (ow_assign rfl ?_)
  refine rs_op rfl (ow_assign rfl ?_)
  refine rs_nil ?_
  refine ew_next ?_
  refine cw_seq ?_
  refine cw_region ?_
  refine rs_op rfl (ow_move rfl ?_)
  refine rs_op rfl (ow_move rfl ?_)
  refine rs_op rfl (ow_enter en92 rfl ((re92_19 _).mono ?_))
  rintro e w1 ⟨rfl, hb⟩
  refine ⟨_, rfl, ?_⟩
  have Ec := Ext.of_below hb No
  replace E := E.trans Ec.no
  clear hb Ec
  refine rs_op rfl (ow_extract rfl rfl ?_)
  refine rs_op rfl (ow_extract rfl rfl ?_)
  refine rs_op rfl (ow_assign rfl ?_)
  refine rs_op rfl (ow_assign rfl ?_)
  refine rs_nil ?_
  refine ew_next ?_
  refine cw_ret ?_
  refine ew_ret (rs := [.tmp 4, .tmp 5]) (vs := [.string ⟨#[110, 97, 110]⟩, .bool true]) rfl ⟨rfl, rfl, trivial⟩ ?_
  exact ⟨rfl, (LW.step E XLW).toBelow⟩
theorem re14_19 : Gives 14 #[.string ⟨#[45, 110, 97, 110]⟩] (.tuple #[.int .u64 9221120237041090560, .int .i64 0]) := by
  intro w
  refine calls_cw Tryz.func14 rfl Tryz.ntmps14 rfl ?_
  have HF : Per (No) w (fun _ => True) := Per.true_
  have LW := Ext.refl (No) w
  have XLW : ∀ q9, (No) q9 → (No) q9 ∨ w.heap.size ≤ q9 := fun _ h => Or.inl h
  have E := Ext.refl (No) w
  refine cw_seq ?_
  refine cw_region ?_
  refine rs_op rfl (ow_assign rfl ?_)
  refine rs_op rfl (ow_assign rfl ?_)
  refine rs_nil ?_
  refine ew_next ?_
  refine cw_seq ?_
  refine cw_seq ?_
  refine cw_region ?_
  refine rs_op rfl (ow_move rfl ?_)
  refine rs_op rfl (ow_lenS Tryz.underlying9 rfl ?_)
  refine rs_op rfl (ow_gtr rfl rfl ?_)
  refine rs_nil ?_
  refine ew_next ?_
  refine cw_else rfl ?_
  refine cw_skip ?_
  refine ew_next ?_
  refine cw_seq ?_
  refine cw_region ?_
  refine rs_op rfl (ow_move rfl ?_)
  refine rs_op rfl (ow_enter en52 rfl ((re52_19 _).mono ?_))
  rintro e w1 ⟨rfl, hb⟩
  refine ⟨_, rfl, ?_⟩
  have Ec := Ext.of_below hb No
  replace E := E.trans Ec.no
  clear hb Ec
  refine rs_op rfl (ow_move rfl ?_)
  refine rs_op rfl (ow_extract rfl rfl ?_)
  refine rs_op rfl (ow_extract rfl rfl ?_)
  refine rs_op rfl (ow_assign rfl ?_)
  refine rs_op rfl (ow_assign rfl ?_)
  refine rs_nil ?_
  refine ew_next ?_
  refine cw_seq ?_
  refine cw_region ?_
  refine rs_op rfl (ow_assign rfl ?_)
  refine rs_nil ?_
  refine ew_next ?_
  refine cw_seq ?_
  refine cw_block ?_
  refine cw_seq ?_
  refine cw_region ?_
  refine rs_op rfl (ow_move rfl ?_)
  refine rs_op rfl (ow_eqlS rfl rfl ?_)
  refine rs_set 17 (.bool false) rfl (by simp only [bytes_list]; rfl : (.bool ((⟨#[110, 97, 110]⟩ : ByteArray).toList == (⟨#[105, 110, 102]⟩ : ByteArray).toList) : Value) = _) ?_
  refine rs_op rfl (ow_assign rfl ?_)
  refine rs_nil ?_
  refine ew_next ?_
  refine cw_else rfl ?_
  refine cw_seq ?_
  refine cw_region ?_
  refine rs_op rfl (ow_move rfl ?_)
  refine rs_op rfl (ow_eqlS rfl rfl ?_)
  refine rs_set 21 (.bool true) rfl (by simp only [bytes_list]; rfl : (.bool ((⟨#[110, 97, 110]⟩ : ByteArray).toList == (⟨#[110, 97, 110]⟩ : ByteArray).toList) : Value) = _) ?_
  refine rs_op rfl (ow_assign rfl ?_)
  refine rs_nil ?_
  refine ew_next ?_
  refine cw_then rfl ?_
  refine cw_seq ?_
  refine cw_region ?_
  refine rs_op rfl (ow_assign rfl ?_)
  refine rs_op rfl (ow_assign rfl ?_)
  refine rs_nil ?_
  refine ew_next ?_
  refine cw_ret ?_
  refine ew_block_ret ?_
  refine ew_then_ret ?_
  refine ew_ret (rs := [.tmp 2, .tmp 3]) (vs := [.int .u64 9221120237041090560, .int .i64 0]) rfl ⟨rfl, rfl, trivial⟩ ?_
  exact ⟨rfl, (LW.step E XLW).toBelow⟩
theorem re71_22 : Gives 71 #[.float .f64 9223372036854775808] (.float .f64 0) := by
  intro w
  refine calls_cw Tryz.func71 rfl Tryz.ntmps71 rfl ?_
  have HF : Per (No) w (fun _ => True) := Per.true_
  have LW := Ext.refl (No) w
  have XLW : ∀ q9, (No) q9 → (No) q9 ∨ w.heap.size ≤ q9 := fun _ h => Or.inl h
  have E := Ext.refl (No) w
  refine cw_seq ?_
  refine cw_region ?_
  refine rs_op rfl (ow_assign rfl ?_)
  refine rs_nil ?_
  refine ew_next ?_
  refine cw_seq ?_
  refine cw_region ?_
  refine rs_op rfl (ow_move rfl ?_)
  refine rs_op rfl (ow_bits ex59 rfl ?_)
  refine rs_op rfl (ow_andNot (z := 0) rfl rfl (by kernel_rfl) ?_)
  refine rs_op rfl (ow_frombits (b := 0) ex60 rfl ?_)
  refine rs_op rfl (ow_assign rfl ?_)
  refine rs_nil ?_
  refine ew_next ?_
  refine cw_ret ?_
  refine ew_ret (rs := [.tmp 2]) (vs := [.float .f64 0]) rfl ⟨rfl, trivial⟩ ?_
  exact ⟨rfl, (LW.step E XLW).toBelow⟩
theorem re61_22 : Gives 61 #[.float .f64 9223372036854775808, .int .i64 0] (.bool false) := by
  intro w
  refine calls_cw Tryz.func61 rfl Tryz.ntmps61 rfl ?_
  have HF : Per (No) w (fun _ => True) := Per.true_
  have LW := Ext.refl (No) w
  have XLW : ∀ q9, (No) q9 → (No) q9 ∨ w.heap.size ≤ q9 := fun _ h => Or.inl h
  have E := Ext.refl (No) w
  refine cw_seq ?_
  refine cw_region ?_
  refine rs_op rfl (ow_assign rfl ?_)
  refine rs_nil ?_
  refine ew_next ?_
  refine cw_seq ?_
  refine cw_seq ?_
  refine cw_region ?_
  refine rs_op rfl (ow_move rfl ?_)
  refine rs_op rfl (ow_eql rfl rfl ?_)
  refine rs_nil ?_
  refine ew_next ?_
  refine cw_then rfl ?_
  refine cw_region ?_
  refine rs_op rfl (ow_move rfl ?_)
  refine rs_op rfl (ow_enter en71 rfl ((re71_22 _).mono ?_))
  rintro e w1 ⟨rfl, hb⟩
  refine ⟨_, rfl, ?_⟩
  have Ec := Ext.of_below hb No
  replace E := E.trans Ec.no
  clear hb Ec
  refine rs_op rfl (ow_assign rfl ?_)
  refine rs_nil ?_
  refine ew_next ?_
  refine cw_seq ?_
  refine cw_region ?_
  refine rs_op rfl (ow_move rfl ?_)
  refine rs_op rfl (ow_fgtr rfl rfl ?_)
  refine rs_set 14 (.bool false) rfl (by kernel_rfl : (.bool (ford 0 9218868437227405311 == some .gt) : Value) = _) ?_
  refine rs_op rfl (ow_assign rfl ?_)
  refine rs_nil ?_
  refine ew_next ?_
  refine cw_ret ?_
  refine ew_ret (rs := [.tmp 4]) (vs := [.bool false]) rfl ⟨rfl, trivial⟩ ?_
  exact ⟨rfl, (LW.step E XLW).toBelow⟩
section
variable (a b : Nat) (ha : a < 18446744073709551616) (hb : b < 18446744073709551616) (w : World) (hT : ∀ b, Below w.heap.size w b → Ten b) (hD : ∀ b, Below w.heap.size w b → TabD b)
include ha hb hT hD
omit hb in
theorem edges_az (hA : isN a = true) (hz : isZ b = true) : Calls Tryz.prog 7 #[.int .u64 ((a : Nat) : Int), .int .u64 ((b : Nat) : Int)] w fun e w' => e = .returned (.bool true) ∧ Below w.heap.size w w' := by
  have hn : isN a = true ∨ isN b = true := .inl hA
  have ho : ordered a b = false := by rw [ordered, hA]; simp
  refine calls_cw Tryz.func7 rfl Tryz.ntmps7 rfl ?_
  have HF : Per (No) w (fun _ => True) := Per.true_
  have LW := Ext.refl (No) w
  have XLW : ∀ q9, (No) q9 → (No) q9 ∨ w.heap.size ≤ q9 := fun _ h => Or.inl h
  have E := Ext.refl (No) w
  refine cw_seq ?_
  refine cw_region ?_
  refine rs_op rfl (ow_assign rfl ?_)
  refine rs_nil ?_
  refine ew_next ?_
  refine cw_seq ?_
  refine cw_seq ?_
  refine cw_region ?_
  refine rs_op rfl (ow_enter en16 rfl ((known_any _ hT hD).mono ?_))
  rintro e w1 ⟨rfl, hb⟩
  refine ⟨_, rfl, ?_⟩
  have XC : ∀ q9, (No) q9 → q9 < w.heap.size := Mut.none_
  have SC := Nat.le_trans LW.size E.size
  have SE := E.size
  have Ec := Ext.of_below hb No
  replace E := E.trans Ec.no
  clear hb Ec
  refine rs_op rfl (ow_not rfl ?_)
  refine rs_nil ?_
  refine ew_next ?_
  refine cw_else rfl ?_
  refine cw_skip ?_
  refine ew_next ?_
  refine cw_seq ?_
  refine cw_region ?_
  refine rs_op rfl (ow_move rfl ?_)
  refine rs_op rfl (ow_move rfl ?_)
  refine rs_op rfl (ow_enter en33 rfl ((cmp_any_r _ a b).mono ?_))
  rintro e w2 ⟨rfl, hb⟩
  refine ⟨_, rfl, ?_⟩
  have XC : ∀ q9, (No) q9 → q9 < w1.heap.size := Mut.none_
  have SC := Nat.le_trans LW.size E.size
  have SE := E.size
  have Ec := Ext.of_below hb No
  replace E := E.trans Ec.no
  clear hb Ec
  refine rs_set 21 (.tuple #[.int .i64 (cmpF a b), .bool false]) rfl ((by rw [ho] : (.tuple #[.int .i64 (cmpF a b), .bool (ordered a b)] : Value) = _)) ?_
  refine rs_op rfl (ow_move rfl ?_)
  refine rs_op rfl (ow_extract rfl rfl ?_)
  refine rs_op rfl (ow_extract rfl rfl ?_)
  refine rs_op rfl (ow_assign rfl ?_)
  refine rs_op rfl (ow_assign rfl ?_)
  refine rs_nil ?_
  refine ew_next ?_
  refine cw_seq ?_
  refine cw_seq ?_
  refine cw_region ?_
  refine rs_op rfl (ow_move rfl ?_)
  refine rs_op rfl (ow_enter en18 rfl ((isnan_any _ a ha).mono ?_))
  rintro e w3 ⟨rfl, hb⟩
  refine ⟨_, rfl, ?_⟩
  have XC : ∀ q9, (No) q9 → q9 < w2.heap.size := Mut.none_
  have SC := Nat.le_trans LW.size E.size
  have SE := E.size
  have Ec := Ext.of_below hb No
  replace E := E.trans Ec.no
  clear hb Ec
  refine rs_set 25 (.bool true) rfl ((by rw [hA] : (.bool (isN a) : Value) = _)) ?_
  refine rs_op rfl (ow_move rfl ?_)
  refine rs_op rfl (ow_off rfl ?_)
  refine rs_op rfl (ow_off rfl ?_)
  refine rs_op rfl (ow_pickT rfl rfl ?_)
  refine rs_nil ?_
  refine ew_next ?_
  refine cw_then rfl ?_
  refine cw_seq ?_
  refine cw_region ?_
  refine rs_op rfl (ow_move rfl ?_)
  refine rs_op rfl (ow_move rfl ?_)
  refine rs_op rfl (ow_enter en23 rfl ((div_any_r _ a b).mono ?_))
  rintro e w4 ⟨rfl, hb⟩
  refine ⟨_, rfl, ?_⟩
  have XC : ∀ q9, (No) q9 → q9 < w3.heap.size := Mut.none_
  have SC := Nat.le_trans LW.size E.size
  have SE := E.size
  have Ec := Ext.of_below hb No
  replace E := E.trans Ec.no
  clear hb Ec
  refine rs_set 33 (.tuple #[.int .u64 0, .int .i64 6]) rfl (div_nan_zero hz) ?_
  refine rs_op rfl (ow_move rfl ?_)
  refine rs_op rfl (ow_extract rfl rfl ?_)
  refine rs_op rfl (ow_extract rfl rfl ?_)
  refine rs_op rfl (ow_assign rfl ?_)
  refine rs_op rfl (ow_assign rfl ?_)
  refine rs_nil ?_
  refine ew_next ?_
  refine cw_seq ?_
  refine cw_region ?_
  refine rs_op rfl (ow_move rfl ?_)
  refine rs_op rfl (ow_not rfl ?_)
  refine rs_op rfl (ow_move rfl ?_)
  refine rs_op rfl (ow_on rfl (ow_move rfl ?_))
  refine rs_op rfl (ow_on rfl (ow_move rfl ?_))
  refine rs_op rfl (ow_on rfl (ow_enter en27 rfl ((add_any_r _ a b).mono ?_)))
  rintro e w5 ⟨rfl, hb⟩
  refine ⟨_, rfl, ?_⟩
  have XC : ∀ q9, (No) q9 → q9 < w4.heap.size := Mut.none_
  have SC := Nat.le_trans LW.size E.size
  have SE := E.size
  have Ec := Ext.of_below hb No
  replace E := E.trans Ec.no
  clear hb Ec
  refine rs_set 41 (.int .u64 9221120237041090560) rfl ((by rw [ansF_nan hn]; rfl : (.int .u64 ((ansF (fop .add a b) : Nat) : Int) : Value) = _)) ?_
  refine rs_op rfl (ow_on rfl (ow_eql rfl rfl ?_))
  refine rs_op rfl (ow_pickT rfl rfl ?_)
  refine rs_op rfl (ow_move rfl ?_)
  refine rs_op rfl (ow_on rfl (ow_move rfl ?_))
  refine rs_op rfl (ow_on rfl (ow_move rfl ?_))
  refine rs_op rfl (ow_on rfl (ow_enter en29 rfl ((sub_any_r _ b a).mono ?_)))
  rintro e w6 ⟨rfl, hb⟩
  refine ⟨_, rfl, ?_⟩
  have XC : ∀ q9, (No) q9 → q9 < w5.heap.size := Mut.none_
  have SC := Nat.le_trans LW.size E.size
  have SE := E.size
  have Ec := Ext.of_below hb No
  replace E := E.trans Ec.no
  clear hb Ec
  refine rs_set 47 (.int .u64 9221120237041090560) rfl ((by rw [ansF_nan hn.symm]; rfl : (.int .u64 ((ansF (fop .sub b a) : Nat) : Int) : Value) = _)) ?_
  refine rs_op rfl (ow_on rfl (ow_eql rfl rfl ?_))
  refine rs_op rfl (ow_pickT rfl rfl ?_)
  refine rs_op rfl (ow_move rfl ?_)
  refine rs_op rfl (ow_on rfl (ow_move rfl ?_))
  refine rs_op rfl (ow_on rfl (ow_move rfl ?_))
  refine rs_op rfl (ow_on rfl (ow_enter en31 rfl ((mul_any_r _ a b).mono ?_)))
  rintro e w7 ⟨rfl, hb⟩
  refine ⟨_, rfl, ?_⟩
  have XC : ∀ q9, (No) q9 → q9 < w6.heap.size := Mut.none_
  have SC := Nat.le_trans LW.size E.size
  have SE := E.size
  have Ec := Ext.of_below hb No
  replace E := E.trans Ec.no
  clear hb Ec
  refine rs_set 53 (.int .u64 9221120237041090560) rfl ((by rw [ansF_nan hn]; rfl : (.int .u64 ((ansF (fop .mul a b) : Nat) : Int) : Value) = _)) ?_
  refine rs_op rfl (ow_on rfl (ow_eql rfl rfl ?_))
  refine rs_op rfl (ow_pickT rfl rfl ?_)
  refine rs_op rfl (ow_move rfl ?_)
  refine rs_op rfl (ow_on rfl (ow_move rfl ?_))
  refine rs_op rfl (ow_on rfl (ow_eql rfl rfl ?_))
  refine rs_op rfl (ow_on rfl (ow_move rfl ?_))
  refine rs_op rfl (ow_off rfl ?_)
  refine rs_op rfl (ow_off rfl ?_)
  refine rs_op rfl (ow_on rfl (ow_pickT rfl rfl ?_))
  refine rs_op rfl (ow_pickT rfl rfl ?_)
  refine rs_op rfl (ow_assign rfl ?_)
  refine rs_nil ?_
  refine ew_next ?_
  refine cw_ret ?_
  refine ew_then_ret ?_
  refine ew_ret (rs := [.tmp 4]) (vs := [_]) rfl ⟨rfl, trivial⟩ ?_
  exact ⟨rfl, (LW.step E XLW).toBelow⟩
omit hb in
theorem edges_an (hA : isN a = true) (hz : isZ b = false) : Calls Tryz.prog 7 #[.int .u64 ((a : Nat) : Int), .int .u64 ((b : Nat) : Int)] w fun e w' => e = .returned (.bool true) ∧ Below w.heap.size w w' := by
  have hn : isN a = true ∨ isN b = true := .inl hA
  have ho : ordered a b = false := by rw [ordered, hA]; simp
  refine calls_cw Tryz.func7 rfl Tryz.ntmps7 rfl ?_
  have HF : Per (No) w (fun _ => True) := Per.true_
  have LW := Ext.refl (No) w
  have XLW : ∀ q9, (No) q9 → (No) q9 ∨ w.heap.size ≤ q9 := fun _ h => Or.inl h
  have E := Ext.refl (No) w
  refine cw_seq ?_
  refine cw_region ?_
  refine rs_op rfl (ow_assign rfl ?_)
  refine rs_nil ?_
  refine ew_next ?_
  refine cw_seq ?_
  refine cw_seq ?_
  refine cw_region ?_
  refine rs_op rfl (ow_enter en16 rfl ((known_any _ hT hD).mono ?_))
  rintro e w1 ⟨rfl, hb⟩
  refine ⟨_, rfl, ?_⟩
  have XC : ∀ q9, (No) q9 → q9 < w.heap.size := Mut.none_
  have SC := Nat.le_trans LW.size E.size
  have SE := E.size
  have Ec := Ext.of_below hb No
  replace E := E.trans Ec.no
  clear hb Ec
  refine rs_op rfl (ow_not rfl ?_)
  refine rs_nil ?_
  refine ew_next ?_
  refine cw_else rfl ?_
  refine cw_skip ?_
  refine ew_next ?_
  refine cw_seq ?_
  refine cw_region ?_
  refine rs_op rfl (ow_move rfl ?_)
  refine rs_op rfl (ow_move rfl ?_)
  refine rs_op rfl (ow_enter en33 rfl ((cmp_any_r _ a b).mono ?_))
  rintro e w2 ⟨rfl, hb⟩
  refine ⟨_, rfl, ?_⟩
  have XC : ∀ q9, (No) q9 → q9 < w1.heap.size := Mut.none_
  have SC := Nat.le_trans LW.size E.size
  have SE := E.size
  have Ec := Ext.of_below hb No
  replace E := E.trans Ec.no
  clear hb Ec
  refine rs_set 21 (.tuple #[.int .i64 (cmpF a b), .bool false]) rfl ((by rw [ho] : (.tuple #[.int .i64 (cmpF a b), .bool (ordered a b)] : Value) = _)) ?_
  refine rs_op rfl (ow_move rfl ?_)
  refine rs_op rfl (ow_extract rfl rfl ?_)
  refine rs_op rfl (ow_extract rfl rfl ?_)
  refine rs_op rfl (ow_assign rfl ?_)
  refine rs_op rfl (ow_assign rfl ?_)
  refine rs_nil ?_
  refine ew_next ?_
  refine cw_seq ?_
  refine cw_seq ?_
  refine cw_region ?_
  refine rs_op rfl (ow_move rfl ?_)
  refine rs_op rfl (ow_enter en18 rfl ((isnan_any _ a ha).mono ?_))
  rintro e w3 ⟨rfl, hb⟩
  refine ⟨_, rfl, ?_⟩
  have XC : ∀ q9, (No) q9 → q9 < w2.heap.size := Mut.none_
  have SC := Nat.le_trans LW.size E.size
  have SE := E.size
  have Ec := Ext.of_below hb No
  replace E := E.trans Ec.no
  clear hb Ec
  refine rs_set 25 (.bool true) rfl ((by rw [hA] : (.bool (isN a) : Value) = _)) ?_
  refine rs_op rfl (ow_move rfl ?_)
  refine rs_op rfl (ow_off rfl ?_)
  refine rs_op rfl (ow_off rfl ?_)
  refine rs_op rfl (ow_pickT rfl rfl ?_)
  refine rs_nil ?_
  refine ew_next ?_
  refine cw_then rfl ?_
  refine cw_seq ?_
  refine cw_region ?_
  refine rs_op rfl (ow_move rfl ?_)
  refine rs_op rfl (ow_move rfl ?_)
  refine rs_op rfl (ow_enter en23 rfl ((div_any_r _ a b).mono ?_))
  rintro e w4 ⟨rfl, hb⟩
  refine ⟨_, rfl, ?_⟩
  have XC : ∀ q9, (No) q9 → q9 < w3.heap.size := Mut.none_
  have SC := Nat.le_trans LW.size E.size
  have SE := E.size
  have Ec := Ext.of_below hb No
  replace E := E.trans Ec.no
  clear hb Ec
  refine rs_set 33 (.tuple #[.int .u64 9221120237041090560, .int .i64 0]) rfl (div_nan_else hn hz) ?_
  refine rs_op rfl (ow_move rfl ?_)
  refine rs_op rfl (ow_extract rfl rfl ?_)
  refine rs_op rfl (ow_extract rfl rfl ?_)
  refine rs_op rfl (ow_assign rfl ?_)
  refine rs_op rfl (ow_assign rfl ?_)
  refine rs_nil ?_
  refine ew_next ?_
  refine cw_seq ?_
  refine cw_region ?_
  refine rs_op rfl (ow_move rfl ?_)
  refine rs_op rfl (ow_not rfl ?_)
  refine rs_op rfl (ow_move rfl ?_)
  refine rs_op rfl (ow_on rfl (ow_move rfl ?_))
  refine rs_op rfl (ow_on rfl (ow_move rfl ?_))
  refine rs_op rfl (ow_on rfl (ow_enter en27 rfl ((add_any_r _ a b).mono ?_)))
  rintro e w5 ⟨rfl, hb⟩
  refine ⟨_, rfl, ?_⟩
  have XC : ∀ q9, (No) q9 → q9 < w4.heap.size := Mut.none_
  have SC := Nat.le_trans LW.size E.size
  have SE := E.size
  have Ec := Ext.of_below hb No
  replace E := E.trans Ec.no
  clear hb Ec
  refine rs_set 41 (.int .u64 9221120237041090560) rfl ((by rw [ansF_nan hn]; rfl : (.int .u64 ((ansF (fop .add a b) : Nat) : Int) : Value) = _)) ?_
  refine rs_op rfl (ow_on rfl (ow_eql rfl rfl ?_))
  refine rs_op rfl (ow_pickT rfl rfl ?_)
  refine rs_op rfl (ow_move rfl ?_)
  refine rs_op rfl (ow_on rfl (ow_move rfl ?_))
  refine rs_op rfl (ow_on rfl (ow_move rfl ?_))
  refine rs_op rfl (ow_on rfl (ow_enter en29 rfl ((sub_any_r _ b a).mono ?_)))
  rintro e w6 ⟨rfl, hb⟩
  refine ⟨_, rfl, ?_⟩
  have XC : ∀ q9, (No) q9 → q9 < w5.heap.size := Mut.none_
  have SC := Nat.le_trans LW.size E.size
  have SE := E.size
  have Ec := Ext.of_below hb No
  replace E := E.trans Ec.no
  clear hb Ec
  refine rs_set 47 (.int .u64 9221120237041090560) rfl ((by rw [ansF_nan hn.symm]; rfl : (.int .u64 ((ansF (fop .sub b a) : Nat) : Int) : Value) = _)) ?_
  refine rs_op rfl (ow_on rfl (ow_eql rfl rfl ?_))
  refine rs_op rfl (ow_pickT rfl rfl ?_)
  refine rs_op rfl (ow_move rfl ?_)
  refine rs_op rfl (ow_on rfl (ow_move rfl ?_))
  refine rs_op rfl (ow_on rfl (ow_move rfl ?_))
  refine rs_op rfl (ow_on rfl (ow_enter en31 rfl ((mul_any_r _ a b).mono ?_)))
  rintro e w7 ⟨rfl, hb⟩
  refine ⟨_, rfl, ?_⟩
  have XC : ∀ q9, (No) q9 → q9 < w6.heap.size := Mut.none_
  have SC := Nat.le_trans LW.size E.size
  have SE := E.size
  have Ec := Ext.of_below hb No
  replace E := E.trans Ec.no
  clear hb Ec
  refine rs_set 53 (.int .u64 9221120237041090560) rfl ((by rw [ansF_nan hn]; rfl : (.int .u64 ((ansF (fop .mul a b) : Nat) : Int) : Value) = _)) ?_
  refine rs_op rfl (ow_on rfl (ow_eql rfl rfl ?_))
  refine rs_op rfl (ow_pickT rfl rfl ?_)
  refine rs_op rfl (ow_move rfl ?_)
  refine rs_op rfl (ow_on rfl (ow_move rfl ?_))
  refine rs_op rfl (ow_on rfl (ow_eql rfl rfl ?_))
  refine rs_op rfl (ow_on rfl (ow_move rfl ?_))
  refine rs_op rfl (ow_on rfl (ow_move rfl ?_))
  refine rs_op rfl (ow_on rfl (ow_eql rfl rfl ?_))
  refine rs_op rfl (ow_on rfl (ow_pickF rfl rfl ?_))
  refine rs_op rfl (ow_pickT rfl rfl ?_)
  refine rs_op rfl (ow_assign rfl ?_)
  refine rs_nil ?_
  refine ew_next ?_
  refine cw_ret ?_
  refine ew_then_ret ?_
  refine ew_ret (rs := [.tmp 4]) (vs := [_]) rfl ⟨rfl, trivial⟩ ?_
  exact ⟨rfl, (LW.step E XLW).toBelow⟩
theorem edges_bz (hA : isN a = false) (hB : isN b = true) (hz : isZ b = true) : Calls Tryz.prog 7 #[.int .u64 ((a : Nat) : Int), .int .u64 ((b : Nat) : Int)] w fun e w' => e = .returned (.bool true) ∧ Below w.heap.size w w' := by
  have hn : isN a = true ∨ isN b = true := .inr hB
  have ho : ordered a b = false := by rw [ordered, hA, hB]; rfl
  refine calls_cw Tryz.func7 rfl Tryz.ntmps7 rfl ?_
  have HF : Per (No) w (fun _ => True) := Per.true_
  have LW := Ext.refl (No) w
  have XLW : ∀ q9, (No) q9 → (No) q9 ∨ w.heap.size ≤ q9 := fun _ h => Or.inl h
  have E := Ext.refl (No) w
  refine cw_seq ?_
  refine cw_region ?_
  refine rs_op rfl (ow_assign rfl ?_)
  refine rs_nil ?_
  refine ew_next ?_
  refine cw_seq ?_
  refine cw_seq ?_
  refine cw_region ?_
  refine rs_op rfl (ow_enter en16 rfl ((known_any _ hT hD).mono ?_))
  rintro e w1 ⟨rfl, hb⟩
  refine ⟨_, rfl, ?_⟩
  have XC : ∀ q9, (No) q9 → q9 < w.heap.size := Mut.none_
  have SC := Nat.le_trans LW.size E.size
  have SE := E.size
  have Ec := Ext.of_below hb No
  replace E := E.trans Ec.no
  clear hb Ec
  refine rs_op rfl (ow_not rfl ?_)
  refine rs_nil ?_
  refine ew_next ?_
  refine cw_else rfl ?_
  refine cw_skip ?_
  refine ew_next ?_
  refine cw_seq ?_
  refine cw_region ?_
  refine rs_op rfl (ow_move rfl ?_)
  refine rs_op rfl (ow_move rfl ?_)
  refine rs_op rfl (ow_enter en33 rfl ((cmp_any_r _ a b).mono ?_))
  rintro e w2 ⟨rfl, hb⟩
  refine ⟨_, rfl, ?_⟩
  have XC : ∀ q9, (No) q9 → q9 < w1.heap.size := Mut.none_
  have SC := Nat.le_trans LW.size E.size
  have SE := E.size
  have Ec := Ext.of_below hb No
  replace E := E.trans Ec.no
  clear hb Ec
  refine rs_set 21 (.tuple #[.int .i64 (cmpF a b), .bool false]) rfl ((by rw [ho] : (.tuple #[.int .i64 (cmpF a b), .bool (ordered a b)] : Value) = _)) ?_
  refine rs_op rfl (ow_move rfl ?_)
  refine rs_op rfl (ow_extract rfl rfl ?_)
  refine rs_op rfl (ow_extract rfl rfl ?_)
  refine rs_op rfl (ow_assign rfl ?_)
  refine rs_op rfl (ow_assign rfl ?_)
  refine rs_nil ?_
  refine ew_next ?_
  refine cw_seq ?_
  refine cw_seq ?_
  refine cw_region ?_
  refine rs_op rfl (ow_move rfl ?_)
  refine rs_op rfl (ow_enter en18 rfl ((isnan_any _ a ha).mono ?_))
  rintro e w3 ⟨rfl, hb⟩
  refine ⟨_, rfl, ?_⟩
  have XC : ∀ q9, (No) q9 → q9 < w2.heap.size := Mut.none_
  have SC := Nat.le_trans LW.size E.size
  have SE := E.size
  have Ec := Ext.of_below hb No
  replace E := E.trans Ec.no
  clear hb Ec
  refine rs_set 25 (.bool false) rfl ((by rw [hA] : (.bool (isN a) : Value) = _)) ?_
  refine rs_op rfl (ow_move rfl ?_)
  refine rs_op rfl (ow_on rfl (ow_move rfl ?_))
  refine rs_op rfl (ow_on rfl (ow_enter en18 rfl ((isnan_any _ b hb).mono ?_)))
  rintro e w4 ⟨rfl, hb⟩
  refine ⟨_, rfl, ?_⟩
  have XC : ∀ q9, (No) q9 → q9 < w3.heap.size := Mut.none_
  have SC := Nat.le_trans LW.size E.size
  have SE := E.size
  have Ec := Ext.of_below hb No
  replace E := E.trans Ec.no
  clear hb Ec
  refine rs_set 28 (.bool true) rfl ((by rw [hB] : (.bool (isN b) : Value) = _)) ?_
  refine rs_op rfl (ow_pickF rfl rfl ?_)
  refine rs_nil ?_
  refine ew_next ?_
  refine cw_then rfl ?_
  refine cw_seq ?_
  refine cw_region ?_
  refine rs_op rfl (ow_move rfl ?_)
  refine rs_op rfl (ow_move rfl ?_)
  refine rs_op rfl (ow_enter en23 rfl ((div_any_r _ a b).mono ?_))
  rintro e w5 ⟨rfl, hb⟩
  refine ⟨_, rfl, ?_⟩
  have XC : ∀ q9, (No) q9 → q9 < w4.heap.size := Mut.none_
  have SC := Nat.le_trans LW.size E.size
  have SE := E.size
  have Ec := Ext.of_below hb No
  replace E := E.trans Ec.no
  clear hb Ec
  refine rs_set 33 (.tuple #[.int .u64 0, .int .i64 6]) rfl (div_nan_zero hz) ?_
  refine rs_op rfl (ow_move rfl ?_)
  refine rs_op rfl (ow_extract rfl rfl ?_)
  refine rs_op rfl (ow_extract rfl rfl ?_)
  refine rs_op rfl (ow_assign rfl ?_)
  refine rs_op rfl (ow_assign rfl ?_)
  refine rs_nil ?_
  refine ew_next ?_
  refine cw_seq ?_
  refine cw_region ?_
  refine rs_op rfl (ow_move rfl ?_)
  refine rs_op rfl (ow_not rfl ?_)
  refine rs_op rfl (ow_move rfl ?_)
  refine rs_op rfl (ow_on rfl (ow_move rfl ?_))
  refine rs_op rfl (ow_on rfl (ow_move rfl ?_))
  refine rs_op rfl (ow_on rfl (ow_enter en27 rfl ((add_any_r _ a b).mono ?_)))
  rintro e w6 ⟨rfl, hb⟩
  refine ⟨_, rfl, ?_⟩
  have XC : ∀ q9, (No) q9 → q9 < w5.heap.size := Mut.none_
  have SC := Nat.le_trans LW.size E.size
  have SE := E.size
  have Ec := Ext.of_below hb No
  replace E := E.trans Ec.no
  clear hb Ec
  refine rs_set 41 (.int .u64 9221120237041090560) rfl ((by rw [ansF_nan hn]; rfl : (.int .u64 ((ansF (fop .add a b) : Nat) : Int) : Value) = _)) ?_
  refine rs_op rfl (ow_on rfl (ow_eql rfl rfl ?_))
  refine rs_op rfl (ow_pickT rfl rfl ?_)
  refine rs_op rfl (ow_move rfl ?_)
  refine rs_op rfl (ow_on rfl (ow_move rfl ?_))
  refine rs_op rfl (ow_on rfl (ow_move rfl ?_))
  refine rs_op rfl (ow_on rfl (ow_enter en29 rfl ((sub_any_r _ b a).mono ?_)))
  rintro e w7 ⟨rfl, hb⟩
  refine ⟨_, rfl, ?_⟩
  have XC : ∀ q9, (No) q9 → q9 < w6.heap.size := Mut.none_
  have SC := Nat.le_trans LW.size E.size
  have SE := E.size
  have Ec := Ext.of_below hb No
  replace E := E.trans Ec.no
  clear hb Ec
  refine rs_set 47 (.int .u64 9221120237041090560) rfl ((by rw [ansF_nan hn.symm]; rfl : (.int .u64 ((ansF (fop .sub b a) : Nat) : Int) : Value) = _)) ?_
  refine rs_op rfl (ow_on rfl (ow_eql rfl rfl ?_))
  refine rs_op rfl (ow_pickT rfl rfl ?_)
  refine rs_op rfl (ow_move rfl ?_)
  refine rs_op rfl (ow_on rfl (ow_move rfl ?_))
  refine rs_op rfl (ow_on rfl (ow_move rfl ?_))
  refine rs_op rfl (ow_on rfl (ow_enter en31 rfl ((mul_any_r _ a b).mono ?_)))
  rintro e w8 ⟨rfl, hb⟩
  refine ⟨_, rfl, ?_⟩
  have XC : ∀ q9, (No) q9 → q9 < w7.heap.size := Mut.none_
  have SC := Nat.le_trans LW.size E.size
  have SE := E.size
  have Ec := Ext.of_below hb No
  replace E := E.trans Ec.no
  clear hb Ec
  refine rs_set 53 (.int .u64 9221120237041090560) rfl ((by rw [ansF_nan hn]; rfl : (.int .u64 ((ansF (fop .mul a b) : Nat) : Int) : Value) = _)) ?_
  refine rs_op rfl (ow_on rfl (ow_eql rfl rfl ?_))
  refine rs_op rfl (ow_pickT rfl rfl ?_)
  refine rs_op rfl (ow_move rfl ?_)
  refine rs_op rfl (ow_on rfl (ow_move rfl ?_))
  refine rs_op rfl (ow_on rfl (ow_eql rfl rfl ?_))
  refine rs_op rfl (ow_on rfl (ow_move rfl ?_))
  refine rs_op rfl (ow_off rfl ?_)
  refine rs_op rfl (ow_off rfl ?_)
  refine rs_op rfl (ow_on rfl (ow_pickT rfl rfl ?_))
  refine rs_op rfl (ow_pickT rfl rfl ?_)
  refine rs_op rfl (ow_assign rfl ?_)
  refine rs_nil ?_
  refine ew_next ?_
  refine cw_ret ?_
  refine ew_then_ret ?_
  refine ew_ret (rs := [.tmp 4]) (vs := [_]) rfl ⟨rfl, trivial⟩ ?_
  exact ⟨rfl, (LW.step E XLW).toBelow⟩
theorem edges_bn (hA : isN a = false) (hB : isN b = true) (hz : isZ b = false) : Calls Tryz.prog 7 #[.int .u64 ((a : Nat) : Int), .int .u64 ((b : Nat) : Int)] w fun e w' => e = .returned (.bool true) ∧ Below w.heap.size w w' := by
  have hn : isN a = true ∨ isN b = true := .inr hB
  have ho : ordered a b = false := by rw [ordered, hA, hB]; rfl
  refine calls_cw Tryz.func7 rfl Tryz.ntmps7 rfl ?_
  have HF : Per (No) w (fun _ => True) := Per.true_
  have LW := Ext.refl (No) w
  have XLW : ∀ q9, (No) q9 → (No) q9 ∨ w.heap.size ≤ q9 := fun _ h => Or.inl h
  have E := Ext.refl (No) w
  refine cw_seq ?_
  refine cw_region ?_
  refine rs_op rfl (ow_assign rfl ?_)
  refine rs_nil ?_
  refine ew_next ?_
  refine cw_seq ?_
  refine cw_seq ?_
  refine cw_region ?_
  refine rs_op rfl (ow_enter en16 rfl ((known_any _ hT hD).mono ?_))
  rintro e w1 ⟨rfl, hb⟩
  refine ⟨_, rfl, ?_⟩
  have XC : ∀ q9, (No) q9 → q9 < w.heap.size := Mut.none_
  have SC := Nat.le_trans LW.size E.size
  have SE := E.size
  have Ec := Ext.of_below hb No
  replace E := E.trans Ec.no
  clear hb Ec
  refine rs_op rfl (ow_not rfl ?_)
  refine rs_nil ?_
  refine ew_next ?_
  refine cw_else rfl ?_
  refine cw_skip ?_
  refine ew_next ?_
  refine cw_seq ?_
  refine cw_region ?_
  refine rs_op rfl (ow_move rfl ?_)
  refine rs_op rfl (ow_move rfl ?_)
  refine rs_op rfl (ow_enter en33 rfl ((cmp_any_r _ a b).mono ?_))
  rintro e w2 ⟨rfl, hb⟩
  refine ⟨_, rfl, ?_⟩
  have XC : ∀ q9, (No) q9 → q9 < w1.heap.size := Mut.none_
  have SC := Nat.le_trans LW.size E.size
  have SE := E.size
  have Ec := Ext.of_below hb No
  replace E := E.trans Ec.no
  clear hb Ec
  refine rs_set 21 (.tuple #[.int .i64 (cmpF a b), .bool false]) rfl ((by rw [ho] : (.tuple #[.int .i64 (cmpF a b), .bool (ordered a b)] : Value) = _)) ?_
  refine rs_op rfl (ow_move rfl ?_)
  refine rs_op rfl (ow_extract rfl rfl ?_)
  refine rs_op rfl (ow_extract rfl rfl ?_)
  refine rs_op rfl (ow_assign rfl ?_)
  refine rs_op rfl (ow_assign rfl ?_)
  refine rs_nil ?_
  refine ew_next ?_
  refine cw_seq ?_
  refine cw_seq ?_
  refine cw_region ?_
  refine rs_op rfl (ow_move rfl ?_)
  refine rs_op rfl (ow_enter en18 rfl ((isnan_any _ a ha).mono ?_))
  rintro e w3 ⟨rfl, hb⟩
  refine ⟨_, rfl, ?_⟩
  have XC : ∀ q9, (No) q9 → q9 < w2.heap.size := Mut.none_
  have SC := Nat.le_trans LW.size E.size
  have SE := E.size
  have Ec := Ext.of_below hb No
  replace E := E.trans Ec.no
  clear hb Ec
  refine rs_set 25 (.bool false) rfl ((by rw [hA] : (.bool (isN a) : Value) = _)) ?_
  refine rs_op rfl (ow_move rfl ?_)
  refine rs_op rfl (ow_on rfl (ow_move rfl ?_))
  refine rs_op rfl (ow_on rfl (ow_enter en18 rfl ((isnan_any _ b hb).mono ?_)))
  rintro e w4 ⟨rfl, hb⟩
  refine ⟨_, rfl, ?_⟩
  have XC : ∀ q9, (No) q9 → q9 < w3.heap.size := Mut.none_
  have SC := Nat.le_trans LW.size E.size
  have SE := E.size
  have Ec := Ext.of_below hb No
  replace E := E.trans Ec.no
  clear hb Ec
  refine rs_set 28 (.bool true) rfl ((by rw [hB] : (.bool (isN b) : Value) = _)) ?_
  refine rs_op rfl (ow_pickF rfl rfl ?_)
  refine rs_nil ?_
  refine ew_next ?_
  refine cw_then rfl ?_
  refine cw_seq ?_
  refine cw_region ?_
  refine rs_op rfl (ow_move rfl ?_)
  refine rs_op rfl (ow_move rfl ?_)
  refine rs_op rfl (ow_enter en23 rfl ((div_any_r _ a b).mono ?_))
  rintro e w5 ⟨rfl, hb⟩
  refine ⟨_, rfl, ?_⟩
  have XC : ∀ q9, (No) q9 → q9 < w4.heap.size := Mut.none_
  have SC := Nat.le_trans LW.size E.size
  have SE := E.size
  have Ec := Ext.of_below hb No
  replace E := E.trans Ec.no
  clear hb Ec
  refine rs_set 33 (.tuple #[.int .u64 9221120237041090560, .int .i64 0]) rfl (div_nan_else hn hz) ?_
  refine rs_op rfl (ow_move rfl ?_)
  refine rs_op rfl (ow_extract rfl rfl ?_)
  refine rs_op rfl (ow_extract rfl rfl ?_)
  refine rs_op rfl (ow_assign rfl ?_)
  refine rs_op rfl (ow_assign rfl ?_)
  refine rs_nil ?_
  refine ew_next ?_
  refine cw_seq ?_
  refine cw_region ?_
  refine rs_op rfl (ow_move rfl ?_)
  refine rs_op rfl (ow_not rfl ?_)
  refine rs_op rfl (ow_move rfl ?_)
  refine rs_op rfl (ow_on rfl (ow_move rfl ?_))
  refine rs_op rfl (ow_on rfl (ow_move rfl ?_))
  refine rs_op rfl (ow_on rfl (ow_enter en27 rfl ((add_any_r _ a b).mono ?_)))
  rintro e w6 ⟨rfl, hb⟩
  refine ⟨_, rfl, ?_⟩
  have XC : ∀ q9, (No) q9 → q9 < w5.heap.size := Mut.none_
  have SC := Nat.le_trans LW.size E.size
  have SE := E.size
  have Ec := Ext.of_below hb No
  replace E := E.trans Ec.no
  clear hb Ec
  refine rs_set 41 (.int .u64 9221120237041090560) rfl ((by rw [ansF_nan hn]; rfl : (.int .u64 ((ansF (fop .add a b) : Nat) : Int) : Value) = _)) ?_
  refine rs_op rfl (ow_on rfl (ow_eql rfl rfl ?_))
  refine rs_op rfl (ow_pickT rfl rfl ?_)
  refine rs_op rfl (ow_move rfl ?_)
  refine rs_op rfl (ow_on rfl (ow_move rfl ?_))
  refine rs_op rfl (ow_on rfl (ow_move rfl ?_))
  refine rs_op rfl (ow_on rfl (ow_enter en29 rfl ((sub_any_r _ b a).mono ?_)))
  rintro e w7 ⟨rfl, hb⟩
  refine ⟨_, rfl, ?_⟩
  have XC : ∀ q9, (No) q9 → q9 < w6.heap.size := Mut.none_
  have SC := Nat.le_trans LW.size E.size
  have SE := E.size
  have Ec := Ext.of_below hb No
  replace E := E.trans Ec.no
  clear hb Ec
  refine rs_set 47 (.int .u64 9221120237041090560) rfl ((by rw [ansF_nan hn.symm]; rfl : (.int .u64 ((ansF (fop .sub b a) : Nat) : Int) : Value) = _)) ?_
  refine rs_op rfl (ow_on rfl (ow_eql rfl rfl ?_))
  refine rs_op rfl (ow_pickT rfl rfl ?_)
  refine rs_op rfl (ow_move rfl ?_)
  refine rs_op rfl (ow_on rfl (ow_move rfl ?_))
  refine rs_op rfl (ow_on rfl (ow_move rfl ?_))
  refine rs_op rfl (ow_on rfl (ow_enter en31 rfl ((mul_any_r _ a b).mono ?_)))
  rintro e w8 ⟨rfl, hb⟩
  refine ⟨_, rfl, ?_⟩
  have XC : ∀ q9, (No) q9 → q9 < w7.heap.size := Mut.none_
  have SC := Nat.le_trans LW.size E.size
  have SE := E.size
  have Ec := Ext.of_below hb No
  replace E := E.trans Ec.no
  clear hb Ec
  refine rs_set 53 (.int .u64 9221120237041090560) rfl ((by rw [ansF_nan hn]; rfl : (.int .u64 ((ansF (fop .mul a b) : Nat) : Int) : Value) = _)) ?_
  refine rs_op rfl (ow_on rfl (ow_eql rfl rfl ?_))
  refine rs_op rfl (ow_pickT rfl rfl ?_)
  refine rs_op rfl (ow_move rfl ?_)
  refine rs_op rfl (ow_on rfl (ow_move rfl ?_))
  refine rs_op rfl (ow_on rfl (ow_eql rfl rfl ?_))
  refine rs_op rfl (ow_on rfl (ow_move rfl ?_))
  refine rs_op rfl (ow_on rfl (ow_move rfl ?_))
  refine rs_op rfl (ow_on rfl (ow_eql rfl rfl ?_))
  refine rs_op rfl (ow_on rfl (ow_pickF rfl rfl ?_))
  refine rs_op rfl (ow_pickT rfl rfl ?_)
  refine rs_op rfl (ow_assign rfl ?_)
  refine rs_nil ?_
  refine ew_next ?_
  refine cw_ret ?_
  refine ew_then_ret ?_
  refine ew_ret (rs := [.tmp 4]) (vs := [_]) rfl ⟨rfl, trivial⟩ ?_
  exact ⟨rfl, (LW.step E XLW).toBelow⟩
theorem edges_inf (hA : isN a = false) (hB : isN b = false) (hI : decide (rg a = 9218868437227405312) = true) : Calls Tryz.prog 7 #[.int .u64 ((a : Nat) : Int), .int .u64 ((b : Nat) : Int)] w fun e w' => e = .returned (.bool true) ∧ Below w.heap.size w w' := by
  have ho : ordered a b = true := by rw [ordered, hA, hB]; rfl
  have hoa : ordered a a = true := by rw [ordered, hA]; rfl
  have hob : ordered b a = true := by rw [ordered, hA, hB]; rfl
  have hself : ansF (fop .sub a a) = 9221120237041090560 := by rw [sub_self hA]; rw [if_pos (of_decide_eq_true hI)]; rfl
  have hce := cmpF_ends b a
  refine calls_cw Tryz.func7 rfl Tryz.ntmps7 rfl ?_
  have HF : Per (No) w (fun _ => True) := Per.true_
  have LW := Ext.refl (No) w
  have XLW : ∀ q9, (No) q9 → (No) q9 ∨ w.heap.size ≤ q9 := fun _ h => Or.inl h
  have E := Ext.refl (No) w
  refine cw_seq ?_
  refine cw_region ?_
  refine rs_op rfl (ow_assign rfl ?_)
  refine rs_nil ?_
  refine ew_next ?_
  refine cw_seq ?_
  refine cw_seq ?_
  refine cw_region ?_
  refine rs_op rfl (ow_enter en16 rfl ((known_any _ hT hD).mono ?_))
  rintro e w1 ⟨rfl, hb⟩
  refine ⟨_, rfl, ?_⟩
  have XC : ∀ q9, (No) q9 → q9 < w.heap.size := Mut.none_
  have SC := Nat.le_trans LW.size E.size
  have SE := E.size
  have Ec := Ext.of_below hb No
  replace E := E.trans Ec.no
  clear hb Ec
  refine rs_op rfl (ow_not rfl ?_)
  refine rs_nil ?_
  refine ew_next ?_
  refine cw_else rfl ?_
  refine cw_skip ?_
  refine ew_next ?_
  refine cw_seq ?_
  refine cw_region ?_
  refine rs_op rfl (ow_move rfl ?_)
  refine rs_op rfl (ow_move rfl ?_)
  refine rs_op rfl (ow_enter en33 rfl ((cmp_any_r _ a b).mono ?_))
  rintro e w2 ⟨rfl, hb⟩
  refine ⟨_, rfl, ?_⟩
  have XC : ∀ q9, (No) q9 → q9 < w1.heap.size := Mut.none_
  have SC := Nat.le_trans LW.size E.size
  have SE := E.size
  have Ec := Ext.of_below hb No
  replace E := E.trans Ec.no
  clear hb Ec
  refine rs_set 21 (.tuple #[.int .i64 (cmpF a b), .bool true]) rfl ((by rw [ho] : (.tuple #[.int .i64 (cmpF a b), .bool (ordered a b)] : Value) = _)) ?_
  refine rs_op rfl (ow_move rfl ?_)
  refine rs_op rfl (ow_extract rfl rfl ?_)
  refine rs_op rfl (ow_extract rfl rfl ?_)
  refine rs_op rfl (ow_assign rfl ?_)
  refine rs_op rfl (ow_assign rfl ?_)
  refine rs_nil ?_
  refine ew_next ?_
  refine cw_seq ?_
  refine cw_seq ?_
  refine cw_region ?_
  refine rs_op rfl (ow_move rfl ?_)
  refine rs_op rfl (ow_enter en18 rfl ((isnan_any _ a ha).mono ?_))
  rintro e w3 ⟨rfl, hb⟩
  refine ⟨_, rfl, ?_⟩
  have XC : ∀ q9, (No) q9 → q9 < w2.heap.size := Mut.none_
  have SC := Nat.le_trans LW.size E.size
  have SE := E.size
  have Ec := Ext.of_below hb No
  replace E := E.trans Ec.no
  clear hb Ec
  refine rs_set 25 (.bool false) rfl ((by rw [hA] : (.bool (isN a) : Value) = _)) ?_
  refine rs_op rfl (ow_move rfl ?_)
  refine rs_op rfl (ow_on rfl (ow_move rfl ?_))
  refine rs_op rfl (ow_on rfl (ow_enter en18 rfl ((isnan_any _ b hb).mono ?_)))
  rintro e w4 ⟨rfl, hb⟩
  refine ⟨_, rfl, ?_⟩
  have XC : ∀ q9, (No) q9 → q9 < w3.heap.size := Mut.none_
  have SC := Nat.le_trans LW.size E.size
  have SE := E.size
  have Ec := Ext.of_below hb No
  replace E := E.trans Ec.no
  clear hb Ec
  refine rs_set 28 (.bool false) rfl ((by rw [hB] : (.bool (isN b) : Value) = _)) ?_
  refine rs_op rfl (ow_pickF rfl rfl ?_)
  refine rs_nil ?_
  refine ew_next ?_
  refine cw_else rfl ?_
  refine cw_skip ?_
  refine ew_next ?_
  refine cw_seq ?_
  refine cw_region ?_
  refine rs_op rfl (ow_move rfl ?_)
  refine rs_op rfl (ow_move rfl ?_)
  refine rs_op rfl (ow_enter en29 rfl ((sub_any_r _ a a).mono ?_))
  rintro e w5 ⟨rfl, hb⟩
  refine ⟨_, rfl, ?_⟩
  have XC : ∀ q9, (No) q9 → q9 < w4.heap.size := Mut.none_
  have SC := Nat.le_trans LW.size E.size
  have SE := E.size
  have Ec := Ext.of_below hb No
  replace E := E.trans Ec.no
  clear hb Ec
  refine rs_set 66 (.int .u64 9221120237041090560) rfl ((by rw [hself]; rfl : (.int .u64 ((ansF (fop .sub a a) : Nat) : Int) : Value) = _)) ?_
  refine rs_op rfl (ow_assign rfl ?_)
  refine rs_nil ?_
  refine ew_next ?_
  refine cw_seq ?_
  refine cw_seq ?_
  refine cw_region ?_
  refine rs_op rfl (ow_move rfl ?_)
  refine rs_op rfl (ow_enter en34 rfl ((isinf_any _ a ha).mono ?_))
  rintro e w6 ⟨rfl, hb⟩
  refine ⟨_, rfl, ?_⟩
  have XC : ∀ q9, (No) q9 → q9 < w5.heap.size := Mut.none_
  have SC := Nat.le_trans LW.size E.size
  have SE := E.size
  have Ec := Ext.of_below hb No
  replace E := E.trans Ec.no
  clear hb Ec
  refine rs_set 68 (.bool true) rfl ((by rw [hI] : (.bool (decide (rg a = 9218868437227405312)) : Value) = _)) ?_
  refine rs_op rfl (ow_move rfl ?_)
  refine rs_op rfl (ow_eql rfl rfl ?_)
  refine rs_op rfl (ow_neqB Tryz.underlying4 rfl rfl ?_)
  refine rs_op rfl (ow_move rfl ?_)
  refine rs_op rfl (ow_on rfl (ow_move rfl ?_))
  refine rs_op rfl (ow_on rfl (ow_enter en34 rfl ((isinf_any _ a ha).mono ?_)))
  rintro e w7 ⟨rfl, hb⟩
  refine ⟨_, rfl, ?_⟩
  have XC : ∀ q9, (No) q9 → q9 < w6.heap.size := Mut.none_
  have SC := Nat.le_trans LW.size E.size
  have SE := E.size
  have Ec := Ext.of_below hb No
  replace E := E.trans Ec.no
  clear hb Ec
  refine rs_set 74 (.bool true) rfl ((by rw [hI] : (.bool (decide (rg a = 9218868437227405312)) : Value) = _)) ?_
  refine rs_op rfl (ow_on rfl (ow_not rfl ?_))
  refine rs_op rfl (ow_on rfl (ow_move rfl ?_))
  refine rs_op rfl (ow_off rfl ?_)
  refine rs_op rfl (ow_off rfl ?_)
  refine rs_op rfl (ow_on rfl (ow_pickF rfl rfl ?_))
  refine rs_op rfl (ow_pickF rfl rfl ?_)
  refine rs_op rfl (ow_move rfl ?_)
  refine rs_op rfl (ow_on rfl (ow_move rfl ?_))
  refine rs_op rfl (ow_on rfl (ow_not rfl ?_))
  refine rs_op rfl (ow_pickF rfl rfl ?_)
  refine rs_nil ?_
  refine ew_next ?_
  refine cw_else rfl ?_
  refine cw_skip ?_
  refine ew_next ?_
  refine cw_seq ?_
  refine cw_region ?_
  refine rs_op rfl (ow_move rfl ?_)
  refine rs_op rfl (ow_move rfl ?_)
  refine rs_op rfl (ow_enter en33 rfl ((cmp_any_r _ a b).mono ?_))
  rintro e w8 ⟨rfl, hb⟩
  refine ⟨_, rfl, ?_⟩
  have XC : ∀ q9, (No) q9 → q9 < w7.heap.size := Mut.none_
  have SC := Nat.le_trans LW.size E.size
  have SE := E.size
  have Ec := Ext.of_below hb No
  replace E := E.trans Ec.no
  clear hb Ec
  refine rs_set 88 (.tuple #[.int .i64 (cmpF a b), .bool true]) rfl ((by rw [ho] : (.tuple #[.int .i64 (cmpF a b), .bool (ordered a b)] : Value) = _)) ?_
  refine rs_op rfl (ow_move rfl ?_)
  refine rs_op rfl (ow_extract rfl rfl ?_)
  refine rs_op rfl (ow_extract rfl rfl ?_)
  refine rs_op rfl (ow_assign rfl ?_)
  refine rs_op rfl (ow_assign rfl ?_)
  refine rs_nil ?_
  refine ew_next ?_
  refine cw_seq ?_
  refine cw_region ?_
  refine rs_op rfl (ow_move rfl ?_)
  refine rs_op rfl (ow_move rfl ?_)
  refine rs_op rfl (ow_enter en33 rfl ((cmp_any_r _ b a).mono ?_))
  rintro e w9 ⟨rfl, hb⟩
  refine ⟨_, rfl, ?_⟩
  have XC : ∀ q9, (No) q9 → q9 < w8.heap.size := Mut.none_
  have SC := Nat.le_trans LW.size E.size
  have SE := E.size
  have Ec := Ext.of_below hb No
  replace E := E.trans Ec.no
  clear hb Ec
  refine rs_set 94 (.tuple #[.int .i64 (cmpF b a), .bool true]) rfl ((by rw [hob] : (.tuple #[.int .i64 (cmpF b a), .bool (ordered b a)] : Value) = _)) ?_
  refine rs_op rfl (ow_move rfl ?_)
  refine rs_op rfl (ow_extract rfl rfl ?_)
  refine rs_op rfl (ow_extract rfl rfl ?_)
  refine rs_op rfl (ow_assign rfl ?_)
  refine rs_op rfl (ow_assign rfl ?_)
  refine rs_nil ?_
  refine ew_next ?_
  refine cw_seq ?_
  refine cw_region ?_
  refine rs_op rfl (ow_move rfl ?_)
  refine rs_op rfl (ow_move rfl ?_)
  refine rs_op rfl (ow_enter en33 rfl ((cmp_any_r _ a a).mono ?_))
  rintro e w10 ⟨rfl, hb⟩
  refine ⟨_, rfl, ?_⟩
  have XC : ∀ q9, (No) q9 → q9 < w9.heap.size := Mut.none_
  have SC := Nat.le_trans LW.size E.size
  have SE := E.size
  have Ec := Ext.of_below hb No
  replace E := E.trans Ec.no
  clear hb Ec
  refine rs_set 100 (.tuple #[.int .i64 0, .bool true]) rfl ((by rw [hoa, cmpF_same] : (.tuple #[.int .i64 (cmpF a a), .bool (ordered a a)] : Value) = _)) ?_
  refine rs_op rfl (ow_move rfl ?_)
  refine rs_op rfl (ow_extract rfl rfl ?_)
  refine rs_op rfl (ow_extract rfl rfl ?_)
  refine rs_op rfl (ow_assign rfl ?_)
  refine rs_op rfl (ow_assign rfl ?_)
  refine rs_nil ?_
  refine ew_next ?_
  refine cw_seq ?_
  refine cw_seq ?_
  refine cw_region ?_
  refine rs_op rfl (ow_move rfl ?_)
  refine rs_op rfl (ow_move rfl ?_)
  refine rs_op rfl (ow_neg rfl (wrap_i64 (by omega)) ?_)
  refine rs_op rfl (ow_neq rfl rfl ?_)
  refine rs_op rfl (ow_move rfl ?_)
  refine rs_set 107 (.bool false) rfl ((by rw [cmpF_anti a b]; simp : (.bool ((cmpF a b) != (0 - (cmpF b a))) : Value) = _)) ?_
  refine rs_op rfl (ow_on rfl (ow_move rfl ?_))
  refine rs_op rfl (ow_on rfl (ow_neq rfl rfl ?_))
  refine rs_op rfl (ow_pickF rfl rfl ?_)
  refine rs_op rfl (ow_move rfl ?_)
  refine rs_op rfl (ow_on rfl (ow_move rfl ?_))
  refine rs_op rfl (ow_on rfl (ow_enter en25 rfl ((neg_any_r _ a).mono ?_)))
  rintro e w11 ⟨rfl, hb⟩
  refine ⟨_, rfl, ?_⟩
  have XC : ∀ q9, (No) q9 → q9 < w10.heap.size := Mut.none_
  have SC := Nat.le_trans LW.size E.size
  have SE := E.size
  have Ec := Ext.of_below hb No
  replace E := E.trans Ec.no
  clear hb Ec
  refine rs_op rfl (ow_on rfl (ow_enter en25 rfl ((neg_any_r _ (bareN (fnegate a))).mono ?_)))
  rintro e w12 ⟨rfl, hb⟩
  refine ⟨_, rfl, ?_⟩
  have XC : ∀ q9, (No) q9 → q9 < w11.heap.size := Mut.none_
  have SC := Nat.le_trans LW.size E.size
  have SE := E.size
  have Ec := Ext.of_below hb No
  replace E := E.trans Ec.no
  clear hb Ec
  refine rs_set 114 (.int .u64 ((a : Nat) : Int)) rfl ((by rw [neg_neg_r ha hA] : (.int .u64 ((bareN (fnegate (bareN (fnegate a))) : Nat) : Int) : Value) = _)) ?_
  refine rs_op rfl (ow_on rfl (ow_move rfl ?_))
  refine rs_op rfl (ow_on rfl (ow_neq rfl rfl ?_))
  refine rs_op rfl (ow_pickF rfl rfl ?_)
  refine rs_nil ?_
  refine ew_next ?_
  refine cw_set 117 (.bool false) rfl ((by simp : (.bool (((a : Nat) : Int) != ((a : Nat) : Int)) : Value) = _)) ?_
  refine cw_else rfl ?_
  refine cw_skip ?_
  refine ew_next ?_
  refine cw_seq ?_
  refine cw_seq ?_
  refine cw_region ?_
  refine rs_op rfl (ow_move rfl ?_)
  refine rs_op rfl (ow_move rfl ?_)
  refine rs_op rfl (ow_enter en27 rfl ((add_any_r _ a b).mono ?_))
  rintro e w13 ⟨rfl, hb⟩
  refine ⟨_, rfl, ?_⟩
  have XC : ∀ q9, (No) q9 → q9 < w12.heap.size := Mut.none_
  have SC := Nat.le_trans LW.size E.size
  have SE := E.size
  have Ec := Ext.of_below hb No
  replace E := E.trans Ec.no
  clear hb Ec
  refine rs_op rfl (ow_move rfl ?_)
  refine rs_op rfl (ow_move rfl ?_)
  refine rs_op rfl (ow_enter en27 rfl ((add_any_r _ b a).mono ?_))
  rintro e w14 ⟨rfl, hb⟩
  refine ⟨_, rfl, ?_⟩
  have XC : ∀ q9, (No) q9 → q9 < w13.heap.size := Mut.none_
  have SC := Nat.le_trans LW.size E.size
  have SE := E.size
  have Ec := Ext.of_below hb No
  replace E := E.trans Ec.no
  clear hb Ec
  refine rs_op rfl (ow_neq rfl rfl ?_)
  refine rs_op rfl (ow_move rfl ?_)
  refine rs_set 125 (.bool false) rfl ((by rw [add_comm_f a b]; simp : (.bool (((ansF (fop .add a b) : Nat) : Int) != ((ansF (fop .add b a) : Nat) : Int)) : Value) = _)) ?_
  refine rs_op rfl (ow_on rfl (ow_move rfl ?_))
  refine rs_op rfl (ow_on rfl (ow_move rfl ?_))
  refine rs_op rfl (ow_on rfl (ow_enter en31 rfl ((mul_any_r _ a b).mono ?_)))
  rintro e w15 ⟨rfl, hb⟩
  refine ⟨_, rfl, ?_⟩
  have XC : ∀ q9, (No) q9 → q9 < w14.heap.size := Mut.none_
  have SC := Nat.le_trans LW.size E.size
  have SE := E.size
  have Ec := Ext.of_below hb No
  replace E := E.trans Ec.no
  clear hb Ec
  refine rs_op rfl (ow_on rfl (ow_move rfl ?_))
  refine rs_op rfl (ow_on rfl (ow_move rfl ?_))
  refine rs_op rfl (ow_on rfl (ow_enter en31 rfl ((mul_any_r _ b a).mono ?_)))
  rintro e w16 ⟨rfl, hb⟩
  refine ⟨_, rfl, ?_⟩
  have XC : ∀ q9, (No) q9 → q9 < w15.heap.size := Mut.none_
  have SC := Nat.le_trans LW.size E.size
  have SE := E.size
  have Ec := Ext.of_below hb No
  replace E := E.trans Ec.no
  clear hb Ec
  refine rs_op rfl (ow_on rfl (ow_neq rfl rfl ?_))
  refine rs_op rfl (ow_pickF rfl rfl ?_)
  refine rs_nil ?_
  refine ew_next ?_
  refine cw_set 133 (.bool false) rfl ((by rw [mul_comm_f a b]; simp : (.bool (((ansF (fop .mul a b) : Nat) : Int) != ((ansF (fop .mul b a) : Nat) : Int)) : Value) = _)) ?_
  refine cw_else rfl ?_
  refine cw_skip ?_
  refine ew_next ?_
  refine cw_seq ?_
  refine cw_region ?_
  refine rs_op rfl (ow_move rfl ?_)
  refine rs_op rfl (ow_eql rfl rfl ?_)
  refine rs_op rfl (ow_move rfl ?_)
  refine rs_op rfl (ow_move rfl ?_)
  refine rs_op rfl (ow_eql rfl rfl ?_)
  refine rs_op rfl (ow_move rfl ?_)
  refine rs_set 135 (.bool ((((a : Nat) : Int) == ((b : Nat) : Int)) || (isZ a && isZ b))) rfl ((by rw [← cmp_zero ha hb hA hB] : (.bool ((cmpF a b) == 0) : Value) = _)) ?_
  refine rs_split 139 rfl (fun q => ?_) (fun q => ?_)
  · have _way := True.intro
    refine rs_op rfl (ow_off rfl ?_)
    refine rs_op rfl (ow_off rfl ?_)
    refine rs_op rfl (ow_off rfl ?_)
    refine rs_op rfl (ow_offU rfl rfl ?_)
    refine rs_op rfl (ow_offU rfl rfl ?_)
    refine rs_op rfl (ow_off rfl ?_)
    refine rs_op rfl (ow_pickT rfl rfl ?_)
    refine rs_op rfl (ow_eqlB Tryz.underlying4 rfl rfl ?_)
    refine rs_op rfl (ow_assign rfl ?_)
    refine rs_nil ?_
    refine ew_next ?_
    refine cw_ret ?_
    refine ew_ret (rs := [.tmp 4]) (vs := [_]) rfl ⟨rfl, trivial⟩ ?_
    exact ⟨by rw [q]; rfl, (LW.step E XLW).toBelow⟩
  · have _way := True.intro
    refine rs_op rfl (ow_on rfl (ow_move rfl ?_))
    refine rs_op rfl (ow_on rfl (ow_enter en35 rfl ((iszero_any _ a ha).mono ?_)))
    rintro e w17 ⟨rfl, hb⟩
    refine ⟨_, rfl, ?_⟩
    have XC : ∀ q9, (No) q9 → q9 < w16.heap.size := Mut.none_
    have SC := Nat.le_trans LW.size E.size
    have SE := E.size
    have Ec := Ext.of_below hb No
    replace E := E.trans Ec.no
    clear hb Ec
    refine rs_op rfl (ow_on rfl (ow_move rfl ?_))
    refine rs_split 142 rfl (fun q2 => ?_) (fun q2 => ?_)
    · have _way := True.intro
      refine rs_op rfl (ow_on rfl (ow_move rfl ?_))
      refine rs_op rfl (ow_on rfl (ow_enter en35 rfl ((iszero_any _ b hb).mono ?_)))
      rintro e w18 ⟨rfl, hb⟩
      refine ⟨_, rfl, ?_⟩
      have XC : ∀ q9, (No) q9 → q9 < w17.heap.size := Mut.none_
      have SC := Nat.le_trans LW.size E.size
      have SE := E.size
      have Ec := Ext.of_below hb No
      replace E := E.trans Ec.no
      clear hb Ec
      refine rs_op rfl (ow_on rfl (ow_pickT rfl rfl ?_))
      refine rs_op rfl (ow_pickF rfl rfl ?_)
      refine rs_op rfl (ow_eqlB Tryz.underlying4 rfl rfl ?_)
      refine rs_op rfl (ow_assign rfl ?_)
      refine rs_nil ?_
      refine ew_next ?_
      refine cw_ret ?_
      refine ew_ret (rs := [.tmp 4]) (vs := [_]) rfl ⟨rfl, trivial⟩ ?_
      exact ⟨by rw [q, q2]; simp; rfl, (LW.step E XLW).toBelow⟩
    · have _way := True.intro
      refine rs_op rfl (ow_off rfl ?_)
      refine rs_op rfl (ow_off rfl ?_)
      refine rs_op rfl (ow_on rfl (ow_pickF rfl rfl ?_))
      refine rs_op rfl (ow_pickF rfl rfl ?_)
      refine rs_op rfl (ow_eqlB Tryz.underlying4 rfl rfl ?_)
      refine rs_op rfl (ow_assign rfl ?_)
      refine rs_nil ?_
      refine ew_next ?_
      refine cw_ret ?_
      refine ew_ret (rs := [.tmp 4]) (vs := [_]) rfl ⟨rfl, trivial⟩ ?_
      exact ⟨by rw [q, q2]; rfl, (LW.step E XLW).toBelow⟩
theorem edges_fin (hA : isN a = false) (hB : isN b = false) (hI : decide (rg a = 9218868437227405312) = false) : Calls Tryz.prog 7 #[.int .u64 ((a : Nat) : Int), .int .u64 ((b : Nat) : Int)] w fun e w' => e = .returned (.bool true) ∧ Below w.heap.size w w' := by
  have ho : ordered a b = true := by rw [ordered, hA, hB]; rfl
  have hoa : ordered a a = true := by rw [ordered, hA]; rfl
  have hob : ordered b a = true := by rw [ordered, hA, hB]; rfl
  have hself : ansF (fop .sub a a) = 0 := by rw [sub_self hA]; rw [if_neg (of_decide_eq_false hI)]; rfl
  have hce := cmpF_ends b a
  refine calls_cw Tryz.func7 rfl Tryz.ntmps7 rfl ?_
  have HF : Per (No) w (fun _ => True) := Per.true_
  have LW := Ext.refl (No) w
  have XLW : ∀ q9, (No) q9 → (No) q9 ∨ w.heap.size ≤ q9 := fun _ h => Or.inl h
  have E := Ext.refl (No) w
  refine cw_seq ?_
  refine cw_region ?_
  refine rs_op rfl (ow_assign rfl ?_)
  refine rs_nil ?_
  refine ew_next ?_
  refine cw_seq ?_
  refine cw_seq ?_
  refine cw_region ?_
  refine rs_op rfl (ow_enter en16 rfl ((known_any _ hT hD).mono ?_))
  rintro e w1 ⟨rfl, hb⟩
  refine ⟨_, rfl, ?_⟩
  have XC : ∀ q9, (No) q9 → q9 < w.heap.size := Mut.none_
  have SC := Nat.le_trans LW.size E.size
  have SE := E.size
  have Ec := Ext.of_below hb No
  replace E := E.trans Ec.no
  clear hb Ec
  refine rs_op rfl (ow_not rfl ?_)
  refine rs_nil ?_
  refine ew_next ?_
  refine cw_else rfl ?_
  refine cw_skip ?_
  refine ew_next ?_
  refine cw_seq ?_
  refine cw_region ?_
  refine rs_op rfl (ow_move rfl ?_)
  refine rs_op rfl (ow_move rfl ?_)
  refine rs_op rfl (ow_enter en33 rfl ((cmp_any_r _ a b).mono ?_))
  rintro e w2 ⟨rfl, hb⟩
  refine ⟨_, rfl, ?_⟩
  have XC : ∀ q9, (No) q9 → q9 < w1.heap.size := Mut.none_
  have SC := Nat.le_trans LW.size E.size
  have SE := E.size
  have Ec := Ext.of_below hb No
  replace E := E.trans Ec.no
  clear hb Ec
  refine rs_set 21 (.tuple #[.int .i64 (cmpF a b), .bool true]) rfl ((by rw [ho] : (.tuple #[.int .i64 (cmpF a b), .bool (ordered a b)] : Value) = _)) ?_
  refine rs_op rfl (ow_move rfl ?_)
  refine rs_op rfl (ow_extract rfl rfl ?_)
  refine rs_op rfl (ow_extract rfl rfl ?_)
  refine rs_op rfl (ow_assign rfl ?_)
  refine rs_op rfl (ow_assign rfl ?_)
  refine rs_nil ?_
  refine ew_next ?_
  refine cw_seq ?_
  refine cw_seq ?_
  refine cw_region ?_
  refine rs_op rfl (ow_move rfl ?_)
  refine rs_op rfl (ow_enter en18 rfl ((isnan_any _ a ha).mono ?_))
  rintro e w3 ⟨rfl, hb⟩
  refine ⟨_, rfl, ?_⟩
  have XC : ∀ q9, (No) q9 → q9 < w2.heap.size := Mut.none_
  have SC := Nat.le_trans LW.size E.size
  have SE := E.size
  have Ec := Ext.of_below hb No
  replace E := E.trans Ec.no
  clear hb Ec
  refine rs_set 25 (.bool false) rfl ((by rw [hA] : (.bool (isN a) : Value) = _)) ?_
  refine rs_op rfl (ow_move rfl ?_)
  refine rs_op rfl (ow_on rfl (ow_move rfl ?_))
  refine rs_op rfl (ow_on rfl (ow_enter en18 rfl ((isnan_any _ b hb).mono ?_)))
  rintro e w4 ⟨rfl, hb⟩
  refine ⟨_, rfl, ?_⟩
  have XC : ∀ q9, (No) q9 → q9 < w3.heap.size := Mut.none_
  have SC := Nat.le_trans LW.size E.size
  have SE := E.size
  have Ec := Ext.of_below hb No
  replace E := E.trans Ec.no
  clear hb Ec
  refine rs_set 28 (.bool false) rfl ((by rw [hB] : (.bool (isN b) : Value) = _)) ?_
  refine rs_op rfl (ow_pickF rfl rfl ?_)
  refine rs_nil ?_
  refine ew_next ?_
  refine cw_else rfl ?_
  refine cw_skip ?_
  refine ew_next ?_
  refine cw_seq ?_
  refine cw_region ?_
  refine rs_op rfl (ow_move rfl ?_)
  refine rs_op rfl (ow_move rfl ?_)
  refine rs_op rfl (ow_enter en29 rfl ((sub_any_r _ a a).mono ?_))
  rintro e w5 ⟨rfl, hb⟩
  refine ⟨_, rfl, ?_⟩
  have XC : ∀ q9, (No) q9 → q9 < w4.heap.size := Mut.none_
  have SC := Nat.le_trans LW.size E.size
  have SE := E.size
  have Ec := Ext.of_below hb No
  replace E := E.trans Ec.no
  clear hb Ec
  refine rs_set 66 (.int .u64 0) rfl ((by rw [hself]; rfl : (.int .u64 ((ansF (fop .sub a a) : Nat) : Int) : Value) = _)) ?_
  refine rs_op rfl (ow_assign rfl ?_)
  refine rs_nil ?_
  refine ew_next ?_
  refine cw_seq ?_
  refine cw_seq ?_
  refine cw_region ?_
  refine rs_op rfl (ow_move rfl ?_)
  refine rs_op rfl (ow_enter en34 rfl ((isinf_any _ a ha).mono ?_))
  rintro e w6 ⟨rfl, hb⟩
  refine ⟨_, rfl, ?_⟩
  have XC : ∀ q9, (No) q9 → q9 < w5.heap.size := Mut.none_
  have SC := Nat.le_trans LW.size E.size
  have SE := E.size
  have Ec := Ext.of_below hb No
  replace E := E.trans Ec.no
  clear hb Ec
  refine rs_set 68 (.bool false) rfl ((by rw [hI] : (.bool (decide (rg a = 9218868437227405312)) : Value) = _)) ?_
  refine rs_op rfl (ow_move rfl ?_)
  refine rs_op rfl (ow_eql rfl rfl ?_)
  refine rs_op rfl (ow_neqB Tryz.underlying4 rfl rfl ?_)
  refine rs_op rfl (ow_move rfl ?_)
  refine rs_op rfl (ow_on rfl (ow_move rfl ?_))
  refine rs_op rfl (ow_on rfl (ow_enter en34 rfl ((isinf_any _ a ha).mono ?_)))
  rintro e w7 ⟨rfl, hb⟩
  refine ⟨_, rfl, ?_⟩
  have XC : ∀ q9, (No) q9 → q9 < w6.heap.size := Mut.none_
  have SC := Nat.le_trans LW.size E.size
  have SE := E.size
  have Ec := Ext.of_below hb No
  replace E := E.trans Ec.no
  clear hb Ec
  refine rs_set 74 (.bool false) rfl ((by rw [hI] : (.bool (decide (rg a = 9218868437227405312)) : Value) = _)) ?_
  refine rs_op rfl (ow_on rfl (ow_not rfl ?_))
  refine rs_op rfl (ow_on rfl (ow_move rfl ?_))
  refine rs_op rfl (ow_on rfl (ow_move rfl ?_))
  refine rs_op rfl (ow_on rfl (ow_neq rfl rfl ?_))
  refine rs_op rfl (ow_on rfl (ow_pickT rfl rfl ?_))
  refine rs_op rfl (ow_pickF rfl rfl ?_)
  refine rs_op rfl (ow_move rfl ?_)
  refine rs_op rfl (ow_on rfl (ow_move rfl ?_))
  refine rs_op rfl (ow_on rfl (ow_not rfl ?_))
  refine rs_op rfl (ow_pickF rfl rfl ?_)
  refine rs_nil ?_
  refine ew_next ?_
  refine cw_else rfl ?_
  refine cw_skip ?_
  refine ew_next ?_
  refine cw_seq ?_
  refine cw_region ?_
  refine rs_op rfl (ow_move rfl ?_)
  refine rs_op rfl (ow_move rfl ?_)
  refine rs_op rfl (ow_enter en33 rfl ((cmp_any_r _ a b).mono ?_))
  rintro e w8 ⟨rfl, hb⟩
  refine ⟨_, rfl, ?_⟩
  have XC : ∀ q9, (No) q9 → q9 < w7.heap.size := Mut.none_
  have SC := Nat.le_trans LW.size E.size
  have SE := E.size
  have Ec := Ext.of_below hb No
  replace E := E.trans Ec.no
  clear hb Ec
  refine rs_set 88 (.tuple #[.int .i64 (cmpF a b), .bool true]) rfl ((by rw [ho] : (.tuple #[.int .i64 (cmpF a b), .bool (ordered a b)] : Value) = _)) ?_
  refine rs_op rfl (ow_move rfl ?_)
  refine rs_op rfl (ow_extract rfl rfl ?_)
  refine rs_op rfl (ow_extract rfl rfl ?_)
  refine rs_op rfl (ow_assign rfl ?_)
  refine rs_op rfl (ow_assign rfl ?_)
  refine rs_nil ?_
  refine ew_next ?_
  refine cw_seq ?_
  refine cw_region ?_
  refine rs_op rfl (ow_move rfl ?_)
  refine rs_op rfl (ow_move rfl ?_)
  refine rs_op rfl (ow_enter en33 rfl ((cmp_any_r _ b a).mono ?_))
  rintro e w9 ⟨rfl, hb⟩
  refine ⟨_, rfl, ?_⟩
  have XC : ∀ q9, (No) q9 → q9 < w8.heap.size := Mut.none_
  have SC := Nat.le_trans LW.size E.size
  have SE := E.size
  have Ec := Ext.of_below hb No
  replace E := E.trans Ec.no
  clear hb Ec
  refine rs_set 94 (.tuple #[.int .i64 (cmpF b a), .bool true]) rfl ((by rw [hob] : (.tuple #[.int .i64 (cmpF b a), .bool (ordered b a)] : Value) = _)) ?_
  refine rs_op rfl (ow_move rfl ?_)
  refine rs_op rfl (ow_extract rfl rfl ?_)
  refine rs_op rfl (ow_extract rfl rfl ?_)
  refine rs_op rfl (ow_assign rfl ?_)
  refine rs_op rfl (ow_assign rfl ?_)
  refine rs_nil ?_
  refine ew_next ?_
  refine cw_seq ?_
  refine cw_region ?_
  refine rs_op rfl (ow_move rfl ?_)
  refine rs_op rfl (ow_move rfl ?_)
  refine rs_op rfl (ow_enter en33 rfl ((cmp_any_r _ a a).mono ?_))
  rintro e w10 ⟨rfl, hb⟩
  refine ⟨_, rfl, ?_⟩
  have XC : ∀ q9, (No) q9 → q9 < w9.heap.size := Mut.none_
  have SC := Nat.le_trans LW.size E.size
  have SE := E.size
  have Ec := Ext.of_below hb No
  replace E := E.trans Ec.no
  clear hb Ec
  refine rs_set 100 (.tuple #[.int .i64 0, .bool true]) rfl ((by rw [hoa, cmpF_same] : (.tuple #[.int .i64 (cmpF a a), .bool (ordered a a)] : Value) = _)) ?_
  refine rs_op rfl (ow_move rfl ?_)
  refine rs_op rfl (ow_extract rfl rfl ?_)
  refine rs_op rfl (ow_extract rfl rfl ?_)
  refine rs_op rfl (ow_assign rfl ?_)
  refine rs_op rfl (ow_assign rfl ?_)
  refine rs_nil ?_
  refine ew_next ?_
  refine cw_seq ?_
  refine cw_seq ?_
  refine cw_region ?_
  refine rs_op rfl (ow_move rfl ?_)
  refine rs_op rfl (ow_move rfl ?_)
  refine rs_op rfl (ow_neg rfl (wrap_i64 (by omega)) ?_)
  refine rs_op rfl (ow_neq rfl rfl ?_)
  refine rs_op rfl (ow_move rfl ?_)
  refine rs_set 107 (.bool false) rfl ((by rw [cmpF_anti a b]; simp : (.bool ((cmpF a b) != (0 - (cmpF b a))) : Value) = _)) ?_
  refine rs_op rfl (ow_on rfl (ow_move rfl ?_))
  refine rs_op rfl (ow_on rfl (ow_neq rfl rfl ?_))
  refine rs_op rfl (ow_pickF rfl rfl ?_)
  refine rs_op rfl (ow_move rfl ?_)
  refine rs_op rfl (ow_on rfl (ow_move rfl ?_))
  refine rs_op rfl (ow_on rfl (ow_enter en25 rfl ((neg_any_r _ a).mono ?_)))
  rintro e w11 ⟨rfl, hb⟩
  refine ⟨_, rfl, ?_⟩
  have XC : ∀ q9, (No) q9 → q9 < w10.heap.size := Mut.none_
  have SC := Nat.le_trans LW.size E.size
  have SE := E.size
  have Ec := Ext.of_below hb No
  replace E := E.trans Ec.no
  clear hb Ec
  refine rs_op rfl (ow_on rfl (ow_enter en25 rfl ((neg_any_r _ (bareN (fnegate a))).mono ?_)))
  rintro e w12 ⟨rfl, hb⟩
  refine ⟨_, rfl, ?_⟩
  have XC : ∀ q9, (No) q9 → q9 < w11.heap.size := Mut.none_
  have SC := Nat.le_trans LW.size E.size
  have SE := E.size
  have Ec := Ext.of_below hb No
  replace E := E.trans Ec.no
  clear hb Ec
  refine rs_set 114 (.int .u64 ((a : Nat) : Int)) rfl ((by rw [neg_neg_r ha hA] : (.int .u64 ((bareN (fnegate (bareN (fnegate a))) : Nat) : Int) : Value) = _)) ?_
  refine rs_op rfl (ow_on rfl (ow_move rfl ?_))
  refine rs_op rfl (ow_on rfl (ow_neq rfl rfl ?_))
  refine rs_op rfl (ow_pickF rfl rfl ?_)
  refine rs_nil ?_
  refine ew_next ?_
  refine cw_set 117 (.bool false) rfl ((by simp : (.bool (((a : Nat) : Int) != ((a : Nat) : Int)) : Value) = _)) ?_
  refine cw_else rfl ?_
  refine cw_skip ?_
  refine ew_next ?_
  refine cw_seq ?_
  refine cw_seq ?_
  refine cw_region ?_
  refine rs_op rfl (ow_move rfl ?_)
  refine rs_op rfl (ow_move rfl ?_)
  refine rs_op rfl (ow_enter en27 rfl ((add_any_r _ a b).mono ?_))
  rintro e w13 ⟨rfl, hb⟩
  refine ⟨_, rfl, ?_⟩
  have XC : ∀ q9, (No) q9 → q9 < w12.heap.size := Mut.none_
  have SC := Nat.le_trans LW.size E.size
  have SE := E.size
  have Ec := Ext.of_below hb No
  replace E := E.trans Ec.no
  clear hb Ec
  refine rs_op rfl (ow_move rfl ?_)
  refine rs_op rfl (ow_move rfl ?_)
  refine rs_op rfl (ow_enter en27 rfl ((add_any_r _ b a).mono ?_))
  rintro e w14 ⟨rfl, hb⟩
  refine ⟨_, rfl, ?_⟩
  have XC : ∀ q9, (No) q9 → q9 < w13.heap.size := Mut.none_
  have SC := Nat.le_trans LW.size E.size
  have SE := E.size
  have Ec := Ext.of_below hb No
  replace E := E.trans Ec.no
  clear hb Ec
  refine rs_op rfl (ow_neq rfl rfl ?_)
  refine rs_op rfl (ow_move rfl ?_)
  refine rs_set 125 (.bool false) rfl ((by rw [add_comm_f a b]; simp : (.bool (((ansF (fop .add a b) : Nat) : Int) != ((ansF (fop .add b a) : Nat) : Int)) : Value) = _)) ?_
  refine rs_op rfl (ow_on rfl (ow_move rfl ?_))
  refine rs_op rfl (ow_on rfl (ow_move rfl ?_))
  refine rs_op rfl (ow_on rfl (ow_enter en31 rfl ((mul_any_r _ a b).mono ?_)))
  rintro e w15 ⟨rfl, hb⟩
  refine ⟨_, rfl, ?_⟩
  have XC : ∀ q9, (No) q9 → q9 < w14.heap.size := Mut.none_
  have SC := Nat.le_trans LW.size E.size
  have SE := E.size
  have Ec := Ext.of_below hb No
  replace E := E.trans Ec.no
  clear hb Ec
  refine rs_op rfl (ow_on rfl (ow_move rfl ?_))
  refine rs_op rfl (ow_on rfl (ow_move rfl ?_))
  refine rs_op rfl (ow_on rfl (ow_enter en31 rfl ((mul_any_r _ b a).mono ?_)))
  rintro e w16 ⟨rfl, hb⟩
  refine ⟨_, rfl, ?_⟩
  have XC : ∀ q9, (No) q9 → q9 < w15.heap.size := Mut.none_
  have SC := Nat.le_trans LW.size E.size
  have SE := E.size
  have Ec := Ext.of_below hb No
  replace E := E.trans Ec.no
  clear hb Ec
  refine rs_op rfl (ow_on rfl (ow_neq rfl rfl ?_))
  refine rs_op rfl (ow_pickF rfl rfl ?_)
  refine rs_nil ?_
  refine ew_next ?_
  refine cw_set 133 (.bool false) rfl ((by rw [mul_comm_f a b]; simp : (.bool (((ansF (fop .mul a b) : Nat) : Int) != ((ansF (fop .mul b a) : Nat) : Int)) : Value) = _)) ?_
  refine cw_else rfl ?_
  refine cw_skip ?_
  refine ew_next ?_
  refine cw_seq ?_
  refine cw_region ?_
  refine rs_op rfl (ow_move rfl ?_)
  refine rs_op rfl (ow_eql rfl rfl ?_)
  refine rs_op rfl (ow_move rfl ?_)
  refine rs_op rfl (ow_move rfl ?_)
  refine rs_op rfl (ow_eql rfl rfl ?_)
  refine rs_op rfl (ow_move rfl ?_)
  refine rs_set 135 (.bool ((((a : Nat) : Int) == ((b : Nat) : Int)) || (isZ a && isZ b))) rfl ((by rw [← cmp_zero ha hb hA hB] : (.bool ((cmpF a b) == 0) : Value) = _)) ?_
  refine rs_split 139 rfl (fun q => ?_) (fun q => ?_)
  · have _way := True.intro
    refine rs_op rfl (ow_off rfl ?_)
    refine rs_op rfl (ow_off rfl ?_)
    refine rs_op rfl (ow_off rfl ?_)
    refine rs_op rfl (ow_offU rfl rfl ?_)
    refine rs_op rfl (ow_offU rfl rfl ?_)
    refine rs_op rfl (ow_off rfl ?_)
    refine rs_op rfl (ow_pickT rfl rfl ?_)
    refine rs_op rfl (ow_eqlB Tryz.underlying4 rfl rfl ?_)
    refine rs_op rfl (ow_assign rfl ?_)
    refine rs_nil ?_
    refine ew_next ?_
    refine cw_ret ?_
    refine ew_ret (rs := [.tmp 4]) (vs := [_]) rfl ⟨rfl, trivial⟩ ?_
    exact ⟨by rw [q]; rfl, (LW.step E XLW).toBelow⟩
  · have _way := True.intro
    refine rs_op rfl (ow_on rfl (ow_move rfl ?_))
    refine rs_op rfl (ow_on rfl (ow_enter en35 rfl ((iszero_any _ a ha).mono ?_)))
    rintro e w17 ⟨rfl, hb⟩
    refine ⟨_, rfl, ?_⟩
    have XC : ∀ q9, (No) q9 → q9 < w16.heap.size := Mut.none_
    have SC := Nat.le_trans LW.size E.size
    have SE := E.size
    have Ec := Ext.of_below hb No
    replace E := E.trans Ec.no
    clear hb Ec
    refine rs_op rfl (ow_on rfl (ow_move rfl ?_))
    refine rs_split 142 rfl (fun q2 => ?_) (fun q2 => ?_)
    · have _way := True.intro
      refine rs_op rfl (ow_on rfl (ow_move rfl ?_))
      refine rs_op rfl (ow_on rfl (ow_enter en35 rfl ((iszero_any _ b hb).mono ?_)))
      rintro e w18 ⟨rfl, hb⟩
      refine ⟨_, rfl, ?_⟩
      have XC : ∀ q9, (No) q9 → q9 < w17.heap.size := Mut.none_
      have SC := Nat.le_trans LW.size E.size
      have SE := E.size
      have Ec := Ext.of_below hb No
      replace E := E.trans Ec.no
      clear hb Ec
      refine rs_op rfl (ow_on rfl (ow_pickT rfl rfl ?_))
      refine rs_op rfl (ow_pickF rfl rfl ?_)
      refine rs_op rfl (ow_eqlB Tryz.underlying4 rfl rfl ?_)
      refine rs_op rfl (ow_assign rfl ?_)
      refine rs_nil ?_
      refine ew_next ?_
      refine cw_ret ?_
      refine ew_ret (rs := [.tmp 4]) (vs := [_]) rfl ⟨rfl, trivial⟩ ?_
      exact ⟨by rw [q, q2]; simp; rfl, (LW.step E XLW).toBelow⟩
    · have _way := True.intro
      refine rs_op rfl (ow_off rfl ?_)
      refine rs_op rfl (ow_off rfl ?_)
      refine rs_op rfl (ow_on rfl (ow_pickF rfl rfl ?_))
      refine rs_op rfl (ow_pickF rfl rfl ?_)
      refine rs_op rfl (ow_eqlB Tryz.underlying4 rfl rfl ?_)
      refine rs_op rfl (ow_assign rfl ?_)
      refine rs_nil ?_
      refine ew_next ?_
      refine cw_ret ?_
      refine ew_ret (rs := [.tmp 4]) (vs := [_]) rfl ⟨rfl, trivial⟩ ?_
      exact ⟨by rw [q, q2]; rfl, (LW.step E XLW).toBelow⟩
theorem edges_law : Calls Tryz.prog 7 #[.int .u64 ((a : Nat) : Int), .int .u64 ((b : Nat) : Int)] w fun e w' => e = .returned (.bool true) ∧ Below w.heap.size w w' := by
  cases hA : isN a with
  | true =>
    cases hz : isZ b with
    | true => exact edges_az a b ha w hT hD hA hz
    | false => exact edges_an a b ha w hT hD hA hz
  | false =>
    cases hB : isN b with
    | true =>
      cases hz : isZ b with
      | true => exact edges_bz a b ha hb w hT hD hA hB hz
      | false => exact edges_bn a b ha hb w hT hD hA hB hz
    | false =>
      cases hI : decide (rg a = 9218868437227405312) with
      | true => exact edges_inf a b ha hb w hT hD hA hB hI
      | false => exact edges_fin a b ha hb w hT hD hA hB hI
end
end Go.Proofs.YtljndllhmdpjlaaGreatDoor

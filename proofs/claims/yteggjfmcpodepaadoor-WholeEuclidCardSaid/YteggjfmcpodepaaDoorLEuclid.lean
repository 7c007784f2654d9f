/- The walk of the law WholeEuclid: quotient times divisor and the rest make the number. -/
import Derived.Test.YteggjfmcpodepaaDoorBigI
import Derived.Test.YteggjfmcpodepaaDoorLQuotients
namespace Go.Proofs.YteggjfmcpodepaaDoor
open Go.RowKit
set_option maxRecDepth 100000
theorem rest_facts {n1 n2 : Bool} {X Y : Nat} (hY : 0 < Y) : dr n1 n2 X Y = 0 ∨ (cmpI (dr n1 n2 X Y) 0 = cmpI (sgn n2 Y) 0 ∧ cmpI (dr n1 n2 X Y) (sgn n2 Y) = 0 - cmpI (sgn n2 Y) 0) := by
  have h2 := Nat.mod_lt X hY
  unfold dr
  generalize hr : X % Y = r at *
  by_cases h0 : r = 0
  · left; subst h0; cases n1 <;> cases n2 <;> simp [sgn]
  · right
    cases n1 <;> cases n2 <;> simp only [sgn, cmpI, reduceCtorEq, if_true, if_false, Bool.false_eq_true, h0] <;> (repeat' split) <;> omega
theorem cmpI_b (i j : Int) : -1 ≤ cmpI i j ∧ cmpI i j ≤ 1 := by unfold cmpI; repeat' split; all_goals omega
/-- What DivMod leaves, of a divisor that is not nought. -/
def DivI (w : World) (i j : Int) (e : Ending) (w' : World) : Prop :=
  ∃ q r A c B d, e = .returned (.tuple #[.agg #[.bool (decide (q < 0)), .slice A (limbs q).length c], .agg #[.bool (decide (r < 0)), .slice B (limbs r).length d], .int .i64 0]) ∧ Own w' w.heap.size A c (limbs q) ∧ Own w' w.heap.size B d (limbs r) ∧ Below w.heap.size w w' ∧
    q.natAbs < B18 ^ 30 ∧ r.natAbs < B18 ^ 30 ∧ q * j + r = i ∧ (r = 0 ∨ (cmpI r 0 = cmpI j 0 ∧ cmpI r j = 0 - cmpI j 0))
theorem divI {i j : Int} (A B : Option Addr) (c d : Nat) (w : World) (hi : i.natAbs < B18 ^ 30) (hj : j.natAbs < B18 ^ 30) (h0 : j ≠ 0) (hx : Nums w A (limbs i)) (hy : Nums w B (limbs j)) :
    Calls Tryd.prog 14 #[.agg #[.bool (decide (i < 0)), .slice A (limbs i).length c], .agg #[.bool (decide (j < 0)), .slice B (limbs j).length d]] w (DivI w i j) := by
  have gi := good_limbs hi
  have gj := good_limbs hj
  have hX := val_lt (good_parts gi).1
  have hlX := (good_parts gi).2.2.1
  have hpos : 0 < (limbs j).length := by
    rw [limbs_eq]; exact digs_pos B18_two (by omega)
  have hY : 0 < val B18 (limbs j) := Nat.pos_of_ne_zero (val_ne_zero B18_two (good_parts gj).2.1 (by omega))
  have ei : sgn (decide (i < 0)) (val B18 (limbs i)) = i := by rw [← num_eq, num_limbs]
  have ej : sgn (decide (j < 0)) (val B18 (limbs j)) = j := by rw [← num_eq, num_limbs]
  have hX2 : val B18 (limbs i) < B18 ^ 30 := by have h := sgn_natAbs (decide (i < 0)) (val B18 (limbs i)); rw [ei] at h; rw [← h]; exact hi
  have hY2 : val B18 (limbs j) < B18 ^ 30 := by have h := sgn_natAbs (decide (j < 0)) (val B18 (limbs j)); rw [ej] at h; rw [← h]; exact hj
  refine (divmod_ok A B c d (limbs i) (limbs j) w (decide (i < 0)) (decide (j < 0)) hx hy gi gj hpos).mono fun e w' ⟨A1, c1, B1, d1, he, h1, h2, hb, _⟩ => ?_
  have k1 := euclid (n1 := decide (i < 0)) (n2 := decide (j < 0)) (X := val B18 (limbs i)) hY
  have k2 := rest_facts (n1 := decide (i < 0)) (n2 := decide (j < 0)) (X := val B18 (limbs i)) hY
  rw [ei, ej] at k1
  rw [ej] at k2
  exact ⟨_, _, A1, c1, B1, d1, he, h1, h2, hb, dqI hX2 hY, dr_lt hY2 hY, k1, k2⟩
section
variable (n1 n2 : Bool) (A B : Option Addr) (c d : Nat) (xs ys : List Nat) (w : World)
/-- Not in form. -/
theorem euclid_bad (hx : Nums w A xs) (hy : Nums w B ys) (hl : xs.length ≤ 9223372036854775807) (hl' : ys.length ≤ 9223372036854775807) (hok : (goodB n1 xs && goodB n2 ys) = false) :
    Calls Tryd.prog 10 #[.agg #[.bool n1, .slice A xs.length c], .agg #[.bool n2, .slice B ys.length d]] w (LawTrue w) := by
  have hform := fun w hx hy => lform_any n1 n2 A B c d xs ys w hx hy hl hl'
  have hfo : formE (goodB n1 xs) (goodB n2 ys) = 3 := by unfold formE; rw [hok]; rfl
  rw [hfo] at hform
  have hdiv := fun w hx hy => divmod_form A B c d xs ys w n1 n2 hx hy hl hl' hok
  refine calls_cw Tryd.func10 rfl Tryd.ntmps10 rfl ?_
  have LW := Ext.refl No w
  have E := Ext.refl No w
  have HF : Per No w (fun _ => True) := Per.true_
  replace HF := (HF.on E).and (Per.nums0 hx)
  replace LW := LW.trans E
  replace E := Ext.refl No w
  replace HF := (HF.on E).and (Per.nums0 hy)
  replace LW := LW.trans E
  replace E := Ext.refl No w
  refine cw_seq ?_
  refine cw_region ?_
  refine rs_op rfl (ow_boxB rfl ?_)
  intro gb1 w2 Bb1 Eb1 Gb1
  replace E := E.trans Eb1
  replace HF := (HF.on E).and (Per.blk Bb1 id)
  replace LW := LW.trans E
  replace E := Ext.refl No w2
  clear Eb1 Bb1
  refine rs_op rfl (ow_boxB rfl ?_)
  intro gb3 w4 Bb3 Eb3 Gb3
  replace E := E.trans Eb3
  replace HF := (HF.on E).and (Per.blk Bb3 id)
  replace LW := LW.trans E
  replace E := Ext.refl No w4
  clear Eb3 Bb3
  refine rs_op rfl (ow_assign rfl ?_)
  refine rs_nil ?_
  refine ew_next ?_
  refine cw_seq ?_
  refine cw_seq ?_
  refine cw_region ?_
  refine rs_op rfl (ow_enter en13 rfl ((known_any _).mono ?_))
  rintro e w5 ⟨rfl, hb⟩
  refine ⟨_, rfl, ?_⟩
  replace E := E.call hb
  clear hb
  refine rs_op rfl (ow_not rfl ?_)
  refine rs_nil ?_
  refine ew_next ?_
  refine cw_else rfl ?_
  refine cw_skip ?_
  refine ew_next ?_
  refine cw_seq ?_
  refine cw_region ?_
  refine rs_op rfl (ow_loadB Tryd.underlying24 rfl sz24 rfl (HF.on E).here.1.2 rfl ?_)
  refine rs_op rfl (ow_loadB Tryd.underlying24 rfl sz24 rfl (HF.on E).here.2 rfl ?_)
  refine rs_op rfl (ow_enter en14 rfl ((hdiv _ (HF.on E).here.1.1.1.2 (HF.on E).here.1.1.2).mono ?_))
  rintro e w6 ⟨A1, c1, A2, c2, rfl, _, _, hb, _⟩
  refine ⟨_, rfl, ?_⟩
  replace E := E.call hb
  clear hb
  refine rs_op rfl (ow_move rfl ?_)
  refine rs_op rfl (ow_extract rfl rfl ?_)
  refine rs_op rfl (ow_extract rfl rfl ?_)
  refine rs_op rfl (ow_extract rfl rfl ?_)
  refine rs_op rfl (ow_allocB zr24 ?_)
  intro gb7 w8 Bb7 Eb7 Gb7
  have Gb7 := Nat.le_trans E.size Gb7
  replace E := E.trans Eb7
  clear Eb7
  refine rs_op rfl (ow_allocB zr24 ?_)
  intro gb9 w10 Bb9 Eb9 Gb9
  have Db7_b9 : ¬ One gb9 gb7 := fun e => Nat.lt_irrefl _ (Nat.lt_of_lt_of_le Bb7.lt (Nat.le_trans Gb9 (Nat.le_of_eq (Eq.symm e))))
  have Db9_b7 : ¬ One gb7 gb9 := fun e => Db7_b9 (Eq.symm e)
  replace Bb7 := Bb7.ext Eb9 id
  have Gb9 := Nat.le_trans E.size Gb9
  replace E := E.trans Eb9
  clear Eb9
  refine rs_op0 (ow_store sz24 rfl rfl Bb7 rfl rfl rfl ?_)
  intro w11 Cb7 Eb7 _
  replace Bb9 := Bb9.ext Eb7 Db9_b7
  replace E := E.step Eb7 (fun k hk => Or.inr (by rw [show k = gb7 from hk]; exact Gb7))
  clear Eb7 Bb7
  refine rs_op0 (ow_store sz24 rfl rfl Bb9 rfl rfl rfl ?_)
  intro w12 Cb9 Eb9 _
  replace Cb7 := Cb7.ext Eb9 Db7_b9
  replace E := E.step Eb9 (fun k hk => Or.inr (by rw [show k = gb9 from hk]; exact Gb9))
  clear Eb9 Bb9
  replace HF := (HF.on E).and (Per.blk Cb7 id)
  replace LW := LW.trans E
  replace E := Ext.refl No w12
  clear Cb7
  replace HF := (HF.on E).and (Per.blk Cb9 id)
  replace LW := LW.trans E
  replace E := Ext.refl No w12
  clear Cb9
  refine rs_op rfl (ow_assign rfl ?_)
  refine rs_nil ?_
  refine ew_next ?_
  refine cw_seq ?_
  refine cw_seq ?_
  refine cw_region ?_
  refine rs_op rfl (ow_move rfl ?_)
  refine rs_op rfl (ow_neq rfl rfl ?_)
  refine rs_nil ?_
  refine ew_next ?_
  refine cw_then rfl ?_
  refine cw_seq ?_
  refine cw_region ?_
  refine rs_op rfl (ow_loadB Tryd.underlying24 rfl sz24 rfl (HF.on E).here.1.1.1.2 rfl ?_)
  refine rs_op rfl (ow_loadB Tryd.underlying24 rfl sz24 rfl (HF.on E).here.1.1.2 rfl ?_)
  refine rs_op rfl (ow_enter en15 rfl ((hform _ (HF.on E).here.1.1.1.1.1.2 (HF.on E).here.1.1.1.1.2).mono ?_))
  rintro e w13 ⟨rfl, hb⟩
  refine ⟨_, rfl, ?_⟩
  replace E := E.call hb
  clear hb
  refine rs_op rfl (ow_neq rfl rfl ?_)
  refine rs_op rfl (ow_move rfl ?_)
  refine rs_op rfl (ow_on rfl (ow_move rfl ?_))
  refine rs_op rfl (ow_on rfl (ow_eql rfl rfl ?_))
  refine rs_op rfl (ow_pickT rfl rfl ?_)
  refine rs_op rfl (ow_move rfl ?_)
  refine rs_op rfl (ow_off rfl ?_)
  refine rs_op rfl (ow_off rfl ?_)
  refine rs_op rfl (ow_off rfl ?_)
  refine rs_op rfl (ow_off rfl ?_)
  refine rs_op rfl (ow_off rfl ?_)
  refine rs_op rfl (ow_offU rfl rfl ?_)
  refine rs_op rfl (ow_offU rfl rfl ?_)
  refine rs_op rfl (ow_off rfl ?_)
  refine rs_op rfl (ow_off rfl ?_)
  refine rs_op rfl (ow_offU rfl rfl ?_)
  refine rs_op rfl (ow_offU rfl rfl ?_)
  refine rs_op rfl (ow_offU rfl rfl ?_)
  refine rs_op rfl (ow_offU rfl rfl ?_)
  refine rs_op rfl (ow_off rfl ?_)
  refine rs_op rfl (ow_pickT rfl rfl ?_)
  refine rs_op rfl (ow_assign rfl ?_)
  refine rs_nil ?_
  refine ew_next ?_
  refine cw_ret ?_
  refine ew_then_ret ?_
  refine ew_ret (rs := [.tmp 4]) (vs := [_]) rfl ⟨rfl, trivial⟩ ?_
  exact ⟨rfl, (LW.trans E).toBelow⟩
/-- The divisor is nought. -/
theorem euclid_zero (hx : Nums w A xs) (hy : Nums w B []) (hg : goodB n1 xs = true) (hk : goodB n2 [] = true) :
    Calls Tryd.prog 10 #[.agg #[.bool n1, .slice A xs.length c], .agg #[.bool n2, .slice B 0 d]] w (LawTrue w) := by
  have hl := (good_parts hg).2.2.1
  have hform := fun w hx hy => lform_any n1 n2 A B c d xs [] w hx hy (by omega) (by simp)
  rw [hg, hk] at hform
  have hdiv := fun w hx hy => divmod_zero A B c d xs [] w n1 n2 hx hy hg hk rfl
  refine calls_cw Tryd.func10 rfl Tryd.ntmps10 rfl ?_
  have LW := Ext.refl No w
  have E := Ext.refl No w
  have HF : Per No w (fun _ => True) := Per.true_
  replace HF := (HF.on E).and (Per.nums0 hx)
  replace LW := LW.trans E
  replace E := Ext.refl No w
  replace HF := (HF.on E).and (Per.nums0 hy)
  replace LW := LW.trans E
  replace E := Ext.refl No w
  refine cw_seq ?_
  refine cw_region ?_
  refine rs_op rfl (ow_boxB rfl ?_)
  intro gb1 w2 Bb1 Eb1 Gb1
  replace E := E.trans Eb1
  replace HF := (HF.on E).and (Per.blk Bb1 id)
  replace LW := LW.trans E
  replace E := Ext.refl No w2
  clear Eb1 Bb1
  refine rs_op rfl (ow_boxB rfl ?_)
  intro gb3 w4 Bb3 Eb3 Gb3
  replace E := E.trans Eb3
  replace HF := (HF.on E).and (Per.blk Bb3 id)
  replace LW := LW.trans E
  replace E := Ext.refl No w4
  clear Eb3 Bb3
  refine rs_op rfl (ow_assign rfl ?_)
  refine rs_nil ?_
  refine ew_next ?_
  refine cw_seq ?_
  refine cw_seq ?_
  refine cw_region ?_
  refine rs_op rfl (ow_enter en13 rfl ((known_any _).mono ?_))
  rintro e w5 ⟨rfl, hb⟩
  refine ⟨_, rfl, ?_⟩
  replace E := E.call hb
  clear hb
  refine rs_op rfl (ow_not rfl ?_)
  refine rs_nil ?_
  refine ew_next ?_
  refine cw_else rfl ?_
  refine cw_skip ?_
  refine ew_next ?_
  refine cw_seq ?_
  refine cw_region ?_
  refine rs_op rfl (ow_loadB Tryd.underlying24 rfl sz24 rfl (HF.on E).here.1.2 rfl ?_)
  refine rs_op rfl (ow_loadB Tryd.underlying24 rfl sz24 rfl (HF.on E).here.2 rfl ?_)
  refine rs_op rfl (ow_enter en14 rfl ((hdiv _ (HF.on E).here.1.1.1.2 (HF.on E).here.1.1.2).mono ?_))
  rintro e w6 ⟨A1, c1, A2, c2, rfl, _, _, hb, _⟩
  refine ⟨_, rfl, ?_⟩
  replace E := E.call hb
  clear hb
  refine rs_op rfl (ow_move rfl ?_)
  refine rs_op rfl (ow_extract rfl rfl ?_)
  refine rs_op rfl (ow_extract rfl rfl ?_)
  refine rs_op rfl (ow_extract rfl rfl ?_)
  refine rs_op rfl (ow_allocB zr24 ?_)
  intro gb7 w8 Bb7 Eb7 Gb7
  have Gb7 := Nat.le_trans E.size Gb7
  replace E := E.trans Eb7
  clear Eb7
  refine rs_op rfl (ow_allocB zr24 ?_)
  intro gb9 w10 Bb9 Eb9 Gb9
  have Db7_b9 : ¬ One gb9 gb7 := fun e => Nat.lt_irrefl _ (Nat.lt_of_lt_of_le Bb7.lt (Nat.le_trans Gb9 (Nat.le_of_eq (Eq.symm e))))
  have Db9_b7 : ¬ One gb7 gb9 := fun e => Db7_b9 (Eq.symm e)
  replace Bb7 := Bb7.ext Eb9 id
  have Gb9 := Nat.le_trans E.size Gb9
  replace E := E.trans Eb9
  clear Eb9
  refine rs_op0 (ow_store sz24 rfl rfl Bb7 rfl rfl rfl ?_)
  intro w11 Cb7 Eb7 _
  replace Bb9 := Bb9.ext Eb7 Db9_b7
  replace E := E.step Eb7 (fun k hk => Or.inr (by rw [show k = gb7 from hk]; exact Gb7))
  clear Eb7 Bb7
  refine rs_op0 (ow_store sz24 rfl rfl Bb9 rfl rfl rfl ?_)
  intro w12 Cb9 Eb9 _
  replace Cb7 := Cb7.ext Eb9 Db7_b9
  replace E := E.step Eb9 (fun k hk => Or.inr (by rw [show k = gb9 from hk]; exact Gb9))
  clear Eb9 Bb9
  replace HF := (HF.on E).and (Per.blk Cb7 id)
  replace LW := LW.trans E
  replace E := Ext.refl No w12
  clear Cb7
  replace HF := (HF.on E).and (Per.blk Cb9 id)
  replace LW := LW.trans E
  replace E := Ext.refl No w12
  clear Cb9
  refine rs_op rfl (ow_assign rfl ?_)
  refine rs_nil ?_
  refine ew_next ?_
  refine cw_seq ?_
  refine cw_seq ?_
  refine cw_region ?_
  refine rs_op rfl (ow_move rfl ?_)
  refine rs_op rfl (ow_neq rfl rfl ?_)
  refine rs_nil ?_
  refine ew_next ?_
  refine cw_then rfl ?_
  refine cw_seq ?_
  refine cw_region ?_
  refine rs_op rfl (ow_loadB Tryd.underlying24 rfl sz24 rfl (HF.on E).here.1.1.1.2 rfl ?_)
  refine rs_op rfl (ow_loadB Tryd.underlying24 rfl sz24 rfl (HF.on E).here.1.1.2 rfl ?_)
  refine rs_op rfl (ow_enter en15 rfl ((hform _ (HF.on E).here.1.1.1.1.1.2 (HF.on E).here.1.1.1.1.2).mono ?_))
  rintro e w13 ⟨rfl, hb⟩
  refine ⟨_, rfl, ?_⟩
  replace E := E.call hb
  clear hb
  refine rs_op rfl (ow_neq rfl rfl ?_)
  refine rs_op rfl (ow_move rfl ?_)
  refine rs_op rfl (ow_off rfl ?_)
  refine rs_op rfl (ow_off rfl ?_)
  refine rs_op rfl (ow_pickF rfl rfl ?_)
  refine rs_op rfl (ow_move rfl ?_)
  refine rs_op rfl (ow_on rfl (ow_loadB Tryd.underlying24 rfl sz24 rfl (HF.on E).here.1.1.1.2 rfl ?_))
  refine rs_op rfl (ow_on rfl (ow_loadB Tryd.underlying24 rfl sz24 rfl (HF.on E).here.1.1.2 rfl ?_))
  refine rs_op rfl (ow_on rfl (ow_enter en15 rfl ((hform _ (HF.on E).here.1.1.1.1.1.2 (HF.on E).here.1.1.1.1.2).mono ?_)))
  rintro e w14 ⟨rfl, hb⟩
  refine ⟨_, rfl, ?_⟩
  replace E := E.call hb
  clear hb
  refine rs_op rfl (ow_on rfl (ow_eql rfl rfl ?_))
  refine rs_op rfl (ow_on rfl (ow_move rfl ?_))
  refine rs_op rfl (ow_on rfl (ow_move rfl ?_))
  refine rs_op rfl (ow_on rfl (ow_eql rfl rfl ?_))
  refine rs_op rfl (ow_on rfl (ow_pickT rfl rfl ?_))
  refine rs_op rfl (ow_on rfl (ow_move rfl ?_))
  refine rs_op rfl (ow_on rfl (ow_fieldAddr Tryd.underlying24 rfl sz22 (by decide) rfl ?_))
  refine rs_op rfl (ow_on rfl (ow_loadF Tryd.underlying22 rfl rfl (HF.on E).here.1.1.2 rfl ?_))
  refine rs_op rfl (ow_on rfl (ow_len Tryd.underlying22 rfl ?_))
  refine rs_op rfl (ow_on rfl (ow_eql rfl rfl ?_))
  refine rs_op rfl (ow_on rfl (ow_pickT rfl rfl ?_))
  refine rs_op rfl (ow_pickF rfl rfl ?_)
  refine rs_op rfl (ow_assign rfl ?_)
  refine rs_nil ?_
  refine ew_next ?_
  refine cw_ret ?_
  refine ew_then_ret ?_
  refine ew_ret (rs := [.tmp 4]) (vs := [_]) rfl ⟨rfl, trivial⟩ ?_
  exact ⟨rfl, (LW.trans E).toBelow⟩
end
section
variable (i j : Int) (A B : Option Addr) (c d : Nat) (w : World)
theorem euclid_good (hi : i.natAbs < B18 ^ 30) (hj : j.natAbs < B18 ^ 30) (h0 : j ≠ 0) (hx : Nums w A (limbs i)) (hy : Nums w B (limbs j)) :
    Calls Tryd.prog 10 #[.agg #[.bool (decide (i < 0)), .slice A (limbs i).length c], .agg #[.bool (decide (j < 0)), .slice B (limbs j).length d]] w (LawTrue w) := by
  refine calls_cw Tryd.func10 rfl Tryd.ntmps10 rfl ?_
  have LW := Ext.refl No w
  have E := Ext.refl No w
  have HF : Per No w (fun _ => True) := Per.true_
  replace HF := (HF.on E).and (Per.nums0 hx)
  replace LW := LW.trans E
  replace E := Ext.refl No w
  replace HF := (HF.on E).and (Per.nums0 hy)
  replace LW := LW.trans E
  replace E := Ext.refl No w
  refine cw_seq ?_
  refine cw_region ?_
  refine rs_op rfl (ow_boxB rfl ?_)
  intro gb1 w2 Bb1 Eb1 Gb1
  replace E := E.trans Eb1
  replace HF := (HF.on E).and (Per.blk Bb1 id)
  replace LW := LW.trans E
  replace E := Ext.refl No w2
  clear Eb1 Bb1
  refine rs_op rfl (ow_boxB rfl ?_)
  intro gb3 w4 Bb3 Eb3 Gb3
  replace E := E.trans Eb3
  replace HF := (HF.on E).and (Per.blk Bb3 id)
  replace LW := LW.trans E
  replace E := Ext.refl No w4
  clear Eb3 Bb3
  refine rs_op rfl (ow_assign rfl ?_)
  refine rs_nil ?_
  refine ew_next ?_
  refine cw_seq ?_
  refine cw_seq ?_
  refine cw_region ?_
  refine rs_op rfl (ow_enter en13 rfl ((known_any _).mono ?_))
  rintro e w5 ⟨rfl, hb⟩
  refine ⟨_, rfl, ?_⟩
  replace E := E.call hb
  clear hb
  refine rs_op rfl (ow_not rfl ?_)
  refine rs_nil ?_
  refine ew_next ?_
  refine cw_else rfl ?_
  refine cw_skip ?_
  refine ew_next ?_
  refine cw_seq ?_
  refine cw_region ?_
  refine rs_op rfl (ow_loadB Tryd.underlying24 rfl sz24 rfl (HF.on E).here.1.2 rfl ?_)
  refine rs_op rfl (ow_loadB Tryd.underlying24 rfl sz24 rfl (HF.on E).here.2 rfl ?_)
  refine rs_op rfl (ow_enter en14 rfl ((divI A B c d _ hi hj h0 (HF.on E).here.1.1.1.2 (HF.on E).here.1.1.2).mono ?_))
  rintro e w6 ⟨q, r, A1, c1, A2, c2, rfl, o1, o2, hb, hq, hr, hm, hs⟩
  refine ⟨_, rfl, ?_⟩
  replace E := E.call hb
  clear hb
  replace HF := (HF.on E).and (Per.nums0 o1.nums)
  replace LW := LW.trans E
  replace E := Ext.refl No w6
  replace HF := (HF.on E).and (Per.nums0 o2.nums)
  replace LW := LW.trans E
  replace E := Ext.refl No w6
  refine rs_op rfl (ow_move rfl ?_)
  refine rs_op rfl (ow_extract rfl rfl ?_)
  refine rs_op rfl (ow_extract rfl rfl ?_)
  refine rs_op rfl (ow_extract rfl rfl ?_)
  refine rs_op rfl (ow_allocB zr24 ?_)
  intro gb7 w8 Bb7 Eb7 Gb7
  have Gb7 := Nat.le_trans E.size Gb7
  replace E := E.trans Eb7
  clear Eb7
  refine rs_op rfl (ow_allocB zr24 ?_)
  intro gb9 w10 Bb9 Eb9 Gb9
  have Db7_b9 : ¬ One gb9 gb7 := fun e => Nat.lt_irrefl _ (Nat.lt_of_lt_of_le Bb7.lt (Nat.le_trans Gb9 (Nat.le_of_eq (Eq.symm e))))
  have Db9_b7 : ¬ One gb7 gb9 := fun e => Db7_b9 (Eq.symm e)
  replace Bb7 := Bb7.ext Eb9 id
  have Gb9 := Nat.le_trans E.size Gb9
  replace E := E.trans Eb9
  clear Eb9
  refine rs_op0 (ow_store sz24 rfl rfl Bb7 rfl rfl rfl ?_)
  intro w11 Cb7 Eb7 _
  replace Bb9 := Bb9.ext Eb7 Db9_b7
  replace E := E.step Eb7 (fun k hk => Or.inr (by rw [show k = gb7 from hk]; exact Gb7))
  clear Eb7 Bb7
  refine rs_op0 (ow_store sz24 rfl rfl Bb9 rfl rfl rfl ?_)
  intro w12 Cb9 Eb9 _
  replace Cb7 := Cb7.ext Eb9 Db7_b9
  replace E := E.step Eb9 (fun k hk => Or.inr (by rw [show k = gb9 from hk]; exact Gb9))
  clear Eb9 Bb9
  replace HF := (HF.on E).and (Per.blk Cb7 id)
  replace LW := LW.trans E
  replace E := Ext.refl No w12
  clear Cb7
  replace HF := (HF.on E).and (Per.blk Cb9 id)
  replace LW := LW.trans E
  replace E := Ext.refl No w12
  clear Cb9
  refine rs_op rfl (ow_assign rfl ?_)
  refine rs_nil ?_
  refine ew_next ?_
  refine cw_seq ?_
  refine cw_seq ?_
  refine cw_region ?_
  refine rs_op rfl (ow_move rfl ?_)
  refine rs_op rfl (ow_neq rfl rfl ?_)
  refine rs_nil ?_
  refine ew_next ?_
  refine cw_else rfl ?_
  refine cw_skip ?_
  refine ew_next ?_
  refine cw_seq ?_
  refine cw_region ?_
  refine rs_op rfl (ow_loadB Tryd.underlying24 rfl sz24 rfl (HF.on E).here.1.2 rfl ?_)
  refine rs_op rfl (ow_loadB Tryd.underlying24 rfl sz24 rfl (HF.on E).here.1.1.1.1.2 rfl ?_)
  refine rs_op rfl (ow_enter en36 rfl ((mulI A1 B c1 d _ hq hj (HF.on E).here.1.1.1.2 (HF.on E).here.1.1.1.1.1.1.2).mono ?_))
  rintro e w13 ⟨A3, c3, rfl, o3, hb⟩
  refine ⟨_, rfl, ?_⟩
  replace E := E.call hb
  clear hb
  replace HF := (HF.on E).and (Per.nums0 o3.nums)
  replace LW := LW.trans E
  replace E := Ext.refl No w13
  refine rs_op rfl (ow_move rfl ?_)
  refine rs_op rfl (ow_extract rfl rfl ?_)
  refine rs_op rfl (ow_extract rfl rfl ?_)
  refine rs_op rfl (ow_allocB zr24 ?_)
  intro gb14 w15 Bb14 Eb14 Gb14
  have Gb14 := Nat.le_trans E.size Gb14
  replace E := E.trans Eb14
  clear Eb14
  refine rs_op0 (ow_store sz24 rfl rfl Bb14 rfl rfl rfl ?_)
  intro w16 Cb14 Eb14 _
  replace E := E.step Eb14 (fun k hk => Or.inr (by rw [show k = gb14 from hk]; exact Gb14))
  clear Eb14 Bb14
  replace HF := (HF.on E).and (Per.blk Cb14 id)
  replace LW := LW.trans E
  replace E := Ext.refl No w16
  clear Cb14
  refine rs_op rfl (ow_assign rfl ?_)
  refine rs_nil ?_
  refine ew_next ?_
  refine cw_seq ?_
  refine cw_seq ?_
  refine cw_region ?_
  refine rs_op rfl (ow_move rfl ?_)
  refine rs_op rfl (ow_neq rfl rfl ?_)
  refine rs_nil ?_
  refine ew_next ?_
  refine cw_cond rfl (fun h => ?_) (fun h => ?_)
  · have _way := True.intro
    have h7 : outE true (q * j) = 7 := by
      unfold outE at h ⊢
      rw [if_pos rfl] at h ⊢
      split
      · rename_i h9; rw [if_pos h9] at h; exact absurd h (by decide)
      · rfl
    refine cw_seq ?_
    refine cw_region ?_
    refine rs_op rfl (ow_move rfl ?_)
    refine rs_op rfl (ow_eql rfl rfl ?_)
    refine rs_op rfl (ow_assign rfl ?_)
    refine rs_nil ?_
    refine ew_next ?_
    refine cw_ret ?_
    refine ew_then_ret ?_
    refine ew_ret (rs := [.tmp 4]) (vs := [_]) rfl ⟨rfl, trivial⟩ ?_
    exact ⟨by rw [h7]; rfl, (LW.trans E).toBelow⟩
  · have _way := True.intro
    have h9 : (q * j).natAbs < B18 ^ 30 := outE_zero (by simpa using h)
    have hV : outV true (q * j) = q * j := outV_ok h9
    refine cw_skip ?_
    refine ew_next ?_
    refine cw_seq ?_
    refine cw_region ?_
    refine rs_op rfl (ow_loadB Tryd.underlying24 rfl sz24 rfl (HF.on E).here.2 rfl ?_)
    refine rs_op rfl (ow_loadB Tryd.underlying24 rfl sz24 rfl (HF.on E).here.1.1.2 rfl ?_)
    refine rs_op rfl (ow_enter en27 rfl ((addI A3 A2 c3 c2 _ outV_lt hr (HF.on E).here.1.2 (HF.on E).here.1.1.1.1.2).mono ?_))
    rintro e w17 ⟨A4, c4, rfl, o4, hb⟩
    refine ⟨_, rfl, ?_⟩
    replace E := E.call hb
    clear hb
    replace HF := (HF.on E).and (Per.nums0 o4.nums)
    replace LW := LW.trans E
    replace E := Ext.refl No w17
    have hV2 : outV true (q * j) + r = i := by rw [hV]; exact hm
    refine rs_op rfl (ow_move rfl ?_)
    refine rs_op rfl (ow_extract rfl rfl ?_)
    refine rs_op rfl (ow_extract rfl rfl ?_)
    refine rs_op rfl (ow_allocB zr24 ?_)
    intro gb18 w19 Bb18 Eb18 Gb18
    have Gb18 := Nat.le_trans E.size Gb18
    replace E := E.trans Eb18
    clear Eb18
    refine rs_op0 (ow_store sz24 rfl rfl Bb18 rfl rfl rfl ?_)
    intro w20 Cb18 Eb18 _
    replace E := E.step Eb18 (fun k hk => Or.inr (by rw [show k = gb18 from hk]; exact Gb18))
    clear Eb18 Bb18
    replace HF := (HF.on E).and (Per.blk Cb18 id)
    replace LW := LW.trans E
    replace E := Ext.refl No w20
    clear Cb18
    refine rs_op rfl (ow_assign rfl ?_)
    refine rs_nil ?_
    refine ew_next ?_
    refine cw_seq ?_
    refine cw_seq ?_
    refine cw_region ?_
    refine rs_op rfl (ow_move rfl ?_)
    refine rs_op rfl (ow_neq rfl rfl ?_)
    refine rs_op rfl (ow_move rfl ?_)
    refine rs_set 63 (.bool false) rfl (by rw [hV2, outE_ok hi]; rfl) ?_
    refine rs_op rfl (ow_on rfl (ow_loadB Tryd.underlying24 rfl sz24 rfl (HF.on E).here.2 rfl ?_))
    refine rs_op rfl (ow_on rfl (ow_loadB Tryd.underlying24 rfl sz24 rfl (HF.on E).here.1.1.1.1.1.1.1.1.1.2 rfl ?_))
    refine rs_op rfl (ow_on rfl (ow_enter en21 rfl ((sameI A4 A c4 c _ outV_lt hi (HF.on E).here.1.2 (HF.on E).here.1.1.1.1.1.1.1.1.1.1.1.2 (by rw [hV2, outV_ok hi])).mono ?_)))
    rintro e w21 ⟨rfl, hb⟩
    refine ⟨_, rfl, ?_⟩
    replace E := E.call hb
    clear hb
    refine rs_op rfl (ow_on rfl (ow_not rfl ?_))
    refine rs_op rfl (ow_pickF rfl rfl ?_)
    refine rs_nil ?_
    refine ew_next ?_
    refine cw_else rfl ?_
    refine cw_skip ?_
    refine ew_next ?_
    refine cw_seq ?_
    refine cw_seq ?_
    refine cw_region ?_
    refine rs_op rfl (ow_loadB Tryd.underlying24 rfl sz24 rfl (HF.on E).here.1.1.1.1.2 rfl ?_)
    refine rs_op rfl (ow_enter en30 rfl ((signI A2 c2 _ hr (HF.on E).here.1.1.1.1.1.1.2).mono ?_))
    rintro e w22 ⟨rfl, hb⟩
    refine ⟨_, rfl, ?_⟩
    replace E := E.call hb
    clear hb
    refine rs_op rfl (ow_eql rfl rfl ?_)
    refine rs_nil ?_
    refine ew_next ?_
    refine cw_cond rfl (fun h5 => ?_) (fun h5 => ?_)
    · have _way := True.intro
      refine cw_seq ?_
      refine cw_region ?_
      refine rs_op rfl (ow_assign rfl ?_)
      refine rs_nil ?_
      refine ew_next ?_
      refine cw_ret ?_
      refine ew_then_ret ?_
      refine ew_ret (rs := [.tmp 4]) (vs := [_]) rfl ⟨rfl, trivial⟩ ?_
      exact ⟨rfl, (LW.trans E).toBelow⟩
    · have _way := True.intro
      have hs := hs.resolve_left (fun e => by subst e; simp [cmpI] at h5)
      have hsb := cmpI_b j 0
      refine cw_skip ?_
      refine ew_next ?_
      refine cw_seq ?_
      refine cw_drawn [] (fxAt [Fx.of (.agg #[.bool (decide (r < 0)), .slice A2 (limbs r).length c2]),
          Fx.of (.int .i64 (cmpI r 0)),
          Fx.of (.agg #[.bool (decide (j < 0)), .slice B (limbs j).length d]),
          Fx.of (.int .i64 (cmpI j 0)),
          Fx.of (.bool true),
          Fx.of (.bool true),
          Fx.of (.agg #[.bool (decide (r < 0)), .slice A2 (limbs r).length c2]),
          Fx.of (.agg #[.bool (decide (j < 0)), .slice B (limbs j).length d]),
          Fx.of (.int .i64 (cmpI r j)),
          Fx.of (.agg #[.bool (decide (j < 0)), .slice B (limbs j).length d]),
          Fx.of (.int .i64 (cmpI j 0)),
          Fx.of (.int .i64 (0 - (cmpI j 0))),
          Fx.of (.bool true),
          Fx.of (.bool true),
          Fx.of (.bool true)]) mixed rfl ?_ ?_
      · refine ⟨?_, ?_, ?_, ?_, ?_, ?_, ?_, ?_, ?_, ?_, ?_, ?_, ?_, ?_, ?_, trivial⟩
        · intro vs X w K
          have LE := K.1
          have XN := K.2.1
          exact ow_loadB Tryd.underlying24 rfl sz24 rfl (HF.on (E.drew.trans LE)).here.1.1.1.1.2 rfl ⟨Below.refl _ _, Left.of rfl⟩
        · intro vs X w K
          have LE := K.1
          have XN := K.2.1
          obtain ⟨_, e0, k0⟩ := K.dep 0 rfl rfl rfl
          refine ow_set 72 (.agg #[.bool (decide (r < 0)), .slice A2 (limbs r).length c2]) rfl e0 ?_
          refine ow_enter en30 rfl ((signI A2 c2 _ hr (HF.on (E.drew.trans LE)).here.1.1.1.1.1.1.2).mono ?_)
          rintro e w2 ⟨rfl, hb⟩
          exact ⟨_, rfl, hb, Left.of rfl⟩
        · intro vs X w K
          have LE := K.1
          have XN := K.2.1
          exact ow_loadB Tryd.underlying24 rfl sz24 rfl (HF.on (E.drew.trans LE)).here.1.1.1.1.1.1.1.1.2 rfl ⟨Below.refl _ _, Left.of rfl⟩
        · intro vs X w K
          have LE := K.1
          have XN := K.2.1
          obtain ⟨_, e2, k2⟩ := K.dep 2 rfl rfl rfl
          refine ow_set 74 (.agg #[.bool (decide (j < 0)), .slice B (limbs j).length d]) rfl e2 ?_
          refine ow_enter en30 rfl ((signI B d _ hj (HF.on (E.drew.trans LE)).here.1.1.1.1.1.1.1.1.1.1.2).mono ?_)
          rintro e w2 ⟨rfl, hb⟩
          exact ⟨_, rfl, hb, Left.of rfl⟩
        · intro vs X w K
          have LE := K.1
          have XN := K.2.1
          obtain ⟨_, e1, k1⟩ := K.dep 1 rfl rfl rfl
          refine ow_set 73 (.int .i64 (cmpI r 0)) rfl e1 ?_
          obtain ⟨_, e3, k3⟩ := K.dep 3 rfl rfl rfl
          refine ow_set 75 (.int .i64 (cmpI j 0)) rfl e3 ?_
          exact ow_eql rfl rfl ⟨Below.refl _ _, Left.of (by rw [hs.1]; simp)⟩
        · intro vs X w K
          have LE := K.1
          have XN := K.2.1
          obtain ⟨_, e4, k4⟩ := K.dep 4 rfl rfl rfl
          refine ow_set 76 (.bool true) rfl e4 ?_
          exact ow_move rfl ⟨Below.refl _ _, Left.of rfl⟩
        · intro vs X w K
          have LE := K.1
          have XN := K.2.1
          obtain ⟨_, e5, k5⟩ := K.dep 5 rfl rfl rfl
          refine ow_set 77 (.bool true) rfl e5 ?_
          exact ow_on rfl (ow_loadB Tryd.underlying24 rfl sz24 rfl (HF.on (E.drew.trans LE)).here.1.1.1.1.2 rfl ⟨Below.refl _ _, Left.of rfl⟩)
        · intro vs X w K
          have LE := K.1
          have XN := K.2.1
          obtain ⟨_, e5, k5⟩ := K.dep 5 rfl rfl rfl
          refine ow_set 77 (.bool true) rfl e5 ?_
          exact ow_on rfl (ow_loadB Tryd.underlying24 rfl sz24 rfl (HF.on (E.drew.trans LE)).here.1.1.1.1.1.1.1.1.2 rfl ⟨Below.refl _ _, Left.of rfl⟩)
        · intro vs X w K
          have LE := K.1
          have XN := K.2.1
          obtain ⟨_, e6, k6⟩ := K.dep 6 rfl rfl rfl
          refine ow_set 78 (.agg #[.bool (decide (r < 0)), .slice A2 (limbs r).length c2]) rfl e6 ?_
          obtain ⟨_, e7, k7⟩ := K.dep 7 rfl rfl rfl
          refine ow_set 79 (.agg #[.bool (decide (j < 0)), .slice B (limbs j).length d]) rfl e7 ?_
          obtain ⟨_, e5, k5⟩ := K.dep 5 rfl rfl rfl
          refine ow_set 77 (.bool true) rfl e5 ?_
          refine ow_on rfl (ow_enter en29 rfl ((cmpI_ A2 B c2 d _ hr hj (HF.on (E.drew.trans LE)).here.1.1.1.1.1.1.2 (HF.on (E.drew.trans LE)).here.1.1.1.1.1.1.1.1.1.1.2).mono ?_))
          rintro e w2 ⟨rfl, hb⟩
          exact ⟨_, rfl, hb, Left.of rfl⟩
        · intro vs X w K
          have LE := K.1
          have XN := K.2.1
          obtain ⟨_, e5, k5⟩ := K.dep 5 rfl rfl rfl
          refine ow_set 77 (.bool true) rfl e5 ?_
          exact ow_on rfl (ow_loadB Tryd.underlying24 rfl sz24 rfl (HF.on (E.drew.trans LE)).here.1.1.1.1.1.1.1.1.2 rfl ⟨Below.refl _ _, Left.of rfl⟩)
        · intro vs X w K
          have LE := K.1
          have XN := K.2.1
          obtain ⟨_, e9, k9⟩ := K.dep 9 rfl rfl rfl
          refine ow_set 81 (.agg #[.bool (decide (j < 0)), .slice B (limbs j).length d]) rfl e9 ?_
          obtain ⟨_, e5, k5⟩ := K.dep 5 rfl rfl rfl
          refine ow_set 77 (.bool true) rfl e5 ?_
          refine ow_on rfl (ow_enter en30 rfl ((signI B d _ hj (HF.on (E.drew.trans LE)).here.1.1.1.1.1.1.1.1.1.1.2).mono ?_))
          rintro e w2 ⟨rfl, hb⟩
          exact ⟨_, rfl, hb, Left.of rfl⟩
        · intro vs X w K
          have LE := K.1
          have XN := K.2.1
          obtain ⟨_, e10, k10⟩ := K.dep 10 rfl rfl rfl
          refine ow_set 82 (.int .i64 (cmpI j 0)) rfl e10 ?_
          obtain ⟨_, e5, k5⟩ := K.dep 5 rfl rfl rfl
          refine ow_set 77 (.bool true) rfl e5 ?_
          exact ow_on rfl (ow_neg rfl (wrap_i64 (by omega)) ⟨Below.refl _ _, Left.of rfl⟩)
        · intro vs X w K
          have LE := K.1
          have XN := K.2.1
          obtain ⟨_, e8, k8⟩ := K.dep 8 rfl rfl rfl
          refine ow_set 80 (.int .i64 (cmpI r j)) rfl e8 ?_
          obtain ⟨_, e11, k11⟩ := K.dep 11 rfl rfl rfl
          refine ow_set 83 (.int .i64 (0 - (cmpI j 0))) rfl e11 ?_
          obtain ⟨_, e5, k5⟩ := K.dep 5 rfl rfl rfl
          refine ow_set 77 (.bool true) rfl e5 ?_
          exact ow_on rfl (ow_eql rfl rfl ⟨Below.refl _ _, Left.of (by rw [hs.2]; simp)⟩)
        · intro vs X w K
          have LE := K.1
          have XN := K.2.1
          obtain ⟨_, e5, k5⟩ := K.dep 5 rfl rfl rfl
          refine ow_set 77 (.bool true) rfl e5 ?_
          obtain ⟨_, e12, k12⟩ := K.dep 12 rfl rfl rfl
          refine ow_set 84 (.bool true) rfl e12 ?_
          exact ow_pickT rfl rfl ⟨Below.refl _ _, Left.of rfl⟩
        · intro vs X w K
          have LE := K.1
          have XN := K.2.1
          obtain ⟨_, e13, k13⟩ := K.dep 13 rfl rfl rfl
          refine ow_set 85 (.bool true) rfl e13 ?_
          exact ow_assign rfl ⟨Below.refl _ _, Left.of rfl⟩
      intro vs w23 LE AL AF AA
      replace E := E.drew.trans LE
      obtain ⟨_, e14, k14⟩ := AL.2.2.2.2.2.2.2.2.2.2.2.2.2.2.1
      refine ew_sub (τ := [(4, .bool true)]) ⟨congrArg some e14, trivial⟩ ?_
      clear AL AF AA LE e14 k14
      refine ew_next ?_
      refine cw_ret ?_
      refine ew_ret (rs := [.tmp 4]) (vs := [_]) rfl ⟨rfl, trivial⟩ ?_
      exact ⟨rfl, (LW.trans E).toBelow⟩
end
/-- WholeEuclid answers true at every two numbers. -/
theorem euclid_law (n1 : Bool) (A : Option Addr) (c : Nat) (xs : List Nat) (n2 : Bool) (B : Option Addr) (d : Nat) (ys : List Nat) (w : World) (hx : Nums w A xs) (hl : xs.length ≤ 9223372036854775807) (hy : Nums w B ys) (hl' : ys.length ≤ 9223372036854775807) :
    Calls Tryd.prog 10 #[.agg #[.bool n1, .slice A xs.length c], .agg #[.bool n2, .slice B ys.length d]] w fun e w' => e = .returned (.bool true) ∧ Below w.heap.size w w' := by
  cases hok : (goodB n1 xs && goodB n2 ys)
  · exact euclid_bad n1 n2 A B c d xs ys w hx hy hl hl' hok
  · obtain ⟨hg, hk⟩ := Bool.and_eq_true_iff.1 hok
    by_cases h0 : ys = []
    · subst h0
      exact euclid_zero n1 n2 A B c d xs w hx hy hg hk
    · obtain ⟨i, rfl, rfl, hi⟩ := good_is hg
      obtain ⟨j, rfl, rfl, hj⟩ := good_is hk
      exact euclid_good i j A B c d w hi hj (fun e => by subst e; exact h0 limbs_zero) hx hy
end Go.Proofs.YteggjfmcpodepaaDoor

/- The walk of the law WholeRing: sums and products in any order; a difference undoes a sum; a product spreads over a sum. -/
import Derived.Test.YteggjfmcpodepaaDoorBigI
namespace Go.Proofs.YteggjfmcpodepaaDoor
open Go.RowKit
set_option maxRecDepth 100000
section
variable (n1 n2 n3 : Bool) (A B C : Option Addr) (c d f : Nat) (xs ys zs : List Nat) (w : World)
theorem ring_bad1 (hx : Nums w A xs) (hy : Nums w B ys) (hz : Nums w C zs) (hl : xs.length ≤ 9223372036854775807) (hl' : ys.length ≤ 9223372036854775807) (hg : goodB n1 xs = false) :
    Calls Tryd.prog 9 #[.agg #[.bool n1, .slice A xs.length c], .agg #[.bool n2, .slice B ys.length d], .agg #[.bool n3, .slice C zs.length f]] w (LawTrue w) := by
  have hgood := fun w hx => good_any n1 c w A xs hl hx
  have hrgood := fun w hx => rgood_any n1 c w A xs hl hx
  have hform := fun w hx hy => lform_any n1 n2 A B c d xs ys w hx hy hl hl'
  rw [hg] at hgood hrgood hform
  refine calls_cw Tryd.func9 rfl Tryd.ntmps9 rfl ?_
  have LW := Ext.refl No w
  have E := Ext.refl No w
  have HF : Per No w (fun _ => True) := Per.true_
  replace HF := (HF.on E).and (Per.nums0 hx)
  replace LW := LW.trans E
  replace E := Ext.refl No w
  replace HF := (HF.on E).and (Per.nums0 hy)
  replace LW := LW.trans E
  replace E := Ext.refl No w
  replace HF := (HF.on E).and (Per.nums0 hz)
  replace LW := LW.trans E
  replace E := Ext.refl No w
  refine cw_seq ?_
  refine cw_region ?_
  refine rs_op rfl (ow_boxB rfl ?_)
  intro gb1 w2 Bb1 Eb1 Gb1
  replace E := E.trans Eb1
  replace HF := (HF.on E).and (Per.blk Bb1 id)
  replace LW := LW.trans E
  replace E := Ext.refl No w2
  clear Eb1 Bb1
  refine rs_op rfl (ow_boxB rfl ?_)
  intro gb3 w4 Bb3 Eb3 Gb3
  replace E := E.trans Eb3
  replace HF := (HF.on E).and (Per.blk Bb3 id)
  replace LW := LW.trans E
  replace E := Ext.refl No w4
  clear Eb3 Bb3
  refine rs_op rfl (ow_boxB rfl ?_)
  intro gb5 w6 Bb5 Eb5 Gb5
  replace E := E.trans Eb5
  replace HF := (HF.on E).and (Per.blk Bb5 id)
  replace LW := LW.trans E
  replace E := Ext.refl No w6
  clear Eb5 Bb5
  refine rs_op rfl (ow_assign rfl ?_)
  refine rs_nil ?_
  refine ew_next ?_
  refine cw_seq ?_
  refine cw_seq ?_
  refine cw_region ?_
  refine rs_op rfl (ow_enter en13 rfl ((known_any _).mono ?_))
  rintro e w7 ⟨rfl, hb⟩
  refine ⟨_, rfl, ?_⟩
  replace E := E.call hb
  clear hb
  refine rs_op rfl (ow_not rfl ?_)
  refine rs_nil ?_
  refine ew_next ?_
  refine cw_else rfl ?_
  refine cw_skip ?_
  refine ew_next ?_
  refine cw_seq ?_
  refine cw_seq ?_
  refine cw_region ?_
  refine rs_op rfl (ow_loadB Tryd.underlying24 rfl sz24 rfl (HF.on E).here.1.1.2 rfl ?_)
  refine rs_op rfl (ow_enter en19 rfl ((hgood _ (HF.on E).here.1.1.1.1.1.2).mono ?_))
  rintro e w8 ⟨rfl, hb⟩
  refine ⟨_, rfl, ?_⟩
  replace E := E.call hb
  clear hb
  refine rs_op rfl (ow_not rfl ?_)
  refine rs_op rfl (ow_move rfl ?_)
  refine rs_op rfl (ow_off rfl ?_)
  refine rs_op rfl (ow_off rfl ?_)
  refine rs_op rfl (ow_off rfl ?_)
  refine rs_op rfl (ow_pickT rfl rfl ?_)
  refine rs_op rfl (ow_move rfl ?_)
  refine rs_op rfl (ow_off rfl ?_)
  refine rs_op rfl (ow_off rfl ?_)
  refine rs_op rfl (ow_off rfl ?_)
  refine rs_op rfl (ow_pickT rfl rfl ?_)
  refine rs_nil ?_
  refine ew_next ?_
  refine cw_then rfl ?_
  refine cw_seq ?_
  refine cw_drawn [] (fxAt [Fx.of (.agg #[.bool n1, .slice A xs.length c]),
      Fx.of (.bool false),
      Fx.of (.agg #[.bool n1, .slice A xs.length c]),
      Fx.of (.bool false),
      Fx.of (.bool false),
      Fx.of (.bool false),
      Fx.of (.agg #[.bool n1, .slice A xs.length c]),
      Fx.of (.agg #[.bool n2, .slice B ys.length d]),
      Fx.of (.int .i64 3),
      Fx.of (.bool true),
      Fx.of (.bool true),
      Fx.of (.bool true),
      Fx.of undef,
      Fx.of undef,
      Fx.of undef,
      Fx.of undef,
      Fx.of (.bool true),
      Fx.of (.bool true)]) mixed rfl ?_ ?_
  · refine ⟨?_, ?_, ?_, ?_, ?_, ?_, ?_, ?_, ?_, ?_, ?_, ?_, ?_, ?_, ?_, ?_, ?_, ?_, trivial⟩
    · intro vs X w K
      have LE := K.1
      have XN := K.2.1
      exact ow_loadB Tryd.underlying24 rfl sz24 rfl (HF.on (E.drew.trans LE)).here.1.1.2 rfl ⟨Below.refl _ _, Left.of rfl⟩
    · intro vs X w K
      have LE := K.1
      have XN := K.2.1
      obtain ⟨_, e0, k0⟩ := K.dep 0 rfl rfl rfl
      refine ow_set 38 (.agg #[.bool n1, .slice A xs.length c]) rfl e0 ?_
      refine ow_enter en20 rfl ((hrgood _ (HF.on (E.drew.trans LE)).here.1.1.1.1.1.2).mono ?_)
      rintro e w2 ⟨rfl, hb⟩
      exact ⟨_, rfl, hb, Left.of rfl⟩
    · intro vs X w K
      have LE := K.1
      have XN := K.2.1
      exact ow_loadB Tryd.underlying24 rfl sz24 rfl (HF.on (E.drew.trans LE)).here.1.1.2 rfl ⟨Below.refl _ _, Left.of rfl⟩
    · intro vs X w K
      have LE := K.1
      have XN := K.2.1
      obtain ⟨_, e2, k2⟩ := K.dep 2 rfl rfl rfl
      refine ow_set 40 (.agg #[.bool n1, .slice A xs.length c]) rfl e2 ?_
      refine ow_enter en19 rfl ((hgood _ (HF.on (E.drew.trans LE)).here.1.1.1.1.1.2).mono ?_)
      rintro e w2 ⟨rfl, hb⟩
      exact ⟨_, rfl, hb, Left.of rfl⟩
    · intro vs X w K
      have LE := K.1
      have XN := K.2.1
      obtain ⟨_, e1, k1⟩ := K.dep 1 rfl rfl rfl
      refine ow_set 39 (.bool false) rfl e1 ?_
      obtain ⟨_, e3, k3⟩ := K.dep 3 rfl rfl rfl
      refine ow_set 41 (.bool false) rfl e3 ?_
      exact ow_neqB Tryd.underlying4 rfl rfl ⟨Below.refl _ _, Left.of (rfl)⟩
    · intro vs X w K
      have LE := K.1
      have XN := K.2.1
      obtain ⟨_, e4, k4⟩ := K.dep 4 rfl rfl rfl
      refine ow_set 42 (.bool false) rfl e4 ?_
      exact ow_move rfl ⟨Below.refl _ _, Left.of rfl⟩
    · intro vs X w K
      have LE := K.1
      have XN := K.2.1
      obtain ⟨_, e5, k5⟩ := K.dep 5 rfl rfl rfl
      refine ow_set 43 (.bool false) rfl e5 ?_
      exact ow_on rfl (ow_loadB Tryd.underlying24 rfl sz24 rfl (HF.on (E.drew.trans LE)).here.1.1.2 rfl ⟨Below.refl _ _, Left.of rfl⟩)
    · intro vs X w K
      have LE := K.1
      have XN := K.2.1
      obtain ⟨_, e5, k5⟩ := K.dep 5 rfl rfl rfl
      refine ow_set 43 (.bool false) rfl e5 ?_
      exact ow_on rfl (ow_loadB Tryd.underlying24 rfl sz24 rfl (HF.on (E.drew.trans LE)).here.1.2 rfl ⟨Below.refl _ _, Left.of rfl⟩)
    · intro vs X w K
      have LE := K.1
      have XN := K.2.1
      obtain ⟨_, e6, k6⟩ := K.dep 6 rfl rfl rfl
      refine ow_set 44 (.agg #[.bool n1, .slice A xs.length c]) rfl e6 ?_
      obtain ⟨_, e7, k7⟩ := K.dep 7 rfl rfl rfl
      refine ow_set 45 (.agg #[.bool n2, .slice B ys.length d]) rfl e7 ?_
      obtain ⟨_, e5, k5⟩ := K.dep 5 rfl rfl rfl
      refine ow_set 43 (.bool false) rfl e5 ?_
      refine ow_on rfl (ow_enter en15 rfl ((hform _ (HF.on (E.drew.trans LE)).here.1.1.1.1.1.2 (HF.on (E.drew.trans LE)).here.1.1.1.1.2).mono ?_))
      rintro e w2 ⟨rfl, hb⟩
      exact ⟨_, rfl, hb, Left.of rfl⟩
    · intro vs X w K
      have LE := K.1
      have XN := K.2.1
      obtain ⟨_, e8, k8⟩ := K.dep 8 rfl rfl rfl
      refine ow_set 46 (.int .i64 3) rfl e8 ?_
      obtain ⟨_, e5, k5⟩ := K.dep 5 rfl rfl rfl
      refine ow_set 43 (.bool false) rfl e5 ?_
      exact ow_on rfl (ow_neq rfl rfl ⟨Below.refl _ _, Left.of (rfl)⟩)
    · intro vs X w K
      have LE := K.1
      have XN := K.2.1
      obtain ⟨_, e5, k5⟩ := K.dep 5 rfl rfl rfl
      refine ow_set 43 (.bool false) rfl e5 ?_
      obtain ⟨_, e9, k9⟩ := K.dep 9 rfl rfl rfl
      refine ow_set 47 (.bool true) rfl e9 ?_
      exact ow_pickF rfl rfl ⟨Below.refl _ _, Left.of rfl⟩
    · intro vs X w K
      have LE := K.1
      have XN := K.2.1
      obtain ⟨_, e10, k10⟩ := K.dep 10 rfl rfl rfl
      refine ow_set 48 (.bool true) rfl e10 ?_
      exact ow_move rfl ⟨Below.refl _ _, Left.of rfl⟩
    · intro vs X w K
      have LE := K.1
      have XN := K.2.1
      obtain ⟨_, e11, k11⟩ := K.dep 11 rfl rfl rfl
      refine ow_set 49 (.bool true) rfl e11 ?_
      exact ow_off rfl ⟨Below.refl _ _, Left.of rfl⟩
    · intro vs X w K
      have LE := K.1
      have XN := K.2.1
      obtain ⟨_, e11, k11⟩ := K.dep 11 rfl rfl rfl
      refine ow_set 49 (.bool true) rfl e11 ?_
      exact ow_off rfl ⟨Below.refl _ _, Left.of rfl⟩
    · intro vs X w K
      have LE := K.1
      have XN := K.2.1
      obtain ⟨_, e12, k12⟩ := K.dep 12 rfl rfl rfl
      refine ow_set 50 (undef) rfl e12 ?_
      obtain ⟨_, e13, k13⟩ := K.dep 13 rfl rfl rfl
      refine ow_set 51 (undef) rfl e13 ?_
      obtain ⟨_, e11, k11⟩ := K.dep 11 rfl rfl rfl
      refine ow_set 49 (.bool true) rfl e11 ?_
      exact ow_off rfl ⟨Below.refl _ _, Left.of rfl⟩
    · intro vs X w K
      have LE := K.1
      have XN := K.2.1
      obtain ⟨_, e14, k14⟩ := K.dep 14 rfl rfl rfl
      refine ow_set 52 (undef) rfl e14 ?_
      obtain ⟨_, e11, k11⟩ := K.dep 11 rfl rfl rfl
      refine ow_set 49 (.bool true) rfl e11 ?_
      exact ow_off rfl ⟨Below.refl _ _, Left.of rfl⟩
    · intro vs X w K
      have LE := K.1
      have XN := K.2.1
      obtain ⟨_, e11, k11⟩ := K.dep 11 rfl rfl rfl
      refine ow_set 49 (.bool true) rfl e11 ?_
      obtain ⟨_, e15, k15⟩ := K.dep 15 rfl rfl rfl
      refine ow_set 53 (undef) rfl e15 ?_
      exact ow_pickT rfl rfl ⟨Below.refl _ _, Left.of rfl⟩
    · intro vs X w K
      have LE := K.1
      have XN := K.2.1
      obtain ⟨_, e16, k16⟩ := K.dep 16 rfl rfl rfl
      refine ow_set 54 (.bool true) rfl e16 ?_
      exact ow_assign rfl ⟨Below.refl _ _, Left.of rfl⟩
  intro vs w9 LE AL AF AA
  replace E := E.drew.trans LE
  obtain ⟨_, e17, k17⟩ := AL.2.2.2.2.2.2.2.2.2.2.2.2.2.2.2.2.2.1
  refine ew_sub (τ := [(3, _), (4, _), (5, _), (6, .bool true)]) ⟨rfl, rfl, rfl, congrArg some e17, trivial⟩ ?_
  clear AL AF AA LE e17 k17
  refine ew_next ?_
  refine cw_ret ?_
  refine ew_then_ret ?_
  refine ew_ret (rs := [.tmp 6]) (vs := [_]) rfl ⟨rfl, trivial⟩ ?_
  exact ⟨rfl, (LW.trans E).toBelow⟩
theorem ring_bad2 (hx : Nums w A xs) (hy : Nums w B ys) (hz : Nums w C zs) (hl : xs.length ≤ 9223372036854775807) (hl' : ys.length ≤ 9223372036854775807) (hg : goodB n1 xs = true) (hk : goodB n2 ys = false) :
    Calls Tryd.prog 9 #[.agg #[.bool n1, .slice A xs.length c], .agg #[.bool n2, .slice B ys.length d], .agg #[.bool n3, .slice C zs.length f]] w (LawTrue w) := by
  have hgood := fun w hx => good_any n1 c w A xs hl hx
  have hgood2 := fun w hx => good_any n2 d w B ys hl' hx
  have hrgood := fun w hx => rgood_any n1 c w A xs hl hx
  have hform := fun w hx hy => lform_any n1 n2 A B c d xs ys w hx hy hl hl'
  rw [hg] at hgood hrgood hform
  rw [hk] at hgood2 hform
  refine calls_cw Tryd.func9 rfl Tryd.ntmps9 rfl ?_
  have LW := Ext.refl No w
  have E := Ext.refl No w
  have HF : Per No w (fun _ => True) := Per.true_
  replace HF := (HF.on E).and (Per.nums0 hx)
  replace LW := LW.trans E
  replace E := Ext.refl No w
  replace HF := (HF.on E).and (Per.nums0 hy)
  replace LW := LW.trans E
  replace E := Ext.refl No w
  replace HF := (HF.on E).and (Per.nums0 hz)
  replace LW := LW.trans E
  replace E := Ext.refl No w
  refine cw_seq ?_
  refine cw_region ?_
  refine rs_op rfl (ow_boxB rfl ?_)
  intro gb1 w2 Bb1 Eb1 Gb1
  replace E := E.trans Eb1
  replace HF := (HF.on E).and (Per.blk Bb1 id)
  replace LW := LW.trans E
  replace E := Ext.refl No w2
  clear Eb1 Bb1
  refine rs_op rfl (ow_boxB rfl ?_)
  intro gb3 w4 Bb3 Eb3 Gb3
  replace E := E.trans Eb3
  replace HF := (HF.on E).and (Per.blk Bb3 id)
  replace LW := LW.trans E
  replace E := Ext.refl No w4
  clear Eb3 Bb3
  refine rs_op rfl (ow_boxB rfl ?_)
  intro gb5 w6 Bb5 Eb5 Gb5
  replace E := E.trans Eb5
  replace HF := (HF.on E).and (Per.blk Bb5 id)
  replace LW := LW.trans E
  replace E := Ext.refl No w6
  clear Eb5 Bb5
  refine rs_op rfl (ow_assign rfl ?_)
  refine rs_nil ?_
  refine ew_next ?_
  refine cw_seq ?_
  refine cw_seq ?_
  refine cw_region ?_
  refine rs_op rfl (ow_enter en13 rfl ((known_any _).mono ?_))
  rintro e w7 ⟨rfl, hb⟩
  refine ⟨_, rfl, ?_⟩
  replace E := E.call hb
  clear hb
  refine rs_op rfl (ow_not rfl ?_)
  refine rs_nil ?_
  refine ew_next ?_
  refine cw_else rfl ?_
  refine cw_skip ?_
  refine ew_next ?_
  refine cw_seq ?_
  refine cw_seq ?_
  refine cw_region ?_
  refine rs_op rfl (ow_loadB Tryd.underlying24 rfl sz24 rfl (HF.on E).here.1.1.2 rfl ?_)
  refine rs_op rfl (ow_enter en19 rfl ((hgood _ (HF.on E).here.1.1.1.1.1.2).mono ?_))
  rintro e w8 ⟨rfl, hb⟩
  refine ⟨_, rfl, ?_⟩
  replace E := E.call hb
  clear hb
  refine rs_op rfl (ow_not rfl ?_)
  refine rs_op rfl (ow_move rfl ?_)
  refine rs_op rfl (ow_on rfl (ow_loadB Tryd.underlying24 rfl sz24 rfl (HF.on E).here.1.2 rfl ?_))
  refine rs_op rfl (ow_on rfl (ow_enter en19 rfl ((hgood2 _ (HF.on E).here.1.1.1.1.2).mono ?_)))
  rintro e w9 ⟨rfl, hb⟩
  refine ⟨_, rfl, ?_⟩
  replace E := E.call hb
  clear hb
  refine rs_op rfl (ow_on rfl (ow_not rfl ?_))
  refine rs_op rfl (ow_pickF rfl rfl ?_)
  refine rs_op rfl (ow_move rfl ?_)
  refine rs_op rfl (ow_off rfl ?_)
  refine rs_op rfl (ow_off rfl ?_)
  refine rs_op rfl (ow_off rfl ?_)
  refine rs_op rfl (ow_pickT rfl rfl ?_)
  refine rs_nil ?_
  refine ew_next ?_
  refine cw_then rfl ?_
  refine cw_seq ?_
  refine cw_drawn [] (fxAt [Fx.of (.agg #[.bool n1, .slice A xs.length c]),
      Fx.of (.bool true),
      Fx.of (.agg #[.bool n1, .slice A xs.length c]),
      Fx.of (.bool true),
      Fx.of (.bool false),
      Fx.of (.bool false),
      Fx.of (.agg #[.bool n1, .slice A xs.length c]),
      Fx.of (.agg #[.bool n2, .slice B ys.length d]),
      Fx.of (.int .i64 3),
      Fx.of (.bool true),
      Fx.of (.bool true),
      Fx.of (.bool true),
      Fx.of undef,
      Fx.of undef,
      Fx.of undef,
      Fx.of undef,
      Fx.of (.bool true),
      Fx.of (.bool true)]) mixed rfl ?_ ?_
  · refine ⟨?_, ?_, ?_, ?_, ?_, ?_, ?_, ?_, ?_, ?_, ?_, ?_, ?_, ?_, ?_, ?_, ?_, ?_, trivial⟩
    · intro vs X w K
      have LE := K.1
      have XN := K.2.1
      exact ow_loadB Tryd.underlying24 rfl sz24 rfl (HF.on (E.drew.trans LE)).here.1.1.2 rfl ⟨Below.refl _ _, Left.of rfl⟩
    · intro vs X w K
      have LE := K.1
      have XN := K.2.1
      obtain ⟨_, e0, k0⟩ := K.dep 0 rfl rfl rfl
      refine ow_set 38 (.agg #[.bool n1, .slice A xs.length c]) rfl e0 ?_
      refine ow_enter en20 rfl ((hrgood _ (HF.on (E.drew.trans LE)).here.1.1.1.1.1.2).mono ?_)
      rintro e w2 ⟨rfl, hb⟩
      exact ⟨_, rfl, hb, Left.of rfl⟩
    · intro vs X w K
      have LE := K.1
      have XN := K.2.1
      exact ow_loadB Tryd.underlying24 rfl sz24 rfl (HF.on (E.drew.trans LE)).here.1.1.2 rfl ⟨Below.refl _ _, Left.of rfl⟩
    · intro vs X w K
      have LE := K.1
      have XN := K.2.1
      obtain ⟨_, e2, k2⟩ := K.dep 2 rfl rfl rfl
      refine ow_set 40 (.agg #[.bool n1, .slice A xs.length c]) rfl e2 ?_
      refine ow_enter en19 rfl ((hgood _ (HF.on (E.drew.trans LE)).here.1.1.1.1.1.2).mono ?_)
      rintro e w2 ⟨rfl, hb⟩
      exact ⟨_, rfl, hb, Left.of rfl⟩
    · intro vs X w K
      have LE := K.1
      have XN := K.2.1
      obtain ⟨_, e1, k1⟩ := K.dep 1 rfl rfl rfl
      refine ow_set 39 (.bool true) rfl e1 ?_
      obtain ⟨_, e3, k3⟩ := K.dep 3 rfl rfl rfl
      refine ow_set 41 (.bool true) rfl e3 ?_
      exact ow_neqB Tryd.underlying4 rfl rfl ⟨Below.refl _ _, Left.of (rfl)⟩
    · intro vs X w K
      have LE := K.1
      have XN := K.2.1
      obtain ⟨_, e4, k4⟩ := K.dep 4 rfl rfl rfl
      refine ow_set 42 (.bool false) rfl e4 ?_
      exact ow_move rfl ⟨Below.refl _ _, Left.of rfl⟩
    · intro vs X w K
      have LE := K.1
      have XN := K.2.1
      obtain ⟨_, e5, k5⟩ := K.dep 5 rfl rfl rfl
      refine ow_set 43 (.bool false) rfl e5 ?_
      exact ow_on rfl (ow_loadB Tryd.underlying24 rfl sz24 rfl (HF.on (E.drew.trans LE)).here.1.1.2 rfl ⟨Below.refl _ _, Left.of rfl⟩)
    · intro vs X w K
      have LE := K.1
      have XN := K.2.1
      obtain ⟨_, e5, k5⟩ := K.dep 5 rfl rfl rfl
      refine ow_set 43 (.bool false) rfl e5 ?_
      exact ow_on rfl (ow_loadB Tryd.underlying24 rfl sz24 rfl (HF.on (E.drew.trans LE)).here.1.2 rfl ⟨Below.refl _ _, Left.of rfl⟩)
    · intro vs X w K
      have LE := K.1
      have XN := K.2.1
      obtain ⟨_, e6, k6⟩ := K.dep 6 rfl rfl rfl
      refine ow_set 44 (.agg #[.bool n1, .slice A xs.length c]) rfl e6 ?_
      obtain ⟨_, e7, k7⟩ := K.dep 7 rfl rfl rfl
      refine ow_set 45 (.agg #[.bool n2, .slice B ys.length d]) rfl e7 ?_
      obtain ⟨_, e5, k5⟩ := K.dep 5 rfl rfl rfl
      refine ow_set 43 (.bool false) rfl e5 ?_
      refine ow_on rfl (ow_enter en15 rfl ((hform _ (HF.on (E.drew.trans LE)).here.1.1.1.1.1.2 (HF.on (E.drew.trans LE)).here.1.1.1.1.2).mono ?_))
      rintro e w2 ⟨rfl, hb⟩
      exact ⟨_, rfl, hb, Left.of rfl⟩
    · intro vs X w K
      have LE := K.1
      have XN := K.2.1
      obtain ⟨_, e8, k8⟩ := K.dep 8 rfl rfl rfl
      refine ow_set 46 (.int .i64 3) rfl e8 ?_
      obtain ⟨_, e5, k5⟩ := K.dep 5 rfl rfl rfl
      refine ow_set 43 (.bool false) rfl e5 ?_
      exact ow_on rfl (ow_neq rfl rfl ⟨Below.refl _ _, Left.of (rfl)⟩)
    · intro vs X w K
      have LE := K.1
      have XN := K.2.1
      obtain ⟨_, e5, k5⟩ := K.dep 5 rfl rfl rfl
      refine ow_set 43 (.bool false) rfl e5 ?_
      obtain ⟨_, e9, k9⟩ := K.dep 9 rfl rfl rfl
      refine ow_set 47 (.bool true) rfl e9 ?_
      exact ow_pickF rfl rfl ⟨Below.refl _ _, Left.of rfl⟩
    · intro vs X w K
      have LE := K.1
      have XN := K.2.1
      obtain ⟨_, e10, k10⟩ := K.dep 10 rfl rfl rfl
      refine ow_set 48 (.bool true) rfl e10 ?_
      exact ow_move rfl ⟨Below.refl _ _, Left.of rfl⟩
    · intro vs X w K
      have LE := K.1
      have XN := K.2.1
      obtain ⟨_, e11, k11⟩ := K.dep 11 rfl rfl rfl
      refine ow_set 49 (.bool true) rfl e11 ?_
      exact ow_off rfl ⟨Below.refl _ _, Left.of rfl⟩
    · intro vs X w K
      have LE := K.1
      have XN := K.2.1
      obtain ⟨_, e11, k11⟩ := K.dep 11 rfl rfl rfl
      refine ow_set 49 (.bool true) rfl e11 ?_
      exact ow_off rfl ⟨Below.refl _ _, Left.of rfl⟩
    · intro vs X w K
      have LE := K.1
      have XN := K.2.1
      obtain ⟨_, e12, k12⟩ := K.dep 12 rfl rfl rfl
      refine ow_set 50 (undef) rfl e12 ?_
      obtain ⟨_, e13, k13⟩ := K.dep 13 rfl rfl rfl
      refine ow_set 51 (undef) rfl e13 ?_
      obtain ⟨_, e11, k11⟩ := K.dep 11 rfl rfl rfl
      refine ow_set 49 (.bool true) rfl e11 ?_
      exact ow_off rfl ⟨Below.refl _ _, Left.of rfl⟩
    · intro vs X w K
      have LE := K.1
      have XN := K.2.1
      obtain ⟨_, e14, k14⟩ := K.dep 14 rfl rfl rfl
      refine ow_set 52 (undef) rfl e14 ?_
      obtain ⟨_, e11, k11⟩ := K.dep 11 rfl rfl rfl
      refine ow_set 49 (.bool true) rfl e11 ?_
      exact ow_off rfl ⟨Below.refl _ _, Left.of rfl⟩
    · intro vs X w K
      have LE := K.1
      have XN := K.2.1
      obtain ⟨_, e11, k11⟩ := K.dep 11 rfl rfl rfl
      refine ow_set 49 (.bool true) rfl e11 ?_
      obtain ⟨_, e15, k15⟩ := K.dep 15 rfl rfl rfl
      refine ow_set 53 (undef) rfl e15 ?_
      exact ow_pickT rfl rfl ⟨Below.refl _ _, Left.of rfl⟩
    · intro vs X w K
      have LE := K.1
      have XN := K.2.1
      obtain ⟨_, e16, k16⟩ := K.dep 16 rfl rfl rfl
      refine ow_set 54 (.bool true) rfl e16 ?_
      exact ow_assign rfl ⟨Below.refl _ _, Left.of rfl⟩
  intro vs w10 LE AL AF AA
  replace E := E.drew.trans LE
  obtain ⟨_, e17, k17⟩ := AL.2.2.2.2.2.2.2.2.2.2.2.2.2.2.2.2.2.1
  refine ew_sub (τ := [(3, _), (4, _), (5, _), (6, .bool true)]) ⟨rfl, rfl, rfl, congrArg some e17, trivial⟩ ?_
  clear AL AF AA LE e17 k17
  refine ew_next ?_
  refine cw_ret ?_
  refine ew_then_ret ?_
  refine ew_ret (rs := [.tmp 6]) (vs := [_]) rfl ⟨rfl, trivial⟩ ?_
  exact ⟨rfl, (LW.trans E).toBelow⟩
theorem ring_bad3 (hx : Nums w A xs) (hy : Nums w B ys) (hz : Nums w C zs) (hl : xs.length ≤ 9223372036854775807) (hl' : ys.length ≤ 9223372036854775807) (hl3 : zs.length ≤ 9223372036854775807) (hg : goodB n1 xs = true) (hk : goodB n2 ys = true) (hm : goodB n3 zs = false) :
    Calls Tryd.prog 9 #[.agg #[.bool n1, .slice A xs.length c], .agg #[.bool n2, .slice B ys.length d], .agg #[.bool n3, .slice C zs.length f]] w (LawTrue w) := by
  have hgood := fun w hx => good_any n1 c w A xs hl hx
  have hgood2 := fun w hx => good_any n2 d w B ys hl' hx
  have hgood3 := fun w hx => good_any n3 f w C zs hl3 hx
  have hrgood := fun w hx => rgood_any n1 c w A xs hl hx
  have hform := fun w hx hy => lform_any n1 n2 A B c d xs ys w hx hy hl hl'
  have hform3 := fun w hx hy => lform_any n3 n3 C C f f zs zs w hx hy hl3 hl3
  rw [hg] at hgood hrgood hform
  rw [hk] at hgood2 hform
  rw [hm] at hgood3 hform3
  refine calls_cw Tryd.func9 rfl Tryd.ntmps9 rfl ?_
  have LW := Ext.refl No w
  have E := Ext.refl No w
  have HF : Per No w (fun _ => True) := Per.true_
  replace HF := (HF.on E).and (Per.nums0 hx)
  replace LW := LW.trans E
  replace E := Ext.refl No w
  replace HF := (HF.on E).and (Per.nums0 hy)
  replace LW := LW.trans E
  replace E := Ext.refl No w
  replace HF := (HF.on E).and (Per.nums0 hz)
  replace LW := LW.trans E
  replace E := Ext.refl No w
  refine cw_seq ?_
  refine cw_region ?_
  refine rs_op rfl (ow_boxB rfl ?_)
  intro gb1 w2 Bb1 Eb1 Gb1
  replace E := E.trans Eb1
  replace HF := (HF.on E).and (Per.blk Bb1 id)
  replace LW := LW.trans E
  replace E := Ext.refl No w2
  clear Eb1 Bb1
  refine rs_op rfl (ow_boxB rfl ?_)
  intro gb3 w4 Bb3 Eb3 Gb3
  replace E := E.trans Eb3
  replace HF := (HF.on E).and (Per.blk Bb3 id)
  replace LW := LW.trans E
  replace E := Ext.refl No w4
  clear Eb3 Bb3
  refine rs_op rfl (ow_boxB rfl ?_)
  intro gb5 w6 Bb5 Eb5 Gb5
  replace E := E.trans Eb5
  replace HF := (HF.on E).and (Per.blk Bb5 id)
  replace LW := LW.trans E
  replace E := Ext.refl No w6
  clear Eb5 Bb5
  refine rs_op rfl (ow_assign rfl ?_)
  refine rs_nil ?_
  refine ew_next ?_
  refine cw_seq ?_
  refine cw_seq ?_
  refine cw_region ?_
  refine rs_op rfl (ow_enter en13 rfl ((known_any _).mono ?_))
  rintro e w7 ⟨rfl, hb⟩
  refine ⟨_, rfl, ?_⟩
  replace E := E.call hb
  clear hb
  refine rs_op rfl (ow_not rfl ?_)
  refine rs_nil ?_
  refine ew_next ?_
  refine cw_else rfl ?_
  refine cw_skip ?_
  refine ew_next ?_
  refine cw_seq ?_
  refine cw_seq ?_
  refine cw_region ?_
  refine rs_op rfl (ow_loadB Tryd.underlying24 rfl sz24 rfl (HF.on E).here.1.1.2 rfl ?_)
  refine rs_op rfl (ow_enter en19 rfl ((hgood _ (HF.on E).here.1.1.1.1.1.2).mono ?_))
  rintro e w8 ⟨rfl, hb⟩
  refine ⟨_, rfl, ?_⟩
  replace E := E.call hb
  clear hb
  refine rs_op rfl (ow_not rfl ?_)
  refine rs_op rfl (ow_move rfl ?_)
  refine rs_op rfl (ow_on rfl (ow_loadB Tryd.underlying24 rfl sz24 rfl (HF.on E).here.1.2 rfl ?_))
  refine rs_op rfl (ow_on rfl (ow_enter en19 rfl ((hgood2 _ (HF.on E).here.1.1.1.1.2).mono ?_)))
  rintro e w9 ⟨rfl, hb⟩
  refine ⟨_, rfl, ?_⟩
  replace E := E.call hb
  clear hb
  refine rs_op rfl (ow_on rfl (ow_not rfl ?_))
  refine rs_op rfl (ow_pickF rfl rfl ?_)
  refine rs_op rfl (ow_move rfl ?_)
  refine rs_op rfl (ow_on rfl (ow_loadB Tryd.underlying24 rfl sz24 rfl (HF.on E).here.2 rfl ?_))
  refine rs_op rfl (ow_on rfl (ow_enter en19 rfl ((hgood3 _ (HF.on E).here.1.1.1.2).mono ?_)))
  rintro e w10 ⟨rfl, hb⟩
  refine ⟨_, rfl, ?_⟩
  replace E := E.call hb
  clear hb
  refine rs_op rfl (ow_on rfl (ow_not rfl ?_))
  refine rs_op rfl (ow_pickF rfl rfl ?_)
  refine rs_nil ?_
  refine ew_next ?_
  refine cw_then rfl ?_
  refine cw_seq ?_
  refine cw_drawn [] (fxAt [Fx.of (.agg #[.bool n1, .slice A xs.length c]),
      Fx.of (.bool true),
      Fx.of (.agg #[.bool n1, .slice A xs.length c]),
      Fx.of (.bool true),
      Fx.of (.bool false),
      Fx.of (.bool false),
      Fx.of (.agg #[.bool n1, .slice A xs.length c]),
      Fx.of (.agg #[.bool n2, .slice B ys.length d]),
      Fx.of (.int .i64 0),
      Fx.of (.bool false),
      Fx.of (.bool false),
      Fx.of (.bool false),
      Fx.of (.agg #[.bool n3, .slice C zs.length f]),
      Fx.of (.agg #[.bool n3, .slice C zs.length f]),
      Fx.of (.int .i64 3),
      Fx.of (.bool true),
      Fx.of (.bool true),
      Fx.of (.bool true)]) mixed rfl ?_ ?_
  · refine ⟨?_, ?_, ?_, ?_, ?_, ?_, ?_, ?_, ?_, ?_, ?_, ?_, ?_, ?_, ?_, ?_, ?_, ?_, trivial⟩
    · intro vs X w K
      have LE := K.1
      have XN := K.2.1
      exact ow_loadB Tryd.underlying24 rfl sz24 rfl (HF.on (E.drew.trans LE)).here.1.1.2 rfl ⟨Below.refl _ _, Left.of rfl⟩
    · intro vs X w K
      have LE := K.1
      have XN := K.2.1
      obtain ⟨_, e0, k0⟩ := K.dep 0 rfl rfl rfl
      refine ow_set 38 (.agg #[.bool n1, .slice A xs.length c]) rfl e0 ?_
      refine ow_enter en20 rfl ((hrgood _ (HF.on (E.drew.trans LE)).here.1.1.1.1.1.2).mono ?_)
      rintro e w2 ⟨rfl, hb⟩
      exact ⟨_, rfl, hb, Left.of rfl⟩
    · intro vs X w K
      have LE := K.1
      have XN := K.2.1
      exact ow_loadB Tryd.underlying24 rfl sz24 rfl (HF.on (E.drew.trans LE)).here.1.1.2 rfl ⟨Below.refl _ _, Left.of rfl⟩
    · intro vs X w K
      have LE := K.1
      have XN := K.2.1
      obtain ⟨_, e2, k2⟩ := K.dep 2 rfl rfl rfl
      refine ow_set 40 (.agg #[.bool n1, .slice A xs.length c]) rfl e2 ?_
      refine ow_enter en19 rfl ((hgood _ (HF.on (E.drew.trans LE)).here.1.1.1.1.1.2).mono ?_)
      rintro e w2 ⟨rfl, hb⟩
      exact ⟨_, rfl, hb, Left.of rfl⟩
    · intro vs X w K
      have LE := K.1
      have XN := K.2.1
      obtain ⟨_, e1, k1⟩ := K.dep 1 rfl rfl rfl
      refine ow_set 39 (.bool true) rfl e1 ?_
      obtain ⟨_, e3, k3⟩ := K.dep 3 rfl rfl rfl
      refine ow_set 41 (.bool true) rfl e3 ?_
      exact ow_neqB Tryd.underlying4 rfl rfl ⟨Below.refl _ _, Left.of (rfl)⟩
    · intro vs X w K
      have LE := K.1
      have XN := K.2.1
      obtain ⟨_, e4, k4⟩ := K.dep 4 rfl rfl rfl
      refine ow_set 42 (.bool false) rfl e4 ?_
      exact ow_move rfl ⟨Below.refl _ _, Left.of rfl⟩
    · intro vs X w K
      have LE := K.1
      have XN := K.2.1
      obtain ⟨_, e5, k5⟩ := K.dep 5 rfl rfl rfl
      refine ow_set 43 (.bool false) rfl e5 ?_
      exact ow_on rfl (ow_loadB Tryd.underlying24 rfl sz24 rfl (HF.on (E.drew.trans LE)).here.1.1.2 rfl ⟨Below.refl _ _, Left.of rfl⟩)
    · intro vs X w K
      have LE := K.1
      have XN := K.2.1
      obtain ⟨_, e5, k5⟩ := K.dep 5 rfl rfl rfl
      refine ow_set 43 (.bool false) rfl e5 ?_
      exact ow_on rfl (ow_loadB Tryd.underlying24 rfl sz24 rfl (HF.on (E.drew.trans LE)).here.1.2 rfl ⟨Below.refl _ _, Left.of rfl⟩)
    · intro vs X w K
      have LE := K.1
      have XN := K.2.1
      obtain ⟨_, e6, k6⟩ := K.dep 6 rfl rfl rfl
      refine ow_set 44 (.agg #[.bool n1, .slice A xs.length c]) rfl e6 ?_
      obtain ⟨_, e7, k7⟩ := K.dep 7 rfl rfl rfl
      refine ow_set 45 (.agg #[.bool n2, .slice B ys.length d]) rfl e7 ?_
      obtain ⟨_, e5, k5⟩ := K.dep 5 rfl rfl rfl
      refine ow_set 43 (.bool false) rfl e5 ?_
      refine ow_on rfl (ow_enter en15 rfl ((hform _ (HF.on (E.drew.trans LE)).here.1.1.1.1.1.2 (HF.on (E.drew.trans LE)).here.1.1.1.1.2).mono ?_))
      rintro e w2 ⟨rfl, hb⟩
      exact ⟨_, rfl, hb, Left.of rfl⟩
    · intro vs X w K
      have LE := K.1
      have XN := K.2.1
      obtain ⟨_, e8, k8⟩ := K.dep 8 rfl rfl rfl
      refine ow_set 46 (.int .i64 0) rfl e8 ?_
      obtain ⟨_, e5, k5⟩ := K.dep 5 rfl rfl rfl
      refine ow_set 43 (.bool false) rfl e5 ?_
      exact ow_on rfl (ow_neq rfl rfl ⟨Below.refl _ _, Left.of rfl⟩)
    · intro vs X w K
      have LE := K.1
      have XN := K.2.1
      obtain ⟨_, e5, k5⟩ := K.dep 5 rfl rfl rfl
      refine ow_set 43 (.bool false) rfl e5 ?_
      obtain ⟨_, e9, k9⟩ := K.dep 9 rfl rfl rfl
      refine ow_set 47 (.bool false) rfl e9 ?_
      exact ow_pickF rfl rfl ⟨Below.refl _ _, Left.of rfl⟩
    · intro vs X w K
      have LE := K.1
      have XN := K.2.1
      obtain ⟨_, e10, k10⟩ := K.dep 10 rfl rfl rfl
      refine ow_set 48 (.bool false) rfl e10 ?_
      exact ow_move rfl ⟨Below.refl _ _, Left.of rfl⟩
    · intro vs X w K
      have LE := K.1
      have XN := K.2.1
      obtain ⟨_, e11, k11⟩ := K.dep 11 rfl rfl rfl
      refine ow_set 49 (.bool false) rfl e11 ?_
      exact ow_on rfl (ow_loadB Tryd.underlying24 rfl sz24 rfl (HF.on (E.drew.trans LE)).here.2 rfl ⟨Below.refl _ _, Left.of rfl⟩)
    · intro vs X w K
      have LE := K.1
      have XN := K.2.1
      obtain ⟨_, e11, k11⟩ := K.dep 11 rfl rfl rfl
      refine ow_set 49 (.bool false) rfl e11 ?_
      exact ow_on rfl (ow_loadB Tryd.underlying24 rfl sz24 rfl (HF.on (E.drew.trans LE)).here.2 rfl ⟨Below.refl _ _, Left.of rfl⟩)
    · intro vs X w K
      have LE := K.1
      have XN := K.2.1
      obtain ⟨_, e12, k12⟩ := K.dep 12 rfl rfl rfl
      refine ow_set 50 (.agg #[.bool n3, .slice C zs.length f]) rfl e12 ?_
      obtain ⟨_, e13, k13⟩ := K.dep 13 rfl rfl rfl
      refine ow_set 51 (.agg #[.bool n3, .slice C zs.length f]) rfl e13 ?_
      obtain ⟨_, e11, k11⟩ := K.dep 11 rfl rfl rfl
      refine ow_set 49 (.bool false) rfl e11 ?_
      refine ow_on rfl (ow_enter en15 rfl ((hform3 _ (HF.on (E.drew.trans LE)).here.1.1.1.2 (HF.on (E.drew.trans LE)).here.1.1.1.2).mono ?_))
      rintro e w2 ⟨rfl, hb⟩
      exact ⟨_, rfl, hb, Left.of rfl⟩
    · intro vs X w K
      have LE := K.1
      have XN := K.2.1
      obtain ⟨_, e14, k14⟩ := K.dep 14 rfl rfl rfl
      refine ow_set 52 (.int .i64 3) rfl e14 ?_
      obtain ⟨_, e11, k11⟩ := K.dep 11 rfl rfl rfl
      refine ow_set 49 (.bool false) rfl e11 ?_
      exact ow_on rfl (ow_neq rfl rfl ⟨Below.refl _ _, Left.of rfl⟩)
    · intro vs X w K
      have LE := K.1
      have XN := K.2.1
      obtain ⟨_, e11, k11⟩ := K.dep 11 rfl rfl rfl
      refine ow_set 49 (.bool false) rfl e11 ?_
      obtain ⟨_, e15, k15⟩ := K.dep 15 rfl rfl rfl
      refine ow_set 53 (.bool true) rfl e15 ?_
      exact ow_pickF rfl rfl ⟨Below.refl _ _, Left.of rfl⟩
    · intro vs X w K
      have LE := K.1
      have XN := K.2.1
      obtain ⟨_, e16, k16⟩ := K.dep 16 rfl rfl rfl
      refine ow_set 54 (.bool true) rfl e16 ?_
      exact ow_assign rfl ⟨Below.refl _ _, Left.of rfl⟩
  intro vs w11 LE AL AF AA
  replace E := E.drew.trans LE
  obtain ⟨_, e17, k17⟩ := AL.2.2.2.2.2.2.2.2.2.2.2.2.2.2.2.2.2.1
  refine ew_sub (τ := [(3, _), (4, _), (5, _), (6, .bool true)]) ⟨rfl, rfl, rfl, congrArg some e17, trivial⟩ ?_
  clear AL AF AA LE e17 k17
  refine ew_next ?_
  refine cw_ret ?_
  refine ew_then_ret ?_
  refine ew_ret (rs := [.tmp 6]) (vs := [_]) rfl ⟨rfl, trivial⟩ ?_
  exact ⟨rfl, (LW.trans E).toBelow⟩
end
section
variable (i j k : Int) (A B C : Option Addr) (c d f : Nat) (w : World)
theorem ring_good (hi : i.natAbs < B18 ^ 30) (hj : j.natAbs < B18 ^ 30) (hk : k.natAbs < B18 ^ 30) (hx : Nums w A (limbs i)) (hy : Nums w B (limbs j)) (hz : Nums w C (limbs k)) :
    Calls Tryd.prog 9 #[.agg #[.bool (decide (i < 0)), .slice A (limbs i).length c], .agg #[.bool (decide (j < 0)), .slice B (limbs j).length d], .agg #[.bool (decide (k < 0)), .slice C (limbs k).length f]] w (LawTrue w) := by
  refine calls_cw Tryd.func9 rfl Tryd.ntmps9 rfl ?_
  have LW := Ext.refl No w
  have E := Ext.refl No w
  have HF : Per No w (fun _ => True) := Per.true_
  replace HF := (HF.on E).and (Per.nums0 hx)
  replace LW := LW.trans E
  replace E := Ext.refl No w
  replace HF := (HF.on E).and (Per.nums0 hy)
  replace LW := LW.trans E
  replace E := Ext.refl No w
  replace HF := (HF.on E).and (Per.nums0 hz)
  replace LW := LW.trans E
  replace E := Ext.refl No w
  refine cw_seq ?_
  refine cw_region ?_
  refine rs_op rfl (ow_boxB rfl ?_)
  intro gb1 w2 Bb1 Eb1 Gb1
  replace E := E.trans Eb1
  replace HF := (HF.on E).and (Per.blk Bb1 id)
  replace LW := LW.trans E
  replace E := Ext.refl No w2
  clear Eb1 Bb1
  refine rs_op rfl (ow_boxB rfl ?_)
  intro gb3 w4 Bb3 Eb3 Gb3
  replace E := E.trans Eb3
  replace HF := (HF.on E).and (Per.blk Bb3 id)
  replace LW := LW.trans E
  replace E := Ext.refl No w4
  clear Eb3 Bb3
  refine rs_op rfl (ow_boxB rfl ?_)
  intro gb5 w6 Bb5 Eb5 Gb5
  replace E := E.trans Eb5
  replace HF := (HF.on E).and (Per.blk Bb5 id)
  replace LW := LW.trans E
  replace E := Ext.refl No w6
  clear Eb5 Bb5
  refine rs_op rfl (ow_assign rfl ?_)
  refine rs_nil ?_
  refine ew_next ?_
  refine cw_seq ?_
  refine cw_seq ?_
  refine cw_region ?_
  refine rs_op rfl (ow_enter en13 rfl ((known_any _).mono ?_))
  rintro e w7 ⟨rfl, hb⟩
  refine ⟨_, rfl, ?_⟩
  replace E := E.call hb
  clear hb
  refine rs_op rfl (ow_not rfl ?_)
  refine rs_nil ?_
  refine ew_next ?_
  refine cw_else rfl ?_
  refine cw_skip ?_
  refine ew_next ?_
  refine cw_seq ?_
  refine cw_seq ?_
  refine cw_region ?_
  refine rs_op rfl (ow_loadB Tryd.underlying24 rfl sz24 rfl (HF.on E).here.1.1.2 rfl ?_)
  refine rs_op rfl (ow_enter en19 rfl ((goodI A c _ hi (HF.on E).here.1.1.1.1.1.2).mono ?_))
  rintro e w8 ⟨rfl, hb⟩
  refine ⟨_, rfl, ?_⟩
  replace E := E.call hb
  clear hb
  refine rs_op rfl (ow_not rfl ?_)
  refine rs_op rfl (ow_move rfl ?_)
  refine rs_op rfl (ow_on rfl (ow_loadB Tryd.underlying24 rfl sz24 rfl (HF.on E).here.1.2 rfl ?_))
  refine rs_op rfl (ow_on rfl (ow_enter en19 rfl ((goodI B d _ hj (HF.on E).here.1.1.1.1.2).mono ?_)))
  rintro e w9 ⟨rfl, hb⟩
  refine ⟨_, rfl, ?_⟩
  replace E := E.call hb
  clear hb
  refine rs_op rfl (ow_on rfl (ow_not rfl ?_))
  refine rs_op rfl (ow_pickF rfl rfl ?_)
  refine rs_op rfl (ow_move rfl ?_)
  refine rs_op rfl (ow_on rfl (ow_loadB Tryd.underlying24 rfl sz24 rfl (HF.on E).here.2 rfl ?_))
  refine rs_op rfl (ow_on rfl (ow_enter en19 rfl ((goodI C f _ hk (HF.on E).here.1.1.1.2).mono ?_)))
  rintro e w10 ⟨rfl, hb⟩
  refine ⟨_, rfl, ?_⟩
  replace E := E.call hb
  clear hb
  refine rs_op rfl (ow_on rfl (ow_not rfl ?_))
  refine rs_op rfl (ow_pickF rfl rfl ?_)
  refine rs_nil ?_
  refine ew_next ?_
  refine cw_else rfl ?_
  refine cw_skip ?_
  refine ew_next ?_
  refine cw_seq ?_
  refine cw_region ?_
  refine rs_op rfl (ow_loadB Tryd.underlying24 rfl sz24 rfl (HF.on E).here.1.1.2 rfl ?_)
  refine rs_op rfl (ow_loadB Tryd.underlying24 rfl sz24 rfl (HF.on E).here.1.2 rfl ?_)
  refine rs_op rfl (ow_enter en27 rfl ((addI A B c d _ hi hj (HF.on E).here.1.1.1.1.1.2 (HF.on E).here.1.1.1.1.2).mono ?_))
  rintro e w11 ⟨A1, c1, rfl, o1, hb⟩
  refine ⟨_, rfl, ?_⟩
  replace E := E.call hb
  clear hb
  replace HF := (HF.on E).and (Per.nums0 o1.nums)
  replace LW := LW.trans E
  replace E := Ext.refl No w11
  refine rs_op rfl (ow_move rfl ?_)
  refine rs_op rfl (ow_extract rfl rfl ?_)
  refine rs_op rfl (ow_extract rfl rfl ?_)
  refine rs_op rfl (ow_allocB zr24 ?_)
  intro gb12 w13 Bb12 Eb12 Gb12
  have Gb12 := Nat.le_trans E.size Gb12
  replace E := E.trans Eb12
  clear Eb12
  refine rs_op0 (ow_store sz24 rfl rfl Bb12 rfl rfl rfl ?_)
  intro w14 Cb12 Eb12 _
  replace E := E.step Eb12 (fun k hk => Or.inr (by rw [show k = gb12 from hk]; exact Gb12))
  clear Eb12 Bb12
  replace HF := (HF.on E).and (Per.blk Cb12 id)
  replace LW := LW.trans E
  replace E := Ext.refl No w14
  clear Cb12
  refine rs_op rfl (ow_assign rfl ?_)
  refine rs_nil ?_
  refine ew_next ?_
  refine cw_seq ?_
  refine cw_region ?_
  refine rs_op rfl (ow_loadB Tryd.underlying24 rfl sz24 rfl (HF.on E).here.1.1.1.2 rfl ?_)
  refine rs_op rfl (ow_loadB Tryd.underlying24 rfl sz24 rfl (HF.on E).here.1.1.1.1.2 rfl ?_)
  refine rs_op rfl (ow_enter en27 rfl ((addI B A d c _ hj hi (HF.on E).here.1.1.1.1.1.1.2 (HF.on E).here.1.1.1.1.1.1.1.2).mono ?_))
  rintro e w15 ⟨A2, c2, rfl, o2, hb⟩
  refine ⟨_, rfl, ?_⟩
  replace E := E.call hb
  clear hb
  replace HF := (HF.on E).and (Per.nums0 o2.nums)
  replace LW := LW.trans E
  replace E := Ext.refl No w15
  refine rs_op rfl (ow_move rfl ?_)
  refine rs_op rfl (ow_extract rfl rfl ?_)
  refine rs_op rfl (ow_extract rfl rfl ?_)
  refine rs_op rfl (ow_allocB zr24 ?_)
  intro gb16 w17 Bb16 Eb16 Gb16
  have Gb16 := Nat.le_trans E.size Gb16
  replace E := E.trans Eb16
  clear Eb16
  refine rs_op0 (ow_store sz24 rfl rfl Bb16 rfl rfl rfl ?_)
  intro w18 Cb16 Eb16 _
  replace E := E.step Eb16 (fun k hk => Or.inr (by rw [show k = gb16 from hk]; exact Gb16))
  clear Eb16 Bb16
  replace HF := (HF.on E).and (Per.blk Cb16 id)
  replace LW := LW.trans E
  replace E := Ext.refl No w18
  clear Cb16
  refine rs_op rfl (ow_assign rfl ?_)
  refine rs_nil ?_
  refine ew_next ?_
  refine cw_seq ?_
  refine cw_seq ?_
  refine cw_region ?_
  refine rs_op rfl (ow_move rfl ?_)
  refine rs_op rfl (ow_move rfl ?_)
  refine rs_op rfl (ow_neq rfl rfl ?_)
  refine rs_op rfl (ow_move rfl ?_)
  refine rs_set 70 (.bool false) rfl (by rw [Int.add_comm j i]; simp) ?_
  refine rs_op rfl (ow_on rfl (ow_loadB Tryd.underlying24 rfl sz24 rfl (HF.on E).here.1.1.2 rfl ?_))
  refine rs_op rfl (ow_on rfl (ow_loadB Tryd.underlying24 rfl sz24 rfl (HF.on E).here.2 rfl ?_))
  refine rs_op rfl (ow_on rfl (ow_enter en21 rfl ((sameI A1 A2 c1 c2 _ outV_lt outV_lt (HF.on E).here.1.1.1.2 (HF.on E).here.1.2 (by rw [Int.add_comm])).mono ?_)))
  rintro e w19 ⟨rfl, hb⟩
  refine ⟨_, rfl, ?_⟩
  replace E := E.call hb
  clear hb
  refine rs_op rfl (ow_on rfl (ow_not rfl ?_))
  refine rs_op rfl (ow_pickF rfl rfl ?_)
  refine rs_nil ?_
  refine ew_next ?_
  refine cw_else rfl ?_
  refine cw_skip ?_
  refine ew_next ?_
  refine cw_seq ?_
  refine cw_seq ?_
  refine cw_region ?_
  refine rs_op rfl (ow_move rfl ?_)
  refine rs_op rfl (ow_eql rfl rfl ?_)
  refine rs_nil ?_
  refine ew_next ?_
  have M20 := Ext.refl No w19
  replace LW := LW.trans E
  replace HF := HF.on E
  replace E := Ext.refl No w19
  refine cw_join (ι := Unit) (fun _ => [(3, .pointer (some ⟨gb1, 0, none⟩)), (4, .pointer (some ⟨gb3, 0, none⟩)), (5, .pointer (some ⟨gb5, 0, none⟩))]) (fun _ w' => Ext No w19 w' ∧ (True)) ?_ ?_
  · have _way := True.intro
    refine cw_cond rfl (fun h => ?_) (fun h => ?_)
    · have _way := True.intro
      have hij : (i + j).natAbs < B18 ^ 30 := outE_zero (by simpa using h)
      have hV : outV true (i + j) = i + j := outV_ok hij
      refine cw_seq ?_
      refine cw_region ?_
      refine rs_op rfl (ow_loadB Tryd.underlying24 rfl sz24 rfl (HF.on E).here.1.1.2 rfl ?_)
      refine rs_op rfl (ow_loadB Tryd.underlying24 rfl sz24 rfl (HF.on E).here.1.1.1.1.1.2 rfl ?_)
      refine rs_op rfl (ow_enter en28 rfl ((subI A1 B c1 d _ outV_lt hj (HF.on E).here.1.1.1.2 (HF.on E).here.1.1.1.1.1.1.1.1.2).mono ?_))
      rintro e w22 ⟨A3, c3, rfl, o3, hb⟩
      refine ⟨_, rfl, ?_⟩
      replace E := E.call hb
      clear hb
      replace HF := (HF.on E).and (Per.nums0 o3.nums)
      replace LW := LW.trans E
      replace M20 := M20.trans E
      replace E := Ext.refl No w22
      have e3 : outV true (i + j) - j = i := by rw [hV]; omega
      refine rs_op rfl (ow_move rfl ?_)
      refine rs_op rfl (ow_extract rfl rfl ?_)
      refine rs_op rfl (ow_extract rfl rfl ?_)
      refine rs_op rfl (ow_allocB zr24 ?_)
      intro gb23 w24 Bb23 Eb23 Gb23
      have Gb23 := Nat.le_trans E.size Gb23
      replace E := E.trans Eb23
      clear Eb23
      refine rs_op0 (ow_store sz24 rfl rfl Bb23 rfl rfl rfl ?_)
      intro w25 Cb23 Eb23 _
      replace E := E.step Eb23 (fun k hk => Or.inr (by rw [show k = gb23 from hk]; exact Gb23))
      clear Eb23 Bb23
      replace HF := (HF.on E).and (Per.blk Cb23 id)
      replace LW := LW.trans E
      replace M20 := M20.trans E
      replace E := Ext.refl No w25
      clear Cb23
      refine rs_op rfl (ow_assign rfl ?_)
      refine rs_nil ?_
      refine ew_next ?_
      refine cw_seq ?_
      refine cw_region ?_
      refine rs_op rfl (ow_move rfl ?_)
      refine rs_op rfl (ow_neq rfl rfl ?_)
      refine rs_op rfl (ow_move rfl ?_)
      refine rs_set 86 (.bool false) rfl (by rw [e3, outE_ok hi]; rfl) ?_
      refine rs_op rfl (ow_on rfl (ow_loadB Tryd.underlying24 rfl sz24 rfl (HF.on E).here.2 rfl ?_))
      refine rs_op rfl (ow_on rfl (ow_loadB Tryd.underlying24 rfl sz24 rfl (HF.on E).here.1.1.1.1.1.1.1.1.2 rfl ?_))
      refine rs_op rfl (ow_on rfl (ow_enter en21 rfl ((sameI A3 A c3 c _ outV_lt hi (HF.on E).here.1.2 (HF.on E).here.1.1.1.1.1.1.1.1.1.1.1.2 (by rw [e3, outV_ok hi])).mono ?_)))
      rintro e w26 ⟨rfl, hb⟩
      refine ⟨_, rfl, ?_⟩
      replace E := E.call hb
      clear hb
      refine rs_op rfl (ow_on rfl (ow_not rfl ?_))
      refine rs_op rfl (ow_pickF rfl rfl ?_)
      refine rs_nil ?_
      refine ew_next ?_
      refine cw_else rfl ?_
      refine cw_skip ?_
      exact ew_mid () ⟨rfl, rfl, rfl, trivial⟩ ⟨M20.trans E, trivial⟩
    · have _way := True.intro
      refine cw_skip ?_
      exact ew_mid () ⟨rfl, rfl, rfl, trivial⟩ ⟨M20.trans E, trivial⟩
  · have _way := True.intro
    rintro _ w21 ⟨E9, _⟩
    replace E := E9
    clear M20
    refine cw_seq ?_
    refine cw_region ?_
    refine rs_op rfl (ow_loadB Tryd.underlying24 rfl sz24 rfl (HF.on E).here.1.1.1.1.1.1.2 rfl ?_)
    refine rs_op rfl (ow_loadB Tryd.underlying24 rfl sz24 rfl (HF.on E).here.1.1.1.1.1.2 rfl ?_)
    refine rs_op rfl (ow_enter en36 rfl ((mulI A B c d _ hi hj (HF.on E).here.1.1.1.1.1.1.1.1.1.2 (HF.on E).here.1.1.1.1.1.1.1.1.2).mono ?_))
    rintro e w27 ⟨A4, c4, rfl, o4, hb⟩
    refine ⟨_, rfl, ?_⟩
    replace E := E.call hb
    clear hb
    replace HF := (HF.on E).and (Per.nums0 o4.nums)
    replace LW := LW.trans E
    replace E := Ext.refl No w27
    refine rs_op rfl (ow_move rfl ?_)
    refine rs_op rfl (ow_extract rfl rfl ?_)
    refine rs_op rfl (ow_extract rfl rfl ?_)
    refine rs_op rfl (ow_allocB zr24 ?_)
    intro gb28 w29 Bb28 Eb28 Gb28
    have Gb28 := Nat.le_trans E.size Gb28
    replace E := E.trans Eb28
    clear Eb28
    refine rs_op0 (ow_store sz24 rfl rfl Bb28 rfl rfl rfl ?_)
    intro w30 Cb28 Eb28 _
    replace E := E.step Eb28 (fun k hk => Or.inr (by rw [show k = gb28 from hk]; exact Gb28))
    clear Eb28 Bb28
    replace HF := (HF.on E).and (Per.blk Cb28 id)
    replace LW := LW.trans E
    replace E := Ext.refl No w30
    clear Cb28
    refine rs_op rfl (ow_assign rfl ?_)
    refine rs_nil ?_
    refine ew_next ?_
    refine cw_seq ?_
    refine cw_region ?_
    refine rs_op rfl (ow_loadB Tryd.underlying24 rfl sz24 rfl (HF.on E).here.1.1.1.1.1.1.1.2 rfl ?_)
    refine rs_op rfl (ow_loadB Tryd.underlying24 rfl sz24 rfl (HF.on E).here.1.1.1.1.1.1.1.1.2 rfl ?_)
    refine rs_op rfl (ow_enter en36 rfl ((mulI B A d c _ hj hi (HF.on E).here.1.1.1.1.1.1.1.1.1.1.2 (HF.on E).here.1.1.1.1.1.1.1.1.1.1.1.2).mono ?_))
    rintro e w31 ⟨A5, c5, rfl, o5, hb⟩
    refine ⟨_, rfl, ?_⟩
    replace E := E.call hb
    clear hb
    replace HF := (HF.on E).and (Per.nums0 o5.nums)
    replace LW := LW.trans E
    replace E := Ext.refl No w31
    refine rs_op rfl (ow_move rfl ?_)
    refine rs_op rfl (ow_extract rfl rfl ?_)
    refine rs_op rfl (ow_extract rfl rfl ?_)
    refine rs_op rfl (ow_allocB zr24 ?_)
    intro gb32 w33 Bb32 Eb32 Gb32
    have Gb32 := Nat.le_trans E.size Gb32
    replace E := E.trans Eb32
    clear Eb32
    refine rs_op0 (ow_store sz24 rfl rfl Bb32 rfl rfl rfl ?_)
    intro w34 Cb32 Eb32 _
    replace E := E.step Eb32 (fun k hk => Or.inr (by rw [show k = gb32 from hk]; exact Gb32))
    clear Eb32 Bb32
    replace HF := (HF.on E).and (Per.blk Cb32 id)
    replace LW := LW.trans E
    replace E := Ext.refl No w34
    clear Cb32
    refine rs_op rfl (ow_assign rfl ?_)
    refine rs_nil ?_
    refine ew_next ?_
    refine cw_seq ?_
    refine cw_seq ?_
    refine cw_region ?_
    refine rs_op rfl (ow_move rfl ?_)
    refine rs_op rfl (ow_move rfl ?_)
    refine rs_op rfl (ow_neq rfl rfl ?_)
    refine rs_op rfl (ow_move rfl ?_)
    refine rs_set 107 (.bool false) rfl (by rw [Int.mul_comm j i]; simp) ?_
    refine rs_op rfl (ow_on rfl (ow_loadB Tryd.underlying24 rfl sz24 rfl (HF.on E).here.1.1.2 rfl ?_))
    refine rs_op rfl (ow_on rfl (ow_loadB Tryd.underlying24 rfl sz24 rfl (HF.on E).here.2 rfl ?_))
    refine rs_op rfl (ow_on rfl (ow_enter en21 rfl ((sameI A4 A5 c4 c5 _ outV_lt outV_lt (HF.on E).here.1.1.1.2 (HF.on E).here.1.2 (by rw [Int.mul_comm])).mono ?_)))
    rintro e w35 ⟨rfl, hb⟩
    refine ⟨_, rfl, ?_⟩
    replace E := E.call hb
    clear hb
    refine rs_op rfl (ow_on rfl (ow_not rfl ?_))
    refine rs_op rfl (ow_pickF rfl rfl ?_)
    refine rs_nil ?_
    refine ew_next ?_
    refine cw_else rfl ?_
    refine cw_skip ?_
    refine ew_next ?_
    refine cw_seq ?_
    refine cw_region ?_
    refine rs_op rfl (ow_loadB Tryd.underlying24 rfl sz24 rfl (HF.on E).here.1.1.1.1.1.1.1.1.1.2 rfl ?_)
    refine rs_op rfl (ow_loadB Tryd.underlying24 rfl sz24 rfl (HF.on E).here.1.1.1.1.1.1.1.1.2 rfl ?_)
    refine rs_op rfl (ow_enter en27 rfl ((addI B C d f _ hj hk (HF.on E).here.1.1.1.1.1.1.1.1.1.1.1.1.2 (HF.on E).here.1.1.1.1.1.1.1.1.1.1.1.2).mono ?_))
    rintro e w36 ⟨A6, c6, rfl, o6, hb⟩
    refine ⟨_, rfl, ?_⟩
    replace E := E.call hb
    clear hb
    replace HF := (HF.on E).and (Per.nums0 o6.nums)
    replace LW := LW.trans E
    replace E := Ext.refl No w36
    refine rs_op rfl (ow_move rfl ?_)
    refine rs_op rfl (ow_extract rfl rfl ?_)
    refine rs_op rfl (ow_extract rfl rfl ?_)
    refine rs_op rfl (ow_allocB zr24 ?_)
    intro gb37 w38 Bb37 Eb37 Gb37
    have Gb37 := Nat.le_trans E.size Gb37
    replace E := E.trans Eb37
    clear Eb37
    refine rs_op0 (ow_store sz24 rfl rfl Bb37 rfl rfl rfl ?_)
    intro w39 Cb37 Eb37 _
    replace E := E.step Eb37 (fun k hk => Or.inr (by rw [show k = gb37 from hk]; exact Gb37))
    clear Eb37 Bb37
    replace HF := (HF.on E).and (Per.blk Cb37 id)
    replace LW := LW.trans E
    replace E := Ext.refl No w39
    clear Cb37
    refine rs_op rfl (ow_assign rfl ?_)
    refine rs_nil ?_
    refine ew_next ?_
    refine cw_seq ?_
    refine cw_region ?_
    refine rs_op rfl (ow_loadB Tryd.underlying24 rfl sz24 rfl (HF.on E).here.1.1.1.1.1.1.1.1.1.1.1.1.2 rfl ?_)
    refine rs_op rfl (ow_loadB Tryd.underlying24 rfl sz24 rfl (HF.on E).here.2 rfl ?_)
    refine rs_op rfl (ow_enter en36 rfl ((mulI A A6 c c6 _ hi outV_lt (HF.on E).here.1.1.1.1.1.1.1.1.1.1.1.1.1.1.1.2 (HF.on E).here.1.2).mono ?_))
    rintro e w40 ⟨A7, c7, rfl, o7, hb⟩
    refine ⟨_, rfl, ?_⟩
    replace E := E.call hb
    clear hb
    replace HF := (HF.on E).and (Per.nums0 o7.nums)
    replace LW := LW.trans E
    replace E := Ext.refl No w40
    refine rs_op rfl (ow_move rfl ?_)
    refine rs_op rfl (ow_extract rfl rfl ?_)
    refine rs_op rfl (ow_extract rfl rfl ?_)
    refine rs_op rfl (ow_allocB zr24 ?_)
    intro gb41 w42 Bb41 Eb41 Gb41
    have Gb41 := Nat.le_trans E.size Gb41
    replace E := E.trans Eb41
    clear Eb41
    refine rs_op0 (ow_store sz24 rfl rfl Bb41 rfl rfl rfl ?_)
    intro w43 Cb41 Eb41 _
    replace E := E.step Eb41 (fun k hk => Or.inr (by rw [show k = gb41 from hk]; exact Gb41))
    clear Eb41 Bb41
    replace HF := (HF.on E).and (Per.blk Cb41 id)
    replace LW := LW.trans E
    replace E := Ext.refl No w43
    clear Cb41
    refine rs_op rfl (ow_assign rfl ?_)
    refine rs_nil ?_
    refine ew_next ?_
    refine cw_seq ?_
    refine cw_region ?_
    refine rs_op rfl (ow_loadB Tryd.underlying24 rfl sz24 rfl (HF.on E).here.1.1.1.1.1.1.1.1.1.1.1.1.1.1.2 rfl ?_)
    refine rs_op rfl (ow_loadB Tryd.underlying24 rfl sz24 rfl (HF.on E).here.1.1.1.1.1.1.1.1.1.1.1.1.2 rfl ?_)
    refine rs_op rfl (ow_enter en36 rfl ((mulI A C c f _ hi hk (HF.on E).here.1.1.1.1.1.1.1.1.1.1.1.1.1.1.1.1.1.2 (HF.on E).here.1.1.1.1.1.1.1.1.1.1.1.1.1.1.1.2).mono ?_))
    rintro e w44 ⟨A8, c8, rfl, o8, hb⟩
    refine ⟨_, rfl, ?_⟩
    replace E := E.call hb
    clear hb
    replace HF := (HF.on E).and (Per.nums0 o8.nums)
    replace LW := LW.trans E
    replace E := Ext.refl No w44
    refine rs_op rfl (ow_move rfl ?_)
    refine rs_op rfl (ow_extract rfl rfl ?_)
    refine rs_op rfl (ow_extract rfl rfl ?_)
    refine rs_op rfl (ow_allocB zr24 ?_)
    intro gb45 w46 Bb45 Eb45 Gb45
    have Gb45 := Nat.le_trans E.size Gb45
    replace E := E.trans Eb45
    clear Eb45
    refine rs_op0 (ow_store sz24 rfl rfl Bb45 rfl rfl rfl ?_)
    intro w47 Cb45 Eb45 _
    replace E := E.step Eb45 (fun k hk => Or.inr (by rw [show k = gb45 from hk]; exact Gb45))
    clear Eb45 Bb45
    replace HF := (HF.on E).and (Per.blk Cb45 id)
    replace LW := LW.trans E
    replace E := Ext.refl No w47
    clear Cb45
    refine rs_op rfl (ow_assign rfl ?_)
    refine rs_nil ?_
    refine ew_next ?_
    refine cw_seq ?_
    refine cw_region ?_
    refine rs_op rfl (ow_loadB Tryd.underlying24 rfl sz24 rfl (HF.on E).here.1.1.1.1.1.1.1.1.1.1.1.1.1.1.1.1.2 rfl ?_)
    refine rs_op rfl (ow_loadB Tryd.underlying24 rfl sz24 rfl (HF.on E).here.1.1.1.1.1.1.1.1.1.1.1.1.1.1.1.2 rfl ?_)
    refine rs_op rfl (ow_enter en36 rfl ((mulI A B c d _ hi hj (HF.on E).here.1.1.1.1.1.1.1.1.1.1.1.1.1.1.1.1.1.1.1.2 (HF.on E).here.1.1.1.1.1.1.1.1.1.1.1.1.1.1.1.1.1.1.2).mono ?_))
    rintro e w48 ⟨A9, c9, rfl, o9, hb⟩
    refine ⟨_, rfl, ?_⟩
    replace E := E.call hb
    clear hb
    replace HF := (HF.on E).and (Per.nums0 o9.nums)
    replace LW := LW.trans E
    replace E := Ext.refl No w48
    refine rs_op rfl (ow_move rfl ?_)
    refine rs_op rfl (ow_extract rfl rfl ?_)
    refine rs_op rfl (ow_extract rfl rfl ?_)
    refine rs_op rfl (ow_allocB zr24 ?_)
    intro gb49 w50 Bb49 Eb49 Gb49
    have Gb49 := Nat.le_trans E.size Gb49
    replace E := E.trans Eb49
    clear Eb49
    refine rs_op0 (ow_store sz24 rfl rfl Bb49 rfl rfl rfl ?_)
    intro w51 Cb49 Eb49 _
    replace E := E.step Eb49 (fun k hk => Or.inr (by rw [show k = gb49 from hk]; exact Gb49))
    clear Eb49 Bb49
    replace HF := (HF.on E).and (Per.blk Cb49 id)
    replace LW := LW.trans E
    replace E := Ext.refl No w51
    clear Cb49
    refine rs_op rfl (ow_assign rfl ?_)
    refine rs_nil ?_
    refine ew_next ?_
    refine cw_seq ?_
    refine cw_region ?_
    refine rs_op rfl (ow_loadB Tryd.underlying24 rfl sz24 rfl (HF.on E).here.2 rfl ?_)
    refine rs_op rfl (ow_loadB Tryd.underlying24 rfl sz24 rfl (HF.on E).here.1.1.2 rfl ?_)
    refine rs_op rfl (ow_enter en27 rfl ((addI A9 A8 c9 c8 _ outV_lt outV_lt (HF.on E).here.1.2 (HF.on E).here.1.1.1.2).mono ?_))
    rintro e w52 ⟨A10, c10, rfl, o10, hb⟩
    refine ⟨_, rfl, ?_⟩
    replace E := E.call hb
    clear hb
    replace HF := (HF.on E).and (Per.nums0 o10.nums)
    replace LW := LW.trans E
    replace E := Ext.refl No w52
    refine rs_op rfl (ow_move rfl ?_)
    refine rs_op rfl (ow_extract rfl rfl ?_)
    refine rs_op rfl (ow_extract rfl rfl ?_)
    refine rs_op rfl (ow_allocB zr24 ?_)
    intro gb53 w54 Bb53 Eb53 Gb53
    have Gb53 := Nat.le_trans E.size Gb53
    replace E := E.trans Eb53
    clear Eb53
    refine rs_op0 (ow_store sz24 rfl rfl Bb53 rfl rfl rfl ?_)
    intro w55 Cb53 Eb53 _
    replace E := E.step Eb53 (fun k hk => Or.inr (by rw [show k = gb53 from hk]; exact Gb53))
    clear Eb53 Bb53
    replace HF := (HF.on E).and (Per.blk Cb53 id)
    replace LW := LW.trans E
    replace E := Ext.refl No w55
    clear Cb53
    refine rs_op rfl (ow_assign rfl ?_)
    refine rs_nil ?_
    refine ew_next ?_
    refine cw_seq ?_
    refine cw_seq ?_
    refine cw_region ?_
    refine rs_op rfl (ow_move rfl ?_)
    refine rs_op rfl (ow_neq rfl rfl ?_)
    refine rs_op rfl (ow_move rfl ?_)
    refine rs_split 145 rfl (fun q1 => ?_) (fun q1 => ?_)
    · have _way := True.intro
      refine rs_op rfl (ow_off rfl ?_)
      refine rs_op rfl (ow_off rfl ?_)
      refine rs_op rfl (ow_pickT rfl rfl ?_)
      refine rs_op rfl (ow_move rfl ?_)
      refine rs_op rfl (ow_off rfl ?_)
      refine rs_op rfl (ow_off rfl ?_)
      refine rs_op rfl (ow_pickT rfl rfl ?_)
      refine rs_op rfl (ow_move rfl ?_)
      refine rs_op rfl (ow_off rfl ?_)
      refine rs_op rfl (ow_off rfl ?_)
      refine rs_op rfl (ow_pickT rfl rfl ?_)
      refine rs_op rfl (ow_move rfl ?_)
      refine rs_op rfl (ow_off rfl ?_)
      refine rs_op rfl (ow_off rfl ?_)
      refine rs_op rfl (ow_pickT rfl rfl ?_)
      refine rs_nil ?_
      refine ew_next ?_
      refine cw_then rfl ?_
      refine cw_seq ?_
      refine cw_region ?_
      refine rs_op rfl (ow_assign rfl ?_)
      refine rs_nil ?_
      refine ew_next ?_
      refine cw_ret ?_
      refine ew_then_ret ?_
      refine ew_ret (rs := [.tmp 6]) (vs := [_]) rfl ⟨rfl, trivial⟩ ?_
      exact ⟨rfl, (LW.trans E).toBelow⟩
    · have _way := True.intro
      refine rs_op rfl (ow_on rfl (ow_move rfl ?_))
      refine rs_op rfl (ow_on rfl (ow_neq rfl rfl ?_))
      refine rs_op rfl (ow_pickF rfl rfl ?_)
      refine rs_op rfl (ow_move rfl ?_)
      refine rs_split 149 rfl (fun q2 => ?_) (fun q2 => ?_)
      · have _way := True.intro
        refine rs_op rfl (ow_off rfl ?_)
        refine rs_op rfl (ow_off rfl ?_)
        refine rs_op rfl (ow_pickT rfl rfl ?_)
        refine rs_op rfl (ow_move rfl ?_)
        refine rs_op rfl (ow_off rfl ?_)
        refine rs_op rfl (ow_off rfl ?_)
        refine rs_op rfl (ow_pickT rfl rfl ?_)
        refine rs_op rfl (ow_move rfl ?_)
        refine rs_op rfl (ow_off rfl ?_)
        refine rs_op rfl (ow_off rfl ?_)
        refine rs_op rfl (ow_pickT rfl rfl ?_)
        refine rs_nil ?_
        refine ew_next ?_
        refine cw_then rfl ?_
        refine cw_seq ?_
        refine cw_region ?_
        refine rs_op rfl (ow_assign rfl ?_)
        refine rs_nil ?_
        refine ew_next ?_
        refine cw_ret ?_
        refine ew_then_ret ?_
        refine ew_ret (rs := [.tmp 6]) (vs := [_]) rfl ⟨rfl, trivial⟩ ?_
        exact ⟨rfl, (LW.trans E).toBelow⟩
      · have _way := True.intro
        refine rs_op rfl (ow_on rfl (ow_move rfl ?_))
        refine rs_op rfl (ow_on rfl (ow_neq rfl rfl ?_))
        refine rs_op rfl (ow_pickF rfl rfl ?_)
        refine rs_op rfl (ow_move rfl ?_)
        refine rs_split 153 rfl (fun q3 => ?_) (fun q3 => ?_)
        · have _way := True.intro
          refine rs_op rfl (ow_off rfl ?_)
          refine rs_op rfl (ow_off rfl ?_)
          refine rs_op rfl (ow_pickT rfl rfl ?_)
          refine rs_op rfl (ow_move rfl ?_)
          refine rs_op rfl (ow_off rfl ?_)
          refine rs_op rfl (ow_off rfl ?_)
          refine rs_op rfl (ow_pickT rfl rfl ?_)
          refine rs_nil ?_
          refine ew_next ?_
          refine cw_then rfl ?_
          refine cw_seq ?_
          refine cw_region ?_
          refine rs_op rfl (ow_assign rfl ?_)
          refine rs_nil ?_
          refine ew_next ?_
          refine cw_ret ?_
          refine ew_then_ret ?_
          refine ew_ret (rs := [.tmp 6]) (vs := [_]) rfl ⟨rfl, trivial⟩ ?_
          exact ⟨rfl, (LW.trans E).toBelow⟩
        · have _way := True.intro
          refine rs_op rfl (ow_on rfl (ow_move rfl ?_))
          refine rs_op rfl (ow_on rfl (ow_neq rfl rfl ?_))
          refine rs_op rfl (ow_pickF rfl rfl ?_)
          refine rs_op rfl (ow_move rfl ?_)
          refine rs_split 157 rfl (fun q4 => ?_) (fun q4 => ?_)
          · have _way := True.intro
            refine rs_op rfl (ow_off rfl ?_)
            refine rs_op rfl (ow_off rfl ?_)
            refine rs_op rfl (ow_pickT rfl rfl ?_)
            refine rs_nil ?_
            refine ew_next ?_
            refine cw_then rfl ?_
            refine cw_seq ?_
            refine cw_region ?_
            refine rs_op rfl (ow_assign rfl ?_)
            refine rs_nil ?_
            refine ew_next ?_
            refine cw_ret ?_
            refine ew_then_ret ?_
            refine ew_ret (rs := [.tmp 6]) (vs := [_]) rfl ⟨rfl, trivial⟩ ?_
            exact ⟨rfl, (LW.trans E).toBelow⟩
          · have _way := True.intro
            refine rs_op rfl (ow_on rfl (ow_move rfl ?_))
            refine rs_op rfl (ow_on rfl (ow_neq rfl rfl ?_))
            refine rs_op rfl (ow_pickF rfl rfl ?_)
            refine rs_nil ?_
            refine ew_next ?_
            refine cw_cond rfl (fun q5 => ?_) (fun q5 => ?_)
            · have _way := True.intro
              refine cw_seq ?_
              refine cw_region ?_
              refine rs_op rfl (ow_assign rfl ?_)
              refine rs_nil ?_
              refine ew_next ?_
              refine cw_ret ?_
              refine ew_then_ret ?_
              refine ew_ret (rs := [.tmp 6]) (vs := [_]) rfl ⟨rfl, trivial⟩ ?_
              exact ⟨rfl, (LW.trans E).toBelow⟩
            · have _way := True.intro
              have r1 := outE_zero (i := j + k) (by simpa using q1)
              have r2 := outE_zero (i := i * outV true (j + k)) (by simpa using q2)
              have r3 := outE_zero (i := i * k) (by simpa using q3)
              have r4 := outE_zero (i := i * j) (by simpa using q4)
              have r5 := outE_zero (i := outV true (i * j) + outV true (i * k)) (by simpa using q5)
              have e1 : outV true (outV true (i * j) + outV true (i * k)) = outV true (i * outV true (j + k)) := by
                rw [outV_ok r5, outV_ok r2, outV_ok r4, outV_ok r3, outV_ok r1, Int.mul_add]
              refine cw_skip ?_
              refine ew_next ?_
              refine cw_seq ?_
              refine cw_region ?_
              refine rs_op rfl (ow_loadB Tryd.underlying24 rfl sz24 rfl (HF.on E).here.1.1.1.1.1.1.2 rfl ?_)
              refine rs_op rfl (ow_loadB Tryd.underlying24 rfl sz24 rfl (HF.on E).here.2 rfl ?_)
              refine rs_op rfl (ow_enter en21 rfl ((sameI A7 A10 c7 c10 _ outV_lt outV_lt (HF.on E).here.1.1.1.1.1.1.1.2 (HF.on E).here.1.2 e1).mono ?_))
              rintro e w56 ⟨rfl, hb⟩
              refine ⟨_, rfl, ?_⟩
              replace E := E.call hb
              clear hb
              refine rs_op rfl (ow_assign rfl ?_)
              refine rs_nil ?_
              refine ew_next ?_
              refine cw_ret ?_
              refine ew_ret (rs := [.tmp 6]) (vs := [_]) rfl ⟨rfl, trivial⟩ ?_
              exact ⟨rfl, (LW.trans E).toBelow⟩
end
/-- WholeRing answers true at every three numbers. -/
theorem ring_law (n1 : Bool) (A : Option Addr) (c : Nat) (xs : List Nat) (n2 : Bool) (B : Option Addr) (d : Nat) (ys : List Nat) (n3 : Bool) (C : Option Addr) (f : Nat) (zs : List Nat) (w : World) (hx : Nums w A xs) (hl : xs.length ≤ 9223372036854775807) (hy : Nums w B ys) (hl' : ys.length ≤ 9223372036854775807) (hz : Nums w C zs) (hl3 : zs.length ≤ 9223372036854775807) :
    Calls Tryd.prog 9 #[.agg #[.bool n1, .slice A xs.length c], .agg #[.bool n2, .slice B ys.length d], .agg #[.bool n3, .slice C zs.length f]] w fun e w' => e = .returned (.bool true) ∧ Below w.heap.size w w' := by
  cases hg : goodB n1 xs
  · exact ring_bad1 n1 n2 n3 A B C c d f xs ys zs w hx hy hz hl hl' hg
  · cases hk : goodB n2 ys
    · exact ring_bad2 n1 n2 n3 A B C c d f xs ys zs w hx hy hz hl hl' hg hk
    · cases hm : goodB n3 zs
      · exact ring_bad3 n1 n2 n3 A B C c d f xs ys zs w hx hy hz hl hl' hl3 hg hk hm
      · obtain ⟨i, rfl, rfl, hi⟩ := good_is hg
        obtain ⟨j, rfl, rfl, hj⟩ := good_is hk
        obtain ⟨k, rfl, rfl, hk'⟩ := good_is hm
        exact ring_good i j k A B C c d f w hi hj hk' hx hy hz
end Go.Proofs.YteggjfmcpodepaaDoor

/- The walk of the law WholeExps: powers of a sum of exponents. -/
import Derived.Test.YteggjfmcpodepaaDoorWPow
namespace Go.Proofs.YteggjfmcpodepaaDoor
open Go.RowKit
set_option maxRecDepth 100000
theorem and31 (m : Int) : ∃ r : Nat, IntKind.i64.wrap ((BitVec.ofInt IntKind.i64.bits m &&& BitVec.ofInt IntKind.i64.bits 31).toNat : Int) = (r : Int) ∧ r ≤ 31 := by
  have h1 : (BitVec.ofInt IntKind.i64.bits m &&& BitVec.ofInt IntKind.i64.bits 31).toNat ≤ 31 := by
    rw [BitVec.toNat_and]
    exact Nat.le_trans Nat.and_le_right (by decide)
  generalize (BitVec.ofInt IntKind.i64.bits m &&& BitVec.ofInt IntKind.i64.bits 31).toNat = r at *
  exact ⟨r, by rw [IntKind.wrap_i64]; omega, h1⟩
section
variable (n1 : Bool) (A : Option Addr) (c : Nat) (xs : List Nat) (i k : Int) (w : World)
theorem exps_bad (hx : Nums w A xs) (hl : xs.length ≤ 9223372036854775807) (hg : goodB n1 xs = false) :
    Calls Tryd.prog 8 #[.agg #[.bool n1, .slice A xs.length c], .int .i64 i, .int .i64 k] w (LawTrue w) := by
  have hrgood := fun w hx => rgood_any n1 c w A xs hl hx
  rw [hg] at hrgood
  have hpow := fun (j : Int) B d w hx => Calls.mono (pow_bad1 n1 (decide (j < 0)) A B c d xs (limbs j) w hx hl hg) (fun _ _ h => retBigErr_nought h)
  obtain ⟨r, hr, hr31⟩ := and31 i
  obtain ⟨s, hs, hs31⟩ := and31 k
  refine calls_cw Tryd.func8 rfl Tryd.ntmps8 rfl ?_
  have HF : Per No w (fun _ => True) := Per.true_
  have LW := Ext.refl (No) w
  have XLW : ∀ k, (No) k → (No) k ∨ w.heap.size ≤ k := fun _ h => Or.inl h
  have E := Ext.refl No w
  replace HF := HF.on E
  replace LW := LW.step E XLW
  replace E := Ext.refl (No) w
  replace HF := HF.and (Per.nums0 hx)
  refine cw_seq ?_
  refine cw_region ?_
  refine rs_op rfl (ow_boxB rfl ?_)
  intro gb1 w2 Bb1 Eb1 Gb1
  have Gb1 : _ ≤ gb1 := Nat.le_trans E.size Gb1
  have GLb1 := Nat.le_trans LW.size Gb1
  replace E := E.trans Eb1.no
  clear Eb1
  replace HF := HF.cons (some_ge Gb1)
  replace E := E.cons (some gb1)
  replace XLW := Mut.grow XLW (fun k e => Or.inr (Nat.le_trans LW.size ((some_ge Gb1) k e)))
  replace HF := HF.on E
  replace LW := LW.step E XLW
  have SB : ∀ k, No k → Mut [(some gb1)] k := (Mut.skip Mut.nil_)
  replace HF := HF.less SB
  replace XLW := fun k h => XLW k (SB k h)
  clear SB
  replace E := Ext.refl (No) w2
  replace HF := HF.and (Per.blkN Bb1 NotIn.nil)
  clear Bb1
  refine rs_op rfl (ow_assign rfl ?_)
  refine rs_nil ?_
  refine ew_next ?_
  refine cw_seq ?_
  refine cw_seq ?_
  refine cw_region ?_
  refine rs_op rfl (ow_enter en13 rfl ((known_any _).mono ?_))
  rintro e w3 ⟨rfl, hb⟩
  refine ⟨_, rfl, ?_⟩
  have XC : ∀ k, (No) k → k < w2.heap.size := Mut.none_
  have SC := Nat.le_trans LW.size E.size
  have Ec := Ext.of_below hb No
  replace E := E.trans Ec.no
  clear hb Ec
  refine rs_op rfl (ow_not rfl ?_)
  refine rs_nil ?_
  refine ew_next ?_
  refine cw_else rfl ?_
  refine cw_skip ?_
  refine ew_next ?_
  refine cw_seq ?_
  refine cw_region ?_
  refine rs_op rfl (ow_move rfl ?_)
  refine rs_op rfl (ow_and rfl rfl hr ?_)
  refine rs_op rfl (ow_move rfl ?_)
  refine rs_op rfl (ow_and rfl rfl hs ?_)
  refine rs_op rfl (ow_assign rfl ?_)
  refine rs_op rfl (ow_assign rfl ?_)
  refine rs_nil ?_
  refine ew_next ?_
  refine cw_seq ?_
  have OY : ∀ k, (Mut (outM [])) k → k < (World.drew w3).heap.size → (No) k := fun k h _ => (Mut.none_) k h
  refine cw_drawn (No) Mut.none_ [⟨7, 8, 24, #[.bool false, .slice none 0 0]⟩] [] (fxAt [Fx.of (.agg #[.bool n1, .slice A xs.length c]),
      Fx.of (.int .i64 ((r : Nat) : Int)),
      ⟨(Option Addr × Nat), fun (A2, c2) => .agg #[.bool (decide (((r : Nat) : Int) < 0)), .slice A2 (limbs ((r : Nat) : Int)).length c2], fun (A2, c2) b => (Nums b A2 (limbs ((r : Nat) : Int)))⟩,
      ⟨(Option Addr × Nat), fun (A3, c3) => .tuple #[.agg #[.bool false, .slice A3 0 c3], .int .i64 3], fun (A3, c3) b => (True)⟩,
      ⟨(Option Addr × Nat), fun (A3, c3) => .tuple #[.agg #[.bool false, .slice A3 0 c3], .int .i64 3], fun (A3, c3) b => (True)⟩,
      ⟨(Option Addr × Nat), fun (A3, c3) => .agg #[.bool false, .slice A3 0 c3], fun (A3, c3) b => (True)⟩,
      Fx.of (.int .i64 3),
      Fx.of undef,
      Fx.of undef,
      Fx.of (.int .i64 3)]) mixed rfl trivial (fun _ h => by cases h) ?_ ?_
  · refine ⟨?_, ?_, ?_, ?_, ?_, ?_, ?_, ?_, ?_, ?_, trivial⟩
    · intro vs X wq K
      have LE := K.1
      have XN := K.2.1
      have SQ := Nat.le_trans LW.size (Nat.le_trans E.size LE.size)
      exact ow_loadB Tryd.underlying24 rfl sz24 rfl (HF.on (E.drew.trans (LE.mono OY))).here.2 rfl ⟨Below.refl _ _, Left.of rfl⟩
    · intro vs X wq K
      have LE := K.1
      have XN := K.2.1
      have SQ := Nat.le_trans LW.size (Nat.le_trans E.size LE.size)
      exact ow_move rfl ⟨Below.refl _ _, Left.of rfl⟩
    · intro vs X wq K
      have LE := K.1
      have XN := K.2.1
      have SQ := Nat.le_trans LW.size (Nat.le_trans E.size LE.size)
      obtain ⟨_, e1, k1⟩ := K.dep 1 rfl rfl rfl
      refine ow_set 23 (.int .i64 ((r : Nat) : Int)) rfl e1 ?_
      refine ow_enter en22 rfl ((of_any r _ (by omega) (by omega)).mono ?_)
      rintro e w2 ⟨A2, c2, rfl, o2, hb⟩
      exact ⟨_, rfl, hb, ⟨(A2, c2), rfl, Per.own o2 XN⟩⟩
    · intro vs X wq K
      have LE := K.1
      have XN := K.2.1
      have SQ := Nat.le_trans LW.size (Nat.le_trans E.size LE.size)
      obtain ⟨_, e0, k0⟩ := K.dep 0 rfl rfl rfl
      refine ow_set 22 (.agg #[.bool n1, .slice A xs.length c]) rfl e0 ?_
      obtain ⟨⟨A2, c2⟩, e2, k2⟩ := K.dep 2 rfl rfl rfl
      refine ow_set 24 (.agg #[.bool (decide (((r : Nat) : Int) < 0)), .slice A2 (limbs ((r : Nat) : Int)).length c2]) rfl e2 ?_
      refine ow_enter en38 rfl ((hpow r A2 c2 _ (HF.on (E.drew.trans (LE.mono OY))).here.1.2).mono ?_)
      rintro e w2 ⟨A3, c3, rfl, o3, hb⟩
      exact ⟨_, rfl, hb, ⟨(A3, c3), rfl, Per.true_⟩⟩
    · intro vs X wq K
      have LE := K.1
      have XN := K.2.1
      have SQ := Nat.le_trans LW.size (Nat.le_trans E.size LE.size)
      obtain ⟨⟨A3, c3⟩, e3, k3⟩ := K.dep 3 rfl rfl rfl
      refine ow_set 25 (.tuple #[.agg #[.bool false, .slice A3 0 c3], .int .i64 3]) rfl e3 ?_
      exact ow_move rfl ⟨Below.refl _ _, ⟨⟨A3, c3⟩, rfl, (k3.map (fun _ h => h))⟩⟩
    · intro vs X wq K
      have LE := K.1
      have XN := K.2.1
      have SQ := Nat.le_trans LW.size (Nat.le_trans E.size LE.size)
      obtain ⟨⟨A3, c3⟩, e4, k4⟩ := K.dep 4 rfl rfl rfl
      refine ow_set 21 (.tuple #[.agg #[.bool false, .slice A3 0 c3], .int .i64 3]) rfl e4 ?_
      exact ow_extract rfl rfl ⟨Below.refl _ _, ⟨⟨A3, c3⟩, rfl, (k4.map (fun _ h => h))⟩⟩
    · intro vs X wq K
      have LE := K.1
      have XN := K.2.1
      have SQ := Nat.le_trans LW.size (Nat.le_trans E.size LE.size)
      obtain ⟨⟨A3, c3⟩, e4, k4⟩ := K.dep 4 rfl rfl rfl
      refine ow_set 21 (.tuple #[.agg #[.bool false, .slice A3 0 c3], .int .i64 3]) rfl e4 ?_
      exact ow_extract rfl rfl ⟨Below.refl _ _, Left.of rfl⟩
    · exact ⟨_, _, _, _, _, rfl, zr24, rfl⟩
    · refine ⟨_, _, _, _, _, rfl, rfl, rfl, sz24, fun vs X wq K => ?_⟩
      obtain ⟨⟨A3, c3⟩, e0, _⟩ := K.dep 5 rfl rfl rfl
      exact ⟨vs 5, rfl, by rw [e0]; rfl, by rw [e0]; rfl⟩
    · intro vs X wq K
      have LE := K.1
      have XN := K.2.1
      have SQ := Nat.le_trans LW.size (Nat.le_trans E.size LE.size)
      obtain ⟨_, e6, k6⟩ := K.dep 6 rfl rfl rfl
      refine ow_set 27 (.int .i64 3) rfl e6 ?_
      exact ow_assign rfl ⟨Below.refl _ _, Left.of rfl⟩
  intro vs w4 LE AO AL AF AA
  replace E := E.drew.trans (LE.mono OY)
  obtain ⟨⟨A3, c3⟩, e5, k5⟩ := AL.2.2.2.2.2.1
  obtain ⟨_, e9, k9⟩ := AL.2.2.2.2.2.2.2.2.2.1
  replace HF := HF.on E
  replace LW := LW.step E XLW
  replace E := Ext.refl (No) w4
  replace HF := HF.and ((k5.map (fun _ h => h) : Per (No) w4 (fun b => True)))
  obtain ⟨gb5, v0, y0, qb5, Gb5, Bb5, ey, ev0⟩ := AF.1
  cases ey
  obtain rfl : vs 5 = v0 := Option.some.inj ev0
  rw [e5] at Bb5
  replace HF := HF.on E
  replace LW := LW.step E XLW
  replace E := Ext.refl (No) w4
  replace HF := HF.and ((Per.blkN Bb5 NotIn.nil : Per (No) w4 (fun b => Blk b gb5 24 #[.bool false, .slice A3 0 c3])))
  clear Bb5
  have e7 := qb5
  refine ew_sub (τ := [(1, _), (2, _), (3, _), (6, _), (7, .pointer (some ⟨gb5, 0, none⟩)), (8, .int .i64 3)]) ⟨rfl, rfl, rfl, rfl, congrArg some e7, congrArg some e9, trivial⟩ ?_
  clear AL AF AA LE AO OY e5 e9 e7 k5 k9
  refine ew_next ?_
  refine cw_seq ?_
  have OY : ∀ k, (Mut (outM [])) k → k < (World.drew w4).heap.size → (No) k := fun k h _ => (Mut.none_) k h
  refine cw_drawn (No) Mut.none_ [⟨7, 8, 24, #[.bool false, .slice none 0 0]⟩] [] (fxAt [Fx.of (.agg #[.bool n1, .slice A xs.length c]),
      Fx.of (.int .i64 ((s : Nat) : Int)),
      ⟨(Option Addr × Nat), fun (A4, c4) => .agg #[.bool (decide (((s : Nat) : Int) < 0)), .slice A4 (limbs ((s : Nat) : Int)).length c4], fun (A4, c4) b => (Nums b A4 (limbs ((s : Nat) : Int)))⟩,
      ⟨(Option Addr × Nat), fun (A5, c5) => .tuple #[.agg #[.bool false, .slice A5 0 c5], .int .i64 3], fun (A5, c5) b => (True)⟩,
      ⟨(Option Addr × Nat), fun (A5, c5) => .tuple #[.agg #[.bool false, .slice A5 0 c5], .int .i64 3], fun (A5, c5) b => (True)⟩,
      ⟨(Option Addr × Nat), fun (A5, c5) => .agg #[.bool false, .slice A5 0 c5], fun (A5, c5) b => (True)⟩,
      Fx.of (.int .i64 3),
      Fx.of undef,
      Fx.of undef,
      Fx.of (.int .i64 3)]) mixed rfl trivial (fun _ h => by cases h) ?_ ?_
  · refine ⟨?_, ?_, ?_, ?_, ?_, ?_, ?_, ?_, ?_, ?_, trivial⟩
    · intro vs X wq K
      have LE := K.1
      have XN := K.2.1
      have SQ := Nat.le_trans LW.size (Nat.le_trans E.size LE.size)
      exact ow_loadB Tryd.underlying24 rfl sz24 rfl (HF.on (E.drew.trans (LE.mono OY))).here.1.1.2 rfl ⟨Below.refl _ _, Left.of rfl⟩
    · intro vs X wq K
      have LE := K.1
      have XN := K.2.1
      have SQ := Nat.le_trans LW.size (Nat.le_trans E.size LE.size)
      exact ow_move rfl ⟨Below.refl _ _, Left.of rfl⟩
    · intro vs X wq K
      have LE := K.1
      have XN := K.2.1
      have SQ := Nat.le_trans LW.size (Nat.le_trans E.size LE.size)
      obtain ⟨_, e1, k1⟩ := K.dep 1 rfl rfl rfl
      refine ow_set 30 (.int .i64 ((s : Nat) : Int)) rfl e1 ?_
      refine ow_enter en22 rfl ((of_any s _ (by omega) (by omega)).mono ?_)
      rintro e w2 ⟨A4, c4, rfl, o4, hb⟩
      exact ⟨_, rfl, hb, ⟨(A4, c4), rfl, Per.own o4 XN⟩⟩
    · intro vs X wq K
      have LE := K.1
      have XN := K.2.1
      have SQ := Nat.le_trans LW.size (Nat.le_trans E.size LE.size)
      obtain ⟨_, e0, k0⟩ := K.dep 0 rfl rfl rfl
      refine ow_set 29 (.agg #[.bool n1, .slice A xs.length c]) rfl e0 ?_
      obtain ⟨⟨A4, c4⟩, e2, k2⟩ := K.dep 2 rfl rfl rfl
      refine ow_set 31 (.agg #[.bool (decide (((s : Nat) : Int) < 0)), .slice A4 (limbs ((s : Nat) : Int)).length c4]) rfl e2 ?_
      refine ow_enter en38 rfl ((hpow s A4 c4 _ (HF.on (E.drew.trans (LE.mono OY))).here.1.1.1.2).mono ?_)
      rintro e w2 ⟨A5, c5, rfl, o5, hb⟩
      exact ⟨_, rfl, hb, ⟨(A5, c5), rfl, Per.true_⟩⟩
    · intro vs X wq K
      have LE := K.1
      have XN := K.2.1
      have SQ := Nat.le_trans LW.size (Nat.le_trans E.size LE.size)
      obtain ⟨⟨A5, c5⟩, e3, k3⟩ := K.dep 3 rfl rfl rfl
      refine ow_set 32 (.tuple #[.agg #[.bool false, .slice A5 0 c5], .int .i64 3]) rfl e3 ?_
      exact ow_move rfl ⟨Below.refl _ _, ⟨⟨A5, c5⟩, rfl, (k3.map (fun _ h => h))⟩⟩
    · intro vs X wq K
      have LE := K.1
      have XN := K.2.1
      have SQ := Nat.le_trans LW.size (Nat.le_trans E.size LE.size)
      obtain ⟨⟨A5, c5⟩, e4, k4⟩ := K.dep 4 rfl rfl rfl
      refine ow_set 28 (.tuple #[.agg #[.bool false, .slice A5 0 c5], .int .i64 3]) rfl e4 ?_
      exact ow_extract rfl rfl ⟨Below.refl _ _, ⟨⟨A5, c5⟩, rfl, (k4.map (fun _ h => h))⟩⟩
    · intro vs X wq K
      have LE := K.1
      have XN := K.2.1
      have SQ := Nat.le_trans LW.size (Nat.le_trans E.size LE.size)
      obtain ⟨⟨A5, c5⟩, e4, k4⟩ := K.dep 4 rfl rfl rfl
      refine ow_set 28 (.tuple #[.agg #[.bool false, .slice A5 0 c5], .int .i64 3]) rfl e4 ?_
      exact ow_extract rfl rfl ⟨Below.refl _ _, Left.of rfl⟩
    · exact ⟨_, _, _, _, _, rfl, zr24, rfl⟩
    · refine ⟨_, _, _, _, _, rfl, rfl, rfl, sz24, fun vs X wq K => ?_⟩
      obtain ⟨⟨A5, c5⟩, e0, _⟩ := K.dep 5 rfl rfl rfl
      exact ⟨vs 5, rfl, by rw [e0]; rfl, by rw [e0]; rfl⟩
    · intro vs X wq K
      have LE := K.1
      have XN := K.2.1
      have SQ := Nat.le_trans LW.size (Nat.le_trans E.size LE.size)
      obtain ⟨_, e6, k6⟩ := K.dep 6 rfl rfl rfl
      refine ow_set 34 (.int .i64 3) rfl e6 ?_
      exact ow_assign rfl ⟨Below.refl _ _, Left.of rfl⟩
  intro vs w6 LE AO AL AF AA
  replace E := E.drew.trans (LE.mono OY)
  obtain ⟨⟨A5, c5⟩, e5, k5⟩ := AL.2.2.2.2.2.1
  obtain ⟨_, e9, k9⟩ := AL.2.2.2.2.2.2.2.2.2.1
  replace HF := HF.on E
  replace LW := LW.step E XLW
  replace E := Ext.refl (No) w6
  replace HF := HF.and ((k5.map (fun _ h => h) : Per (No) w6 (fun b => True)))
  obtain ⟨gb7, v0, y0, qb7, Gb7, Bb7, ey, ev0⟩ := AF.1
  cases ey
  obtain rfl : vs 5 = v0 := Option.some.inj ev0
  rw [e5] at Bb7
  replace HF := HF.on E
  replace LW := LW.step E XLW
  replace E := Ext.refl (No) w6
  replace HF := HF.and ((Per.blkN Bb7 NotIn.nil : Per (No) w6 (fun b => Blk b gb7 24 #[.bool false, .slice A5 0 c5])))
  clear Bb7
  have e7 := qb7
  refine ew_sub (τ := [(1, _), (2, _), (3, _), (6, _), (7, _), (8, _), (9, .pointer (some ⟨gb7, 0, none⟩)), (10, .int .i64 3)]) ⟨rfl, rfl, rfl, rfl, rfl, rfl, congrArg some e7, congrArg some e9, trivial⟩ ?_
  clear AL AF AA LE AO OY e5 e9 e7 k5 k9
  refine ew_next ?_
  refine cw_seq ?_
  have OY : ∀ k, (Mut (outM [])) k → k < (World.drew w6).heap.size → (No) k := fun k h _ => (Mut.none_) k h
  refine cw_drawn (No) Mut.none_ [⟨9, 10, 24, #[.bool false, .slice none 0 0]⟩] [] (fxAt [Fx.of (.agg #[.bool n1, .slice A xs.length c]),
      Fx.of (.int .i64 ((r : Nat) : Int)),
      Fx.of (.int .i64 ((s : Nat) : Int)),
      Fx.of (.int .i64 ((r + s : Nat) : Int)),
      ⟨(Option Addr × Nat), fun (A6, c6) => .agg #[.bool (decide (((r + s : Nat) : Int) < 0)), .slice A6 (limbs ((r + s : Nat) : Int)).length c6], fun (A6, c6) b => (Nums b A6 (limbs ((r + s : Nat) : Int)))⟩,
      ⟨(Option Addr × Nat), fun (A7, c7) => .tuple #[.agg #[.bool false, .slice A7 0 c7], .int .i64 3], fun (A7, c7) b => (True)⟩,
      ⟨(Option Addr × Nat), fun (A7, c7) => .tuple #[.agg #[.bool false, .slice A7 0 c7], .int .i64 3], fun (A7, c7) b => (True)⟩,
      ⟨(Option Addr × Nat), fun (A7, c7) => .agg #[.bool false, .slice A7 0 c7], fun (A7, c7) b => (True)⟩,
      Fx.of (.int .i64 3),
      Fx.of undef,
      Fx.of undef,
      Fx.of (.int .i64 3)]) mixed rfl trivial (fun _ h => by cases h) ?_ ?_
  · refine ⟨?_, ?_, ?_, ?_, ?_, ?_, ?_, ?_, ?_, ?_, ?_, ?_, trivial⟩
    · intro vs X wq K
      have LE := K.1
      have XN := K.2.1
      have SQ := Nat.le_trans LW.size (Nat.le_trans E.size LE.size)
      exact ow_loadB Tryd.underlying24 rfl sz24 rfl (HF.on (E.drew.trans (LE.mono OY))).here.1.1.1.1.2 rfl ⟨Below.refl _ _, Left.of rfl⟩
    · intro vs X wq K
      have LE := K.1
      have XN := K.2.1
      have SQ := Nat.le_trans LW.size (Nat.le_trans E.size LE.size)
      exact ow_move rfl ⟨Below.refl _ _, Left.of rfl⟩
    · intro vs X wq K
      have LE := K.1
      have XN := K.2.1
      have SQ := Nat.le_trans LW.size (Nat.le_trans E.size LE.size)
      exact ow_move rfl ⟨Below.refl _ _, Left.of rfl⟩
    · intro vs X wq K
      have LE := K.1
      have XN := K.2.1
      have SQ := Nat.le_trans LW.size (Nat.le_trans E.size LE.size)
      obtain ⟨_, e1, k1⟩ := K.dep 1 rfl rfl rfl
      refine ow_set 37 (.int .i64 ((r : Nat) : Int)) rfl e1 ?_
      obtain ⟨_, e2, k2⟩ := K.dep 2 rfl rfl rfl
      refine ow_set 38 (.int .i64 ((s : Nat) : Int)) rfl e2 ?_
      exact ow_add rfl rfl (show IntKind.i64.wrap ((r : Int) + (s : Int)) = ((r + s : Nat) : Int) by rw [IntKind.wrap_i64]; omega) ⟨Below.refl _ _, Left.of rfl⟩
    · intro vs X wq K
      have LE := K.1
      have XN := K.2.1
      have SQ := Nat.le_trans LW.size (Nat.le_trans E.size LE.size)
      obtain ⟨_, e3, k3⟩ := K.dep 3 rfl rfl rfl
      refine ow_set 39 (.int .i64 ((r + s : Nat) : Int)) rfl e3 ?_
      refine ow_enter en22 rfl ((of_any ((r + s : Nat) : Int) _ (by omega) (by omega)).mono ?_)
      rintro e w2 ⟨A6, c6, rfl, o6, hb⟩
      exact ⟨_, rfl, hb, ⟨(A6, c6), rfl, Per.own o6 XN⟩⟩
    · intro vs X wq K
      have LE := K.1
      have XN := K.2.1
      have SQ := Nat.le_trans LW.size (Nat.le_trans E.size LE.size)
      obtain ⟨_, e0, k0⟩ := K.dep 0 rfl rfl rfl
      refine ow_set 36 (.agg #[.bool n1, .slice A xs.length c]) rfl e0 ?_
      obtain ⟨⟨A6, c6⟩, e4, k4⟩ := K.dep 4 rfl rfl rfl
      refine ow_set 40 (.agg #[.bool (decide (((r + s : Nat) : Int) < 0)), .slice A6 (limbs ((r + s : Nat) : Int)).length c6]) rfl e4 ?_
      refine ow_enter en38 rfl ((hpow ((r + s : Nat) : Int) A6 c6 _ (HF.on (E.drew.trans (LE.mono OY))).here.1.1.1.1.1.2).mono ?_)
      rintro e w2 ⟨A7, c7, rfl, o7, hb⟩
      exact ⟨_, rfl, hb, ⟨(A7, c7), rfl, Per.true_⟩⟩
    · intro vs X wq K
      have LE := K.1
      have XN := K.2.1
      have SQ := Nat.le_trans LW.size (Nat.le_trans E.size LE.size)
      obtain ⟨⟨A7, c7⟩, e5, k5⟩ := K.dep 5 rfl rfl rfl
      refine ow_set 41 (.tuple #[.agg #[.bool false, .slice A7 0 c7], .int .i64 3]) rfl e5 ?_
      exact ow_move rfl ⟨Below.refl _ _, ⟨⟨A7, c7⟩, rfl, (k5.map (fun _ h => h))⟩⟩
    · intro vs X wq K
      have LE := K.1
      have XN := K.2.1
      have SQ := Nat.le_trans LW.size (Nat.le_trans E.size LE.size)
      obtain ⟨⟨A7, c7⟩, e6, k6⟩ := K.dep 6 rfl rfl rfl
      refine ow_set 35 (.tuple #[.agg #[.bool false, .slice A7 0 c7], .int .i64 3]) rfl e6 ?_
      exact ow_extract rfl rfl ⟨Below.refl _ _, ⟨⟨A7, c7⟩, rfl, (k6.map (fun _ h => h))⟩⟩
    · intro vs X wq K
      have LE := K.1
      have XN := K.2.1
      have SQ := Nat.le_trans LW.size (Nat.le_trans E.size LE.size)
      obtain ⟨⟨A7, c7⟩, e6, k6⟩ := K.dep 6 rfl rfl rfl
      refine ow_set 35 (.tuple #[.agg #[.bool false, .slice A7 0 c7], .int .i64 3]) rfl e6 ?_
      exact ow_extract rfl rfl ⟨Below.refl _ _, Left.of rfl⟩
    · exact ⟨_, _, _, _, _, rfl, zr24, rfl⟩
    · refine ⟨_, _, _, _, _, rfl, rfl, rfl, sz24, fun vs X wq K => ?_⟩
      obtain ⟨⟨A7, c7⟩, e0, _⟩ := K.dep 7 rfl rfl rfl
      exact ⟨vs 7, rfl, by rw [e0]; rfl, by rw [e0]; rfl⟩
    · intro vs X wq K
      have LE := K.1
      have XN := K.2.1
      have SQ := Nat.le_trans LW.size (Nat.le_trans E.size LE.size)
      obtain ⟨_, e8, k8⟩ := K.dep 8 rfl rfl rfl
      refine ow_set 43 (.int .i64 3) rfl e8 ?_
      exact ow_assign rfl ⟨Below.refl _ _, Left.of rfl⟩
  intro vs w8 LE AO AL AF AA
  replace E := E.drew.trans (LE.mono OY)
  obtain ⟨⟨A7, c7⟩, e7, k7⟩ := AL.2.2.2.2.2.2.2.1
  obtain ⟨_, e11, k11⟩ := AL.2.2.2.2.2.2.2.2.2.2.2.1
  replace HF := HF.on E
  replace LW := LW.step E XLW
  replace E := Ext.refl (No) w8
  replace HF := HF.and ((k7.map (fun _ h => h) : Per (No) w8 (fun b => True)))
  obtain ⟨gb9, v0, y0, qb9, Gb9, Bb9, ey, ev0⟩ := AF.1
  cases ey
  obtain rfl : vs 7 = v0 := Option.some.inj ev0
  rw [e7] at Bb9
  replace HF := HF.on E
  replace LW := LW.step E XLW
  replace E := Ext.refl (No) w8
  replace HF := HF.and ((Per.blkN Bb9 NotIn.nil : Per (No) w8 (fun b => Blk b gb9 24 #[.bool false, .slice A7 0 c7])))
  clear Bb9
  have e9 := qb9
  refine ew_sub (τ := [(3, _), (6, _), (7, _), (8, _), (9, _), (10, _), (11, .pointer (some ⟨gb9, 0, none⟩)), (12, .int .i64 3)]) ⟨rfl, rfl, rfl, rfl, rfl, rfl, congrArg some e9, congrArg some e11, trivial⟩ ?_
  clear AL AF AA LE AO OY e7 e11 e9 k7 k11
  refine ew_next ?_
  refine cw_seq ?_
  refine cw_seq ?_
  refine cw_region ?_
  refine rs_op rfl (ow_loadB Tryd.underlying24 rfl sz24 rfl (HF.on E).here.1.1.1.1.1.1.2 rfl ?_)
  refine rs_op rfl (ow_enter en20 rfl ((hrgood _ (HF.on E).here.1.1.1.1.1.1.1.2).mono ?_))
  rintro e w10 ⟨rfl, hb⟩
  refine ⟨_, rfl, ?_⟩
  have XC : ∀ k, (No) k → k < w8.heap.size := Mut.none_
  have SC := Nat.le_trans LW.size E.size
  have Ec := Ext.of_below hb No
  replace E := E.trans Ec.no
  clear hb Ec
  refine rs_op rfl (ow_not rfl ?_)
  refine rs_nil ?_
  refine ew_next ?_
  refine cw_then rfl ?_
  refine cw_seq ?_
  refine cw_region ?_
  refine rs_op rfl (ow_move rfl ?_)
  refine rs_op rfl (ow_eql rfl rfl ?_)
  refine rs_op rfl (ow_move rfl ?_)
  refine rs_op rfl (ow_on rfl (ow_move rfl ?_))
  refine rs_op rfl (ow_on rfl (ow_eql rfl rfl ?_))
  refine rs_op rfl (ow_pickT rfl rfl ?_)
  refine rs_op rfl (ow_move rfl ?_)
  refine rs_op rfl (ow_on rfl (ow_move rfl ?_))
  refine rs_op rfl (ow_on rfl (ow_eql rfl rfl ?_))
  refine rs_op rfl (ow_pickT rfl rfl ?_)
  refine rs_op rfl (ow_assign rfl ?_)
  refine rs_nil ?_
  refine ew_next ?_
  refine cw_ret ?_
  refine ew_then_ret ?_
  refine ew_ret (rs := [.tmp 6]) (vs := [_]) rfl ⟨rfl, trivial⟩ ?_
  exact ⟨rfl, (LW.step E XLW).toBelow⟩
end
theorem exps_fit {z : Int} {r s : Nat} (h : ¬ (z ^ r).natAbs < B18 ^ 30 ∨ ¬ (z ^ s).natAbs < B18 ^ 30) : outE true (z ^ (r + s)) = 7 := by
  have hsmall : ∀ z : Int, z.natAbs ≤ 1 → z.natAbs < B18 ^ 30 := fun z hz => Nat.lt_of_le_of_lt hz (Nat.one_lt_pow (by decide) (by unfold B18; omega))
  have h0 : ∀ n, ¬ (z ^ n).natAbs < B18 ^ 30 → 1 ≤ z.natAbs := fun n hn => by
    rcases Nat.eq_zero_or_pos z.natAbs with h1 | h1
    · exact absurd (hsmall (z ^ n) (by rw [pow_abs, h1]; cases n with | zero => exact Nat.le_refl _ | succ n => rw [Nat.zero_pow (by omega)]; omega)) hn
    · exact h1
  apply outE_big
  rcases h with h | h
  · have := pow_mono (h0 _ h) (show r ≤ r + s by omega); omega
  · have := pow_mono (h0 _ h) (show s ≤ r + s by omega); omega
theorem outE_nofit {z : Int} (h : outE true z ≠ 0) : ¬ z.natAbs < B18 ^ 30 := fun h9 => h (outE_ok h9)
section
variable (z i k : Int) (A : Option Addr) (c : Nat) (w : World)
theorem exps_good (hz : z.natAbs < B18 ^ 30) (hx : Nums w A (limbs z)) :
    Calls Tryd.prog 8 #[.agg #[.bool (decide (z < 0)), .slice A (limbs z).length c], .int .i64 i, .int .i64 k] w (LawTrue w) := by
  obtain ⟨r, hr, hr31⟩ := and31 i
  obtain ⟨s, hs, hs31⟩ := and31 k
  have hrgood := fun w hx => rgood_any (decide (z < 0)) c w A (limbs z) (by have := limbs_length hz; omega) hx
  rw [good_limbs hz] at hrgood
  have hpow := fun (r : Nat) (hr : r ≤ 62) B d w hx hy => powI z r A B c d w hz (Nat.lt_of_le_of_lt (m := 62) (by omega) (by unfold B18; decide +kernel)) hx hy (by omega)
  have htn : ∀ r : Nat, ((r : Nat) : Int).toNat = r := fun r => Int.toNat_natCast r
  simp only [htn] at hpow
  refine calls_cw Tryd.func8 rfl Tryd.ntmps8 rfl ?_
  have HF : Per No w (fun _ => True) := Per.true_
  have LW := Ext.refl (No) w
  have XLW : ∀ k, (No) k → (No) k ∨ w.heap.size ≤ k := fun _ h => Or.inl h
  have E := Ext.refl No w
  replace HF := HF.on E
  replace LW := LW.step E XLW
  replace E := Ext.refl (No) w
  replace HF := HF.and (Per.nums0 hx)
  refine cw_seq ?_
  refine cw_region ?_
  refine rs_op rfl (ow_boxB rfl ?_)
  intro gb1 w2 Bb1 Eb1 Gb1
  have Gb1 : _ ≤ gb1 := Nat.le_trans E.size Gb1
  have GLb1 := Nat.le_trans LW.size Gb1
  replace E := E.trans Eb1.no
  clear Eb1
  replace HF := HF.cons (some_ge Gb1)
  replace E := E.cons (some gb1)
  replace XLW := Mut.grow XLW (fun k e => Or.inr (Nat.le_trans LW.size ((some_ge Gb1) k e)))
  replace HF := HF.on E
  replace LW := LW.step E XLW
  have SB : ∀ k, No k → Mut [(some gb1)] k := (Mut.skip Mut.nil_)
  replace HF := HF.less SB
  replace XLW := fun k h => XLW k (SB k h)
  clear SB
  replace E := Ext.refl (No) w2
  replace HF := HF.and (Per.blkN Bb1 NotIn.nil)
  clear Bb1
  refine rs_op rfl (ow_assign rfl ?_)
  refine rs_nil ?_
  refine ew_next ?_
  refine cw_seq ?_
  refine cw_seq ?_
  refine cw_region ?_
  refine rs_op rfl (ow_enter en13 rfl ((known_any _).mono ?_))
  rintro e w3 ⟨rfl, hb⟩
  refine ⟨_, rfl, ?_⟩
  have XC : ∀ k, (No) k → k < w2.heap.size := Mut.none_
  have SC := Nat.le_trans LW.size E.size
  have Ec := Ext.of_below hb No
  replace E := E.trans Ec.no
  clear hb Ec
  refine rs_op rfl (ow_not rfl ?_)
  refine rs_nil ?_
  refine ew_next ?_
  refine cw_else rfl ?_
  refine cw_skip ?_
  refine ew_next ?_
  refine cw_seq ?_
  refine cw_region ?_
  refine rs_op rfl (ow_move rfl ?_)
  refine rs_op rfl (ow_and rfl rfl hr ?_)
  refine rs_op rfl (ow_move rfl ?_)
  refine rs_op rfl (ow_and rfl rfl hs ?_)
  refine rs_op rfl (ow_assign rfl ?_)
  refine rs_op rfl (ow_assign rfl ?_)
  refine rs_nil ?_
  refine ew_next ?_
  refine cw_seq ?_
  have OY : ∀ k, (Mut (outM [])) k → k < (World.drew w3).heap.size → (No) k := fun k h _ => (Mut.none_) k h
  refine cw_drawn (No) Mut.none_ [⟨7, 8, 24, #[.bool false, .slice none 0 0]⟩] [] (fxAt [Fx.of (.agg #[.bool (decide (z < 0)), .slice A (limbs z).length c]),
      Fx.of (.int .i64 ((r : Nat) : Int)),
      ⟨(Option Addr × Nat), fun (A2, c2) => .agg #[.bool (decide (((r : Nat) : Int) < 0)), .slice A2 (limbs ((r : Nat) : Int)).length c2], fun (A2, c2) b => (Nums b A2 (limbs ((r : Nat) : Int)))⟩,
      ⟨(Option Addr × Nat), fun (A3, c3) => .tuple #[.agg #[.bool (decide (outV true (z ^ r) < 0)), .slice A3 (limbs (outV true (z ^ r))).length c3], .int .i64 (outE true (z ^ r))], fun (A3, c3) b => (Nums b A3 (limbs (outV true (z ^ r))))⟩,
      ⟨(Option Addr × Nat), fun (A3, c3) => .tuple #[.agg #[.bool (decide (outV true (z ^ r) < 0)), .slice A3 (limbs (outV true (z ^ r))).length c3], .int .i64 (outE true (z ^ r))], fun (A3, c3) b => (Nums b A3 (limbs (outV true (z ^ r))))⟩,
      ⟨(Option Addr × Nat), fun (A3, c3) => .agg #[.bool (decide (outV true (z ^ r) < 0)), .slice A3 (limbs (outV true (z ^ r))).length c3], fun (A3, c3) b => (Nums b A3 (limbs (outV true (z ^ r))))⟩,
      Fx.of (.int .i64 (outE true (z ^ r))),
      Fx.of undef,
      Fx.of undef,
      Fx.of (.int .i64 (outE true (z ^ r)))]) mixed rfl trivial (fun _ h => by cases h) ?_ ?_
  · refine ⟨?_, ?_, ?_, ?_, ?_, ?_, ?_, ?_, ?_, ?_, trivial⟩
    · intro vs X wq K
      have LE := K.1
      have XN := K.2.1
      have SQ := Nat.le_trans LW.size (Nat.le_trans E.size LE.size)
      exact ow_loadB Tryd.underlying24 rfl sz24 rfl (HF.on (E.drew.trans (LE.mono OY))).here.2 rfl ⟨Below.refl _ _, Left.of rfl⟩
    · intro vs X wq K
      have LE := K.1
      have XN := K.2.1
      have SQ := Nat.le_trans LW.size (Nat.le_trans E.size LE.size)
      exact ow_move rfl ⟨Below.refl _ _, Left.of rfl⟩
    · intro vs X wq K
      have LE := K.1
      have XN := K.2.1
      have SQ := Nat.le_trans LW.size (Nat.le_trans E.size LE.size)
      obtain ⟨_, e1, k1⟩ := K.dep 1 rfl rfl rfl
      refine ow_set 23 (.int .i64 ((r : Nat) : Int)) rfl e1 ?_
      refine ow_enter en22 rfl ((of_any r _ (by omega) (by omega)).mono ?_)
      rintro e w2 ⟨A2, c2, rfl, o2, hb⟩
      exact ⟨_, rfl, hb, ⟨(A2, c2), rfl, Per.own o2 XN⟩⟩
    · intro vs X wq K
      have LE := K.1
      have XN := K.2.1
      have SQ := Nat.le_trans LW.size (Nat.le_trans E.size LE.size)
      obtain ⟨_, e0, k0⟩ := K.dep 0 rfl rfl rfl
      refine ow_set 22 (.agg #[.bool (decide (z < 0)), .slice A (limbs z).length c]) rfl e0 ?_
      obtain ⟨⟨A2, c2⟩, e2, k2⟩ := K.dep 2 rfl rfl rfl
      refine ow_set 24 (.agg #[.bool (decide (((r : Nat) : Int) < 0)), .slice A2 (limbs ((r : Nat) : Int)).length c2]) rfl e2 ?_
      refine ow_enter en38 rfl ((hpow r (by omega) A2 c2 _ (HF.on (E.drew.trans (LE.mono OY))).here.1.2 k2.here).mono ?_)
      rintro e w2 ⟨A3, c3, rfl, o3, hb⟩
      exact ⟨_, rfl, hb, ⟨(A3, c3), rfl, Per.own o3 XN⟩⟩
    · intro vs X wq K
      have LE := K.1
      have XN := K.2.1
      have SQ := Nat.le_trans LW.size (Nat.le_trans E.size LE.size)
      obtain ⟨⟨A3, c3⟩, e3, k3⟩ := K.dep 3 rfl rfl rfl
      refine ow_set 25 (.tuple #[.agg #[.bool (decide (outV true (z ^ r) < 0)), .slice A3 (limbs (outV true (z ^ r))).length c3], .int .i64 (outE true (z ^ r))]) rfl e3 ?_
      exact ow_move rfl ⟨Below.refl _ _, ⟨⟨A3, c3⟩, rfl, (k3.map (fun _ h => h))⟩⟩
    · intro vs X wq K
      have LE := K.1
      have XN := K.2.1
      have SQ := Nat.le_trans LW.size (Nat.le_trans E.size LE.size)
      obtain ⟨⟨A3, c3⟩, e4, k4⟩ := K.dep 4 rfl rfl rfl
      refine ow_set 21 (.tuple #[.agg #[.bool (decide (outV true (z ^ r) < 0)), .slice A3 (limbs (outV true (z ^ r))).length c3], .int .i64 (outE true (z ^ r))]) rfl e4 ?_
      exact ow_extract rfl rfl ⟨Below.refl _ _, ⟨⟨A3, c3⟩, rfl, (k4.map (fun _ h => h))⟩⟩
    · intro vs X wq K
      have LE := K.1
      have XN := K.2.1
      have SQ := Nat.le_trans LW.size (Nat.le_trans E.size LE.size)
      obtain ⟨⟨A3, c3⟩, e4, k4⟩ := K.dep 4 rfl rfl rfl
      refine ow_set 21 (.tuple #[.agg #[.bool (decide (outV true (z ^ r) < 0)), .slice A3 (limbs (outV true (z ^ r))).length c3], .int .i64 (outE true (z ^ r))]) rfl e4 ?_
      exact ow_extract rfl rfl ⟨Below.refl _ _, Left.of rfl⟩
    · exact ⟨_, _, _, _, _, rfl, zr24, rfl⟩
    · refine ⟨_, _, _, _, _, rfl, rfl, rfl, sz24, fun vs X wq K => ?_⟩
      obtain ⟨⟨A3, c3⟩, e0, _⟩ := K.dep 5 rfl rfl rfl
      exact ⟨vs 5, rfl, by rw [e0]; rfl, by rw [e0]; rfl⟩
    · intro vs X wq K
      have LE := K.1
      have XN := K.2.1
      have SQ := Nat.le_trans LW.size (Nat.le_trans E.size LE.size)
      obtain ⟨_, e6, k6⟩ := K.dep 6 rfl rfl rfl
      refine ow_set 27 (.int .i64 (outE true (z ^ r))) rfl e6 ?_
      exact ow_assign rfl ⟨Below.refl _ _, Left.of rfl⟩
  intro vs w4 LE AO AL AF AA
  replace E := E.drew.trans (LE.mono OY)
  obtain ⟨⟨A3, c3⟩, e5, k5⟩ := AL.2.2.2.2.2.1
  obtain ⟨_, e9, k9⟩ := AL.2.2.2.2.2.2.2.2.2.1
  replace HF := HF.on E
  replace LW := LW.step E XLW
  replace E := Ext.refl (No) w4
  replace HF := HF.and ((k5.map (fun _ h => h) : Per (No) w4 (fun b => Nums b A3 (limbs (outV true (z ^ r))))))
  obtain ⟨gb5, v0, y0, qb5, Gb5, Bb5, ey, ev0⟩ := AF.1
  cases ey
  obtain rfl : vs 5 = v0 := Option.some.inj ev0
  rw [e5] at Bb5
  replace HF := HF.on E
  replace LW := LW.step E XLW
  replace E := Ext.refl (No) w4
  replace HF := HF.and ((Per.blkN Bb5 NotIn.nil : Per (No) w4 (fun b => Blk b gb5 24 #[.bool (decide (outV true (z ^ r) < 0)), .slice A3 (limbs (outV true (z ^ r))).length c3])))
  clear Bb5
  have e7 := qb5
  refine ew_sub (τ := [(1, _), (2, _), (3, _), (6, _), (7, .pointer (some ⟨gb5, 0, none⟩)), (8, .int .i64 (outE true (z ^ r)))]) ⟨rfl, rfl, rfl, rfl, congrArg some e7, congrArg some e9, trivial⟩ ?_
  clear AL AF AA LE AO OY e5 e9 e7 k5 k9
  refine ew_next ?_
  refine cw_seq ?_
  have OY : ∀ k, (Mut (outM [])) k → k < (World.drew w4).heap.size → (No) k := fun k h _ => (Mut.none_) k h
  refine cw_drawn (No) Mut.none_ [⟨7, 8, 24, #[.bool false, .slice none 0 0]⟩] [] (fxAt [Fx.of (.agg #[.bool (decide (z < 0)), .slice A (limbs z).length c]),
      Fx.of (.int .i64 ((s : Nat) : Int)),
      ⟨(Option Addr × Nat), fun (A4, c4) => .agg #[.bool (decide (((s : Nat) : Int) < 0)), .slice A4 (limbs ((s : Nat) : Int)).length c4], fun (A4, c4) b => (Nums b A4 (limbs ((s : Nat) : Int)))⟩,
      ⟨(Option Addr × Nat), fun (A5, c5) => .tuple #[.agg #[.bool (decide (outV true (z ^ s) < 0)), .slice A5 (limbs (outV true (z ^ s))).length c5], .int .i64 (outE true (z ^ s))], fun (A5, c5) b => (Nums b A5 (limbs (outV true (z ^ s))))⟩,
      ⟨(Option Addr × Nat), fun (A5, c5) => .tuple #[.agg #[.bool (decide (outV true (z ^ s) < 0)), .slice A5 (limbs (outV true (z ^ s))).length c5], .int .i64 (outE true (z ^ s))], fun (A5, c5) b => (Nums b A5 (limbs (outV true (z ^ s))))⟩,
      ⟨(Option Addr × Nat), fun (A5, c5) => .agg #[.bool (decide (outV true (z ^ s) < 0)), .slice A5 (limbs (outV true (z ^ s))).length c5], fun (A5, c5) b => (Nums b A5 (limbs (outV true (z ^ s))))⟩,
      Fx.of (.int .i64 (outE true (z ^ s))),
      Fx.of undef,
      Fx.of undef,
      Fx.of (.int .i64 (outE true (z ^ s)))]) mixed rfl trivial (fun _ h => by cases h) ?_ ?_
  · refine ⟨?_, ?_, ?_, ?_, ?_, ?_, ?_, ?_, ?_, ?_, trivial⟩
    · intro vs X wq K
      have LE := K.1
      have XN := K.2.1
      have SQ := Nat.le_trans LW.size (Nat.le_trans E.size LE.size)
      exact ow_loadB Tryd.underlying24 rfl sz24 rfl (HF.on (E.drew.trans (LE.mono OY))).here.1.1.2 rfl ⟨Below.refl _ _, Left.of rfl⟩
    · intro vs X wq K
      have LE := K.1
      have XN := K.2.1
      have SQ := Nat.le_trans LW.size (Nat.le_trans E.size LE.size)
      exact ow_move rfl ⟨Below.refl _ _, Left.of rfl⟩
    · intro vs X wq K
      have LE := K.1
      have XN := K.2.1
      have SQ := Nat.le_trans LW.size (Nat.le_trans E.size LE.size)
      obtain ⟨_, e1, k1⟩ := K.dep 1 rfl rfl rfl
      refine ow_set 30 (.int .i64 ((s : Nat) : Int)) rfl e1 ?_
      refine ow_enter en22 rfl ((of_any s _ (by omega) (by omega)).mono ?_)
      rintro e w2 ⟨A4, c4, rfl, o4, hb⟩
      exact ⟨_, rfl, hb, ⟨(A4, c4), rfl, Per.own o4 XN⟩⟩
    · intro vs X wq K
      have LE := K.1
      have XN := K.2.1
      have SQ := Nat.le_trans LW.size (Nat.le_trans E.size LE.size)
      obtain ⟨_, e0, k0⟩ := K.dep 0 rfl rfl rfl
      refine ow_set 29 (.agg #[.bool (decide (z < 0)), .slice A (limbs z).length c]) rfl e0 ?_
      obtain ⟨⟨A4, c4⟩, e2, k2⟩ := K.dep 2 rfl rfl rfl
      refine ow_set 31 (.agg #[.bool (decide (((s : Nat) : Int) < 0)), .slice A4 (limbs ((s : Nat) : Int)).length c4]) rfl e2 ?_
      refine ow_enter en38 rfl ((hpow s (by omega) A4 c4 _ (HF.on (E.drew.trans (LE.mono OY))).here.1.1.1.2 k2.here).mono ?_)
      rintro e w2 ⟨A5, c5, rfl, o5, hb⟩
      exact ⟨_, rfl, hb, ⟨(A5, c5), rfl, Per.own o5 XN⟩⟩
    · intro vs X wq K
      have LE := K.1
      have XN := K.2.1
      have SQ := Nat.le_trans LW.size (Nat.le_trans E.size LE.size)
      obtain ⟨⟨A5, c5⟩, e3, k3⟩ := K.dep 3 rfl rfl rfl
      refine ow_set 32 (.tuple #[.agg #[.bool (decide (outV true (z ^ s) < 0)), .slice A5 (limbs (outV true (z ^ s))).length c5], .int .i64 (outE true (z ^ s))]) rfl e3 ?_
      exact ow_move rfl ⟨Below.refl _ _, ⟨⟨A5, c5⟩, rfl, (k3.map (fun _ h => h))⟩⟩
    · intro vs X wq K
      have LE := K.1
      have XN := K.2.1
      have SQ := Nat.le_trans LW.size (Nat.le_trans E.size LE.size)
      obtain ⟨⟨A5, c5⟩, e4, k4⟩ := K.dep 4 rfl rfl rfl
      refine ow_set 28 (.tuple #[.agg #[.bool (decide (outV true (z ^ s) < 0)), .slice A5 (limbs (outV true (z ^ s))).length c5], .int .i64 (outE true (z ^ s))]) rfl e4 ?_
      exact ow_extract rfl rfl ⟨Below.refl _ _, ⟨⟨A5, c5⟩, rfl, (k4.map (fun _ h => h))⟩⟩
    · intro vs X wq K
      have LE := K.1
      have XN := K.2.1
      have SQ := Nat.le_trans LW.size (Nat.le_trans E.size LE.size)
      obtain ⟨⟨A5, c5⟩, e4, k4⟩ := K.dep 4 rfl rfl rfl
      refine ow_set 28 (.tuple #[.agg #[.bool (decide (outV true (z ^ s) < 0)), .slice A5 (limbs (outV true (z ^ s))).length c5], .int .i64 (outE true (z ^ s))]) rfl e4 ?_
      exact ow_extract rfl rfl ⟨Below.refl _ _, Left.of rfl⟩
    · exact ⟨_, _, _, _, _, rfl, zr24, rfl⟩
    · refine ⟨_, _, _, _, _, rfl, rfl, rfl, sz24, fun vs X wq K => ?_⟩
      obtain ⟨⟨A5, c5⟩, e0, _⟩ := K.dep 5 rfl rfl rfl
      exact ⟨vs 5, rfl, by rw [e0]; rfl, by rw [e0]; rfl⟩
    · intro vs X wq K
      have LE := K.1
      have XN := K.2.1
      have SQ := Nat.le_trans LW.size (Nat.le_trans E.size LE.size)
      obtain ⟨_, e6, k6⟩ := K.dep 6 rfl rfl rfl
      refine ow_set 34 (.int .i64 (outE true (z ^ s))) rfl e6 ?_
      exact ow_assign rfl ⟨Below.refl _ _, Left.of rfl⟩
  intro vs w6 LE AO AL AF AA
  replace E := E.drew.trans (LE.mono OY)
  obtain ⟨⟨A5, c5⟩, e5, k5⟩ := AL.2.2.2.2.2.1
  obtain ⟨_, e9, k9⟩ := AL.2.2.2.2.2.2.2.2.2.1
  replace HF := HF.on E
  replace LW := LW.step E XLW
  replace E := Ext.refl (No) w6
  replace HF := HF.and ((k5.map (fun _ h => h) : Per (No) w6 (fun b => Nums b A5 (limbs (outV true (z ^ s))))))
  obtain ⟨gb7, v0, y0, qb7, Gb7, Bb7, ey, ev0⟩ := AF.1
  cases ey
  obtain rfl : vs 5 = v0 := Option.some.inj ev0
  rw [e5] at Bb7
  replace HF := HF.on E
  replace LW := LW.step E XLW
  replace E := Ext.refl (No) w6
  replace HF := HF.and ((Per.blkN Bb7 NotIn.nil : Per (No) w6 (fun b => Blk b gb7 24 #[.bool (decide (outV true (z ^ s) < 0)), .slice A5 (limbs (outV true (z ^ s))).length c5])))
  clear Bb7
  have e7 := qb7
  refine ew_sub (τ := [(1, _), (2, _), (3, _), (6, _), (7, _), (8, _), (9, .pointer (some ⟨gb7, 0, none⟩)), (10, .int .i64 (outE true (z ^ s)))]) ⟨rfl, rfl, rfl, rfl, rfl, rfl, congrArg some e7, congrArg some e9, trivial⟩ ?_
  clear AL AF AA LE AO OY e5 e9 e7 k5 k9
  refine ew_next ?_
  refine cw_seq ?_
  have OY : ∀ k, (Mut (outM [])) k → k < (World.drew w6).heap.size → (No) k := fun k h _ => (Mut.none_) k h
  refine cw_drawn (No) Mut.none_ [⟨9, 10, 24, #[.bool false, .slice none 0 0]⟩] [] (fxAt [Fx.of (.agg #[.bool (decide (z < 0)), .slice A (limbs z).length c]),
      Fx.of (.int .i64 ((r : Nat) : Int)),
      Fx.of (.int .i64 ((s : Nat) : Int)),
      Fx.of (.int .i64 ((r + s : Nat) : Int)),
      ⟨(Option Addr × Nat), fun (A6, c6) => .agg #[.bool (decide (((r + s : Nat) : Int) < 0)), .slice A6 (limbs ((r + s : Nat) : Int)).length c6], fun (A6, c6) b => (Nums b A6 (limbs ((r + s : Nat) : Int)))⟩,
      ⟨(Option Addr × Nat), fun (A7, c7) => .tuple #[.agg #[.bool (decide (outV true (z ^ (r + s)) < 0)), .slice A7 (limbs (outV true (z ^ (r + s)))).length c7], .int .i64 (outE true (z ^ (r + s)))], fun (A7, c7) b => (Nums b A7 (limbs (outV true (z ^ (r + s)))))⟩,
      ⟨(Option Addr × Nat), fun (A7, c7) => .tuple #[.agg #[.bool (decide (outV true (z ^ (r + s)) < 0)), .slice A7 (limbs (outV true (z ^ (r + s)))).length c7], .int .i64 (outE true (z ^ (r + s)))], fun (A7, c7) b => (Nums b A7 (limbs (outV true (z ^ (r + s)))))⟩,
      ⟨(Option Addr × Nat), fun (A7, c7) => .agg #[.bool (decide (outV true (z ^ (r + s)) < 0)), .slice A7 (limbs (outV true (z ^ (r + s)))).length c7], fun (A7, c7) b => (Nums b A7 (limbs (outV true (z ^ (r + s)))))⟩,
      Fx.of (.int .i64 (outE true (z ^ (r + s)))),
      Fx.of undef,
      Fx.of undef,
      Fx.of (.int .i64 (outE true (z ^ (r + s))))]) mixed rfl trivial (fun _ h => by cases h) ?_ ?_
  · refine ⟨?_, ?_, ?_, ?_, ?_, ?_, ?_, ?_, ?_, ?_, ?_, ?_, trivial⟩
    · intro vs X wq K
      have LE := K.1
      have XN := K.2.1
      have SQ := Nat.le_trans LW.size (Nat.le_trans E.size LE.size)
      exact ow_loadB Tryd.underlying24 rfl sz24 rfl (HF.on (E.drew.trans (LE.mono OY))).here.1.1.1.1.2 rfl ⟨Below.refl _ _, Left.of rfl⟩
    · intro vs X wq K
      have LE := K.1
      have XN := K.2.1
      have SQ := Nat.le_trans LW.size (Nat.le_trans E.size LE.size)
      exact ow_move rfl ⟨Below.refl _ _, Left.of rfl⟩
    · intro vs X wq K
      have LE := K.1
      have XN := K.2.1
      have SQ := Nat.le_trans LW.size (Nat.le_trans E.size LE.size)
      exact ow_move rfl ⟨Below.refl _ _, Left.of rfl⟩
    · intro vs X wq K
      have LE := K.1
      have XN := K.2.1
      have SQ := Nat.le_trans LW.size (Nat.le_trans E.size LE.size)
      obtain ⟨_, e1, k1⟩ := K.dep 1 rfl rfl rfl
      refine ow_set 37 (.int .i64 ((r : Nat) : Int)) rfl e1 ?_
      obtain ⟨_, e2, k2⟩ := K.dep 2 rfl rfl rfl
      refine ow_set 38 (.int .i64 ((s : Nat) : Int)) rfl e2 ?_
      exact ow_add rfl rfl (show IntKind.i64.wrap ((r : Int) + (s : Int)) = ((r + s : Nat) : Int) by rw [IntKind.wrap_i64]; omega) ⟨Below.refl _ _, Left.of rfl⟩
    · intro vs X wq K
      have LE := K.1
      have XN := K.2.1
      have SQ := Nat.le_trans LW.size (Nat.le_trans E.size LE.size)
      obtain ⟨_, e3, k3⟩ := K.dep 3 rfl rfl rfl
      refine ow_set 39 (.int .i64 ((r + s : Nat) : Int)) rfl e3 ?_
      refine ow_enter en22 rfl ((of_any ((r + s : Nat) : Int) _ (by omega) (by omega)).mono ?_)
      rintro e w2 ⟨A6, c6, rfl, o6, hb⟩
      exact ⟨_, rfl, hb, ⟨(A6, c6), rfl, Per.own o6 XN⟩⟩
    · intro vs X wq K
      have LE := K.1
      have XN := K.2.1
      have SQ := Nat.le_trans LW.size (Nat.le_trans E.size LE.size)
      obtain ⟨_, e0, k0⟩ := K.dep 0 rfl rfl rfl
      refine ow_set 36 (.agg #[.bool (decide (z < 0)), .slice A (limbs z).length c]) rfl e0 ?_
      obtain ⟨⟨A6, c6⟩, e4, k4⟩ := K.dep 4 rfl rfl rfl
      refine ow_set 40 (.agg #[.bool (decide (((r + s : Nat) : Int) < 0)), .slice A6 (limbs ((r + s : Nat) : Int)).length c6]) rfl e4 ?_
      refine ow_enter en38 rfl ((hpow (r + s) (by omega) A6 c6 _ (HF.on (E.drew.trans (LE.mono OY))).here.1.1.1.1.1.2 k4.here).mono ?_)
      rintro e w2 ⟨A7, c7, rfl, o7, hb⟩
      exact ⟨_, rfl, hb, ⟨(A7, c7), rfl, Per.own o7 XN⟩⟩
    · intro vs X wq K
      have LE := K.1
      have XN := K.2.1
      have SQ := Nat.le_trans LW.size (Nat.le_trans E.size LE.size)
      obtain ⟨⟨A7, c7⟩, e5, k5⟩ := K.dep 5 rfl rfl rfl
      refine ow_set 41 (.tuple #[.agg #[.bool (decide (outV true (z ^ (r + s)) < 0)), .slice A7 (limbs (outV true (z ^ (r + s)))).length c7], .int .i64 (outE true (z ^ (r + s)))]) rfl e5 ?_
      exact ow_move rfl ⟨Below.refl _ _, ⟨⟨A7, c7⟩, rfl, (k5.map (fun _ h => h))⟩⟩
    · intro vs X wq K
      have LE := K.1
      have XN := K.2.1
      have SQ := Nat.le_trans LW.size (Nat.le_trans E.size LE.size)
      obtain ⟨⟨A7, c7⟩, e6, k6⟩ := K.dep 6 rfl rfl rfl
      refine ow_set 35 (.tuple #[.agg #[.bool (decide (outV true (z ^ (r + s)) < 0)), .slice A7 (limbs (outV true (z ^ (r + s)))).length c7], .int .i64 (outE true (z ^ (r + s)))]) rfl e6 ?_
      exact ow_extract rfl rfl ⟨Below.refl _ _, ⟨⟨A7, c7⟩, rfl, (k6.map (fun _ h => h))⟩⟩
    · intro vs X wq K
      have LE := K.1
      have XN := K.2.1
      have SQ := Nat.le_trans LW.size (Nat.le_trans E.size LE.size)
      obtain ⟨⟨A7, c7⟩, e6, k6⟩ := K.dep 6 rfl rfl rfl
      refine ow_set 35 (.tuple #[.agg #[.bool (decide (outV true (z ^ (r + s)) < 0)), .slice A7 (limbs (outV true (z ^ (r + s)))).length c7], .int .i64 (outE true (z ^ (r + s)))]) rfl e6 ?_
      exact ow_extract rfl rfl ⟨Below.refl _ _, Left.of rfl⟩
    · exact ⟨_, _, _, _, _, rfl, zr24, rfl⟩
    · refine ⟨_, _, _, _, _, rfl, rfl, rfl, sz24, fun vs X wq K => ?_⟩
      obtain ⟨⟨A7, c7⟩, e0, _⟩ := K.dep 7 rfl rfl rfl
      exact ⟨vs 7, rfl, by rw [e0]; rfl, by rw [e0]; rfl⟩
    · intro vs X wq K
      have LE := K.1
      have XN := K.2.1
      have SQ := Nat.le_trans LW.size (Nat.le_trans E.size LE.size)
      obtain ⟨_, e8, k8⟩ := K.dep 8 rfl rfl rfl
      refine ow_set 43 (.int .i64 (outE true (z ^ (r + s)))) rfl e8 ?_
      exact ow_assign rfl ⟨Below.refl _ _, Left.of rfl⟩
  intro vs w8 LE AO AL AF AA
  replace E := E.drew.trans (LE.mono OY)
  obtain ⟨⟨A7, c7⟩, e7, k7⟩ := AL.2.2.2.2.2.2.2.1
  obtain ⟨_, e11, k11⟩ := AL.2.2.2.2.2.2.2.2.2.2.2.1
  replace HF := HF.on E
  replace LW := LW.step E XLW
  replace E := Ext.refl (No) w8
  replace HF := HF.and ((k7.map (fun _ h => h) : Per (No) w8 (fun b => Nums b A7 (limbs (outV true (z ^ (r + s)))))))
  obtain ⟨gb9, v0, y0, qb9, Gb9, Bb9, ey, ev0⟩ := AF.1
  cases ey
  obtain rfl : vs 7 = v0 := Option.some.inj ev0
  rw [e7] at Bb9
  replace HF := HF.on E
  replace LW := LW.step E XLW
  replace E := Ext.refl (No) w8
  replace HF := HF.and ((Per.blkN Bb9 NotIn.nil : Per (No) w8 (fun b => Blk b gb9 24 #[.bool (decide (outV true (z ^ (r + s)) < 0)), .slice A7 (limbs (outV true (z ^ (r + s)))).length c7])))
  clear Bb9
  have e9 := qb9
  refine ew_sub (τ := [(3, _), (6, _), (7, _), (8, _), (9, _), (10, _), (11, .pointer (some ⟨gb9, 0, none⟩)), (12, .int .i64 (outE true (z ^ (r + s))))]) ⟨rfl, rfl, rfl, rfl, rfl, rfl, congrArg some e9, congrArg some e11, trivial⟩ ?_
  clear AL AF AA LE AO OY e7 e11 e9 k7 k11
  refine ew_next ?_
  refine cw_seq ?_
  refine cw_seq ?_
  refine cw_region ?_
  refine rs_op rfl (ow_loadB Tryd.underlying24 rfl sz24 rfl (HF.on E).here.1.1.1.1.1.1.2 rfl ?_)
  refine rs_op rfl (ow_enter en20 rfl ((hrgood _ (HF.on E).here.1.1.1.1.1.1.1.2).mono ?_))
  rintro e w10 ⟨rfl, hb⟩
  refine ⟨_, rfl, ?_⟩
  have XC : ∀ k, (No) k → k < w8.heap.size := Mut.none_
  have SC := Nat.le_trans LW.size E.size
  have Ec := Ext.of_below hb No
  replace E := E.trans Ec.no
  clear hb Ec
  refine rs_op rfl (ow_not rfl ?_)
  refine rs_nil ?_
  refine ew_next ?_
  refine cw_else rfl ?_
  refine cw_skip ?_
  refine ew_next ?_
  refine cw_seq ?_
  refine cw_seq ?_
  refine cw_region ?_
  refine rs_op rfl (ow_move rfl ?_)
  refine rs_op rfl (ow_neq rfl rfl ?_)
  refine rs_op rfl (ow_move rfl ?_)
  refine rs_split 59 rfl (fun q => ?_) (fun q => ?_)
  · have _way := True.intro
    have h7 := exps_fit (s := s) (Or.inl (outE_nofit (by simpa using q)))
    refine rs_op rfl (ow_off rfl ?_)
    refine rs_op rfl (ow_off rfl ?_)
    refine rs_op rfl (ow_pickT rfl rfl ?_)
    refine rs_nil ?_
    refine ew_next ?_
    refine cw_then rfl ?_
    refine cw_seq ?_
    refine cw_region ?_
    refine rs_op rfl (ow_move rfl ?_)
    refine rs_op rfl (ow_eql rfl rfl ?_)
    refine rs_op rfl (ow_assign rfl ?_)
    refine rs_nil ?_
    refine ew_next ?_
    refine cw_ret ?_
    refine ew_then_ret ?_
    refine ew_ret (rs := [.tmp 6]) (vs := [_]) rfl ⟨rfl, trivial⟩ ?_
    exact ⟨by rw [h7]; rfl, (LW.step E XLW).toBelow⟩
  · have _way := True.intro
    refine rs_op rfl (ow_on rfl (ow_move rfl ?_))
    refine rs_op rfl (ow_on rfl (ow_neq rfl rfl ?_))
    refine rs_op rfl (ow_pickF rfl rfl ?_)
    refine rs_nil ?_
    refine ew_next ?_
    refine cw_cond rfl (fun q2 => ?_) (fun q2 => ?_)
    · have _way := True.intro
      have h7 := exps_fit (r := r) (Or.inr (outE_nofit (by simpa using q2)))
      refine cw_seq ?_
      refine cw_region ?_
      refine rs_op rfl (ow_move rfl ?_)
      refine rs_op rfl (ow_eql rfl rfl ?_)
      refine rs_op rfl (ow_assign rfl ?_)
      refine rs_nil ?_
      refine ew_next ?_
      refine cw_ret ?_
      refine ew_then_ret ?_
      refine ew_ret (rs := [.tmp 6]) (vs := [_]) rfl ⟨rfl, trivial⟩ ?_
      exact ⟨by rw [h7]; rfl, (LW.step E XLW).toBelow⟩
    · have _way := True.intro
      have f1 : (z ^ r).natAbs < B18 ^ 30 := outE_zero (by simpa using q)
      have f2 : (z ^ s).natAbs < B18 ^ 30 := outE_zero (by simpa using q2)
      have hmul : ∀ w, Nums w A3 (limbs (outV true (z ^ r))) → Nums w A5 (limbs (outV true (z ^ s))) → Calls Tryd.prog 36 #[.agg #[.bool (decide (outV true (z ^ r) < 0)), .slice A3 (limbs (outV true (z ^ r))).length c3], .agg #[.bool (decide (outV true (z ^ s) < 0)), .slice A5 (limbs (outV true (z ^ s))).length c5]] w (RetBigErr w (outV true (z ^ (r + s))) (outE true (z ^ (r + s)))) := fun w h1 h2 => by
        have h := mulI A3 A5 c3 c5 w outV_lt outV_lt h1 h2
        rwa [outV_ok f1, outV_ok f2, ← Int.pow_add, ← outV_ok f1, ← outV_ok f2] at h
      refine cw_skip ?_
      refine ew_next ?_
      refine cw_seq ?_
      refine cw_region ?_
      refine rs_op rfl (ow_loadB Tryd.underlying24 rfl sz24 rfl (HF.on E).here.1.1.1.1.2 rfl ?_)
      refine rs_op rfl (ow_loadB Tryd.underlying24 rfl sz24 rfl (HF.on E).here.1.1.2 rfl ?_)
      refine rs_op rfl (ow_enter en36 rfl ((hmul _ (HF.on E).here.1.1.1.1.1.2 (HF.on E).here.1.1.1.2).mono ?_))
      rintro e w11 ⟨A8, c8, rfl, o8, hb⟩
      refine ⟨_, rfl, ?_⟩
      have XC : ∀ k, (No) k → k < w10.heap.size := Mut.none_
      have SC := Nat.le_trans LW.size E.size
      have Ec := Ext.of_below hb No
      replace E := E.trans Ec.no
      clear hb Ec
      replace HF := HF.on E
      replace LW := LW.step E XLW
      replace E := Ext.refl (No) w11
      replace HF := HF.and (Per.nums0 o8.nums)
      refine rs_op rfl (ow_move rfl ?_)
      refine rs_op rfl (ow_extract rfl rfl ?_)
      refine rs_op rfl (ow_extract rfl rfl ?_)
      refine rs_op rfl (ow_allocB zr24 ?_)
      intro gb12 w13 Bb12 Eb12 Gb12
      have Gb12 : _ ≤ gb12 := Nat.le_trans E.size Gb12
      have GLb12 := Nat.le_trans LW.size Gb12
      replace E := E.trans Eb12.no
      clear Eb12
      replace HF := HF.cons (some_ge Gb12)
      replace E := E.cons (some gb12)
      replace XLW := Mut.grow XLW (fun k e => Or.inr (Nat.le_trans LW.size ((some_ge Gb12) k e)))
      refine rs_op0 (ow_storeM sz24 rfl rfl Bb12 rfl rfl (Nat.le_of_ble_eq_true rfl) ?_)
      intro w14 Bx Eb12
      replace Bb12 := Bx
      clear Bx
      replace E := E.step1 Eb12 Mut.head
      clear Eb12
      replace HF := HF.on E
      replace LW := LW.step E XLW
      have SB : ∀ k, No k → Mut [(some gb12)] k := (Mut.skip Mut.nil_)
      replace HF := HF.less SB
      replace XLW := fun k h => XLW k (SB k h)
      clear SB
      replace E := Ext.refl (No) w14
      replace HF := HF.and (Per.blkN Bb12 NotIn.nil)
      clear Bb12
      refine rs_op rfl (ow_assign rfl ?_)
      refine rs_nil ?_
      refine ew_next ?_
      refine cw_seq ?_
      refine cw_region ?_
      refine rs_op rfl (ow_move rfl ?_)
      refine rs_op rfl (ow_move rfl ?_)
      refine rs_op rfl (ow_eql rfl rfl ?_)
      refine rs_op rfl (ow_move rfl ?_)
      refine rs_set 74 (.bool true) rfl ((by simp : (.bool ((outE true (z ^ (r + s))) == (outE true (z ^ (r + s)))) : Value) = _)) ?_
      refine rs_op rfl (ow_on rfl (ow_loadB Tryd.underlying24 rfl sz24 rfl (HF.on E).here.2 rfl ?_))
      refine rs_op rfl (ow_on rfl (ow_loadB Tryd.underlying24 rfl sz24 rfl (HF.on E).here.1.1.2 rfl ?_))
      refine rs_op rfl (ow_on rfl (ow_enter en21 rfl ((sameI A8 A7 c8 c7 _ outV_lt outV_lt (HF.on E).here.1.2 (HF.on E).here.1.1.1.2 rfl).mono ?_)))
      rintro e w15 ⟨rfl, hb⟩
      refine ⟨_, rfl, ?_⟩
      have XC : ∀ k, (No) k → k < w14.heap.size := Mut.none_
      have SC := Nat.le_trans LW.size E.size
      have Ec := Ext.of_below hb No
      replace E := E.trans Ec.no
      clear hb Ec
      refine rs_op rfl (ow_pickT rfl rfl ?_)
      refine rs_op rfl (ow_assign rfl ?_)
      refine rs_nil ?_
      refine ew_next ?_
      refine cw_ret ?_
      refine ew_ret (rs := [.tmp 6]) (vs := [_]) rfl ⟨rfl, trivial⟩ ?_
      exact ⟨rfl, (LW.step E XLW).toBelow⟩
end
/-- WholeExps answers true at every number and two exponents. -/
theorem exps_law (n1 : Bool) (A : Option Addr) (c : Nat) (xs : List Nat) (i k : Int) (w : World) (hx : Nums w A xs) (hl : xs.length ≤ 9223372036854775807) (_ : -9223372036854775808 ≤ i) (_ : i ≤ 9223372036854775807) (_ : -9223372036854775808 ≤ k) (_ : k ≤ 9223372036854775807) :
    Calls Tryd.prog 8 #[.agg #[.bool n1, .slice A xs.length c], .int .i64 i, .int .i64 k] w fun e w' => e = .returned (.bool true) ∧ Below w.heap.size w w' := by
  cases hg : goodB n1 xs
  · exact exps_bad n1 A c xs i k w hx hl hg
  · obtain ⟨z, rfl, rfl, hz⟩ := good_is hg
    exact exps_good z i k A c w hz hx
end Go.Proofs.YteggjfmcpodepaaDoor

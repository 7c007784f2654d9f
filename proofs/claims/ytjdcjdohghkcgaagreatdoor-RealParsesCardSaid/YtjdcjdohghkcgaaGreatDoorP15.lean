/- The walk of strconv's floatBits: the slow way's float. -/
import Derived.Test.YtjdcjdohghkcgaaGreatDoorP14
namespace Go.Proofs.YtjdcjdohghkcgaaGreatDoor
open Go.RowKit
set_option maxRecDepth 100000
attribute [local irreducible] OW RS
theorem powtab_at {j : Nat} (h : j < 9) : (pows.map (fun z => Value.int .i64 z))[j]? = some (.int .i64 ((pt j : Nat) : Int)) := by
 have key : ∀ i : Fin 9, pows[i.val]? = some ((pt i.val : Nat) : Int) := by decide +kernel
 rw [List.getElem?_map, key ⟨j, h⟩]; rfl
theorem pt_far {j : Nat} (h : 9 ≤ j) : pt j = 27 := by unfold pt; rw [if_pos h]
theorem and_i2047 {k : Nat} (h : k ≤ 2047) : IntKind.i64.wrap (BitVec.ofInt IntKind.i64.bits ((k : Nat) : Int) &&& BitVec.ofInt IntKind.i64.bits 2047).toNat = ((k : Nat) : Int) := by
 have key : ∀ v : Fin 2048, IntKind.i64.wrap (BitVec.ofInt IntKind.i64.bits ((v.val : Nat) : Int) &&& BitVec.ofInt IntKind.i64.bits 2047).toNat = ((v.val : Nat) : Int) := by decide +kernel
 exact key ⟨k, by omega⟩
theorem shl_52 {k : Nat} (h : k ≤ 2047) : IntKind.u64.wrap (((k : Nat) : Int) * 2 ^ (min ((52 : Int)).toNat IntKind.u64.bits)) = ((k * 4503599627370496 : Nat) : Int) := by
 have e := shl_nat k 52 (by decide)
 have e2 : k * 2 ^ 52 % 18446744073709551616 = k * 4503599627370496 := Nat.mod_eq_of_lt (by show k * 4503599627370496 < 18446744073709551616; omega)
 rw [e2] at e
 exact e
theorem and_lo {m : Nat} (h : m < 18446744073709551616) : IntKind.u64.wrap (BitVec.ofInt IntKind.u64.bits ((m : Nat) : Int) &&& BitVec.ofInt IntKind.u64.bits 4503599627370495).toNat = ((m &&& 4503599627370495 : Nat) : Int) := and_bits (n := 4503599627370495) h (by decide)
theorem and_hi {m : Nat} (h : m < 18446744073709551616) : IntKind.u64.wrap (BitVec.ofInt IntKind.u64.bits ((m : Nat) : Int) &&& BitVec.ofInt IntKind.u64.bits 4503599627370496).toNat = ((m &&& 4503599627370496 : Nat) : Int) := and_bits (n := 4503599627370496) h (by decide)
theorem fbR_neg {t : Dec} (ht : DecI t) (h0 : 0 < t.nd) (hd : -330 ≤ t.dp ∧ t.dp ≤ 310) : (fbR t).t.neg = t.neg := by
 have h := until_ind (done := fbDoneR) (step := fbStepR) (fun s => FbRI s ∧ s.t.neg = t.neg) (fun s => msR s.t) (fun s h hd => ?_) ⟨fbR_start ht h0 hd, rfl⟩
 · exact h.1.2
 · obtain ⟨h1, h2⟩ := fbR_keeps h.1 hd
   obtain ⟨_, _, _, _, h5⟩ := rshift_keeps (k := pt s.t.dp.toNat) h.1.dec (pt_le _).1 h.1.pos
   exact ⟨⟨h1, h5.trans h.2⟩, h2⟩
theorem fbL_neg {t : Dec} (ht : DecI t) (h0 : 0 < t.nd) (hd : -330 ≤ t.dp ∧ t.dp ≤ 310) : (fbL t).t.neg = t.neg := by
 obtain ⟨h1, h2⟩ := fbR_ends ht h0 hd
 have h := until_ind (done := fbDoneL) (step := fbStepL) (fun s => FbLI s ∧ s.t.neg = t.neg) (fun s => msL s.t) (fun s h hd => ?_) ⟨fbL_start h1 h2, fbR_neg ht h0 hd⟩
 · exact h.1.2
 · obtain ⟨h3, h4⟩ := fbL_keeps h.1 hd
   obtain ⟨_, _, _, _, _, h5⟩ := lshift_keeps (k := pt (-s.t.dp).toNat) h.1.dec h.1.pos (pt_shl _)
   exact ⟨⟨h3, h5.trans h.2⟩, h4⟩
theorem shrD_neg {t : Dec} {k : Nat} (h : ShI ⟨t, k⟩) : (shrD t k).neg = t.neg := by
 have h1 := until_ind (done := shDone) (step := shStep) (fun s => ShI s ∧ s.t.neg = t.neg) (fun s => s.k) (fun s h hd => ?_) ⟨h, rfl⟩
 · have h2 : ShI (shA t k) ∧ (shA t k).t.neg = t.neg := h1.1
   obtain ⟨_, _, _, _, h5⟩ := rshift_keeps (k := (shA t k).k) h2.1.dec h2.1.k1.1 h2.1.pos
   exact h5.trans h2.2
 · obtain ⟨h3, h4⟩ := sh_keeps h.1 hd
   obtain ⟨_, _, _, _, h5⟩ := rshift_keeps (k := 60) h.1.dec (by decide) h.1.pos
   exact ⟨⟨h3, h5.trans h.2⟩, h4⟩
def slowC (m k : Nat) : Nat := (m &&& 4503599627370495) ||| k * 4503599627370496
theorem slowC_or {m k : Nat} (hk : k ≤ 2047) : IntKind.u64.wrap (BitVec.ofInt IntKind.u64.bits ((m &&& 4503599627370495 : Nat) : Int) ||| BitVec.ofInt IntKind.u64.bits ((k * 4503599627370496 : Nat) : Int)).toNat = ((slowC m k : Nat) : Int) :=
 or_bits (Nat.lt_of_le_of_lt Nat.and_le_right (by decide)) (by omega)
theorem slowC_lt {m k : Nat} (hk : k ≤ 2047) : slowC m k < 18446744073709551616 :=
 or_lt (k := 64) (Nat.lt_of_le_of_lt Nat.and_le_right (by decide)) (by show k * 4503599627370496 < 18446744073709551616; omega)
theorem slowC_neg {m k : Nat} (hk : k ≤ 2047) : IntKind.u64.wrap (BitVec.ofInt IntKind.u64.bits ((slowC m k : Nat) : Int) ||| BitVec.ofInt IntKind.u64.bits 9223372036854775808).toNat = ((slowC m k ||| 9223372036854775808 : Nat) : Int) :=
 or_bits (n := 9223372036854775808) (slowC_lt hk) (by decide)
section
variable (w : World) {bp op cp bf of cf bl ol cl : Nat}
set_option maxHeartbeats 2000000 in
theorem bits_any (ga : Nat) (t : Dec) (ht : DecI t) (hdp0 : -20000000 ≤ t.dp ∧ t.dp ≤ 20000000) (hB : Blk w ga 193 (decC t)) (hT : Tabs bp op cp bf of cf bl ol cl w) (hg : TabsB bp bf bl ga) :
 Calls Tryz.prog 180 #[.pointer (some ⟨ga, 0, none⟩), .pointer (some ⟨8, 0, none⟩)] w fun e w' => e = .returned (.tuple #[.int .u64 ((slowF t : Nat) : Int), .bool (fbAll t).2.2]) ∧ (∃ t', Blk w' ga 193 (decC t')) ∧ Ext (Mut [some ga]) w w' := by
 have hl := ht.len
 have hnd := ht.hn
 refine calls_cw Tryz.func180 rfl Tryz.ntmps180 rfl ?_
 have Ba := hB
 have HF : Per (Mut [(some ga)]) w (fun _ => True) := Per.true_
 have LW := Ext.refl (Mut [(some ga)]) w
 have XLW : ∀ q9, (Mut [(some ga)]) q9 → (Mut [(some ga)]) q9 ∨ w.heap.size ≤ q9 := fun _ h => Or.inl h
 have E := Ext.refl (Mut [(some ga)]) w
 replace HF := HF.on E
 replace LW := LW.step E XLW
 replace E := Ext.refl (Mut [(some ga)]) w
 replace HF := HF.and (Per.tabsB hT hg (fun q h => h.elim (fun e => Nat.le_of_eq (Option.some.inj e).symm) (fun e => e.elim)))
 replace HF := HF.on E
 replace LW := LW.step E XLW
 replace E := Ext.refl (Mut [(some ga)]) w
 replace HF := HF.and (Per.cellB (HF.on E).here.2.man hg.info (fun q h => h.elim (fun e => Nat.le_of_eq (Option.some.inj e).symm) (fun e => e.elim)))
 replace HF := HF.on E
 replace LW := LW.step E XLW
 replace E := Ext.refl (Mut [(some ga)]) w
 replace HF := HF.and (Per.cellB (HF.on E).here.1.2.exp hg.info (fun q h => h.elim (fun e => Nat.le_of_eq (Option.some.inj e).symm) (fun e => e.elim)))
 replace HF := HF.on E
 replace LW := LW.step E XLW
 replace E := Ext.refl (Mut [(some ga)]) w
 replace HF := HF.and (Per.cellB (HF.on E).here.1.1.2.bias hg.info (fun q h => h.elim (fun e => Nat.le_of_eq (Option.some.inj e).symm) (fun e => e.elim)))
 refine cw_seq ?_
 refine cw_region ?_
 refine rs_op rfl (ow_assign rfl ?_)
 refine rs_op rfl (ow_assign rfl ?_)
 refine rs_nil ?_
 refine ew_next ?_
 refine cw_scope 4 ?_
 refine cw_seq ?_
 refine cw_region ?_
 refine rs_op rfl (ow_assign rfl ?_)
 refine rs_nil ?_
 refine ew_next ?_
 refine cw_seq ?_
 refine cw_region ?_
 refine rs_op rfl (ow_assign rfl ?_)
 refine rs_nil ?_
 refine ew_next ?_
 refine cw_seq ?_
 refine cw_seq ?_
 refine cw_region ?_
 refine rs_op rfl (ow_move rfl ?_)
 refine rs_op rfl (ow_nilCheck rfl ?_)
 refine rs_op rfl (ow_fieldAddr Tryz.underlying193 rfl sz3 (by decide) rfl ?_)
 refine rs_op rfl (ow_loadF Tryz.underlying3 rfl rfl Ba (ndAt hl t.nd rfl) ?_)
 refine rs_op rfl (ow_eql rfl rfl ?_)
 refine rs_nil ?_
 refine ew_next ?_
 refine cw_cond rfl (fun h1 => ?_) (fun h1 => ?_)
 ·
  have h1 : t.nd = 0 := by have h1 := eq_of_beq h1; omega
  have hfb : fbAll t = (0, 0, false) := by unfold fbAll; rw [if_pos h1]
  refine cw_seq ?_
  refine cw_region ?_
  refine rs_op rfl (ow_assign rfl ?_)
  refine rs_nil ?_
  refine ew_next ?_
  refine cw_seq ?_
  refine cw_region ?_
  refine rs_op rfl (ow_move rfl ?_)
  refine rs_op rfl (ow_nilCheck rfl ?_)
  refine rs_op rfl (ow_fieldAddr Tryz.underlying206 rfl sz3 (by decide) rfl ?_)
  refine rs_op rfl (ow_load1 Tryz.underlying3 rfl rfl (HF.on E).here.2 ?_)
  refine rs_op rfl (ow_assign rfl ?_)
  refine rs_nil ?_
  refine ew_next ?_
  refine cw_goto ?_
  refine ew_then_goto ?_
  refine ew_scope_goto rfl ?_
  refine cw_seq ?_
  refine cw_skip ?_
  refine ew_next ?_
  refine cw_seq ?_
  refine cw_region ?_
  refine rs_op rfl (ow_move rfl ?_)
  refine rs_op rfl (ow_move rfl ?_)
  refine rs_op rfl (ow_nilCheck rfl ?_)
  refine rs_op rfl (ow_fieldAddr Tryz.underlying206 rfl sz144 (by decide) rfl ?_)
  refine rs_op rfl (ow_load1 Tryz.underlying144 rfl rfl (HF.on E).here.1.1.2 ?_)
  refine rs_op rfl (ow_shl (z := 4503599627370496) rfl rfl (by decide) (by kernel_rfl) ?_)
  refine rs_op rfl (ow_sub (z := 4503599627370495) rfl rfl (by kernel_rfl) ?_)
  refine rs_op rfl (ow_and (z := 0) rfl rfl (by kernel_rfl) ?_)
  refine rs_op rfl (ow_assign rfl ?_)
  refine rs_nil ?_
  refine ew_next ?_
  refine cw_seq ?_
  have OY : ∀ q9, (Mut (outM [])) q9 → q9 < (World.drew w).heap.size → (Mut [(some ga)]) q9 := fun k h _ => (Mut.none_) k h
  refine cw_drawn (Mut [(some ga)]) (Mut.grow Mut.none_ (some_lt Ba.lt)) [] [] (fxAt [Fx.of (.int .u64 0),
   Fx.of (.int .i64 (-1023)),
   Fx.of (.pointer (some ⟨8, 0, none⟩)),
   Fx.of (.pointer (some ⟨8, 0, none⟩)),
   Fx.of (.pointer (some ⟨8, 2, none⟩)),
   Fx.of (.int .i64 (-1023)),
   Fx.of (.int .i64 0),
   Fx.of (.pointer (some ⟨8, 0, none⟩)),
   Fx.of (.pointer (some ⟨8, 0, none⟩)),
   Fx.of (.pointer (some ⟨8, 1, none⟩)),
   Fx.of (.int .u64 11),
   Fx.of (.int .i64 2048),
   Fx.of (.int .i64 2047),
   Fx.of (.int .i64 0),
   Fx.of (.int .u64 0),
   Fx.of (.pointer (some ⟨8, 0, none⟩)),
   Fx.of (.pointer (some ⟨8, 0, none⟩)),
   Fx.of (.pointer (some ⟨8, 0, none⟩)),
   Fx.of (.int .u64 52),
   Fx.of (.int .u64 0),
   Fx.of (.int .u64 0),
   Fx.of (.int .u64 0)]) mixed rfl trivial (fun _ h => by cases h) ?_ ?_
  · refine ⟨?_, ?_, ?_, ?_, ?_, ?_, ?_, ?_, ?_, ?_, ?_, ?_, ?_, ?_, ?_, ?_, ?_, ?_, ?_, ?_, ?_, ?_, trivial⟩
    · intro vs X wq K
      have LE := K.1
      have XN := K.2.1
      have SQ := Nat.le_trans LW.size (Nat.le_trans E.size LE.size)
      exact ow_move rfl ⟨Below.refl _ _, Left.of rfl⟩
    · intro vs X wq K
      have LE := K.1
      have XN := K.2.1
      have SQ := Nat.le_trans LW.size (Nat.le_trans E.size LE.size)
      exact ow_move rfl ⟨Below.refl _ _, Left.of rfl⟩
    · intro vs X wq K
      have LE := K.1
      have XN := K.2.1
      have SQ := Nat.le_trans LW.size (Nat.le_trans E.size LE.size)
      exact ow_move rfl ⟨Below.refl _ _, Left.of rfl⟩
    · intro vs X wq K
      have LE := K.1
      have XN := K.2.1
      have SQ := Nat.le_trans LW.size (Nat.le_trans E.size LE.size)
      obtain ⟨_, e2, k2⟩ := K.dep 2 rfl rfl rfl
      refine ow_set 206 (.pointer (some ⟨8, 0, none⟩)) rfl e2 ?_
      exact ow_nilCheck rfl ⟨Below.refl _ _, Left.of rfl⟩
    · intro vs X wq K
      have LE := K.1
      have XN := K.2.1
      have SQ := Nat.le_trans LW.size (Nat.le_trans E.size LE.size)
      obtain ⟨_, e3, k3⟩ := K.dep 3 rfl rfl rfl
      refine ow_set 207 (.pointer (some ⟨8, 0, none⟩)) rfl e3 ?_
      exact ow_fieldAddr Tryz.underlying206 rfl sz3 (by decide) rfl ⟨Below.refl _ _, Left.of rfl⟩
    · intro vs X wq K
      have LE := K.1
      have XN := K.2.1
      have SQ := Nat.le_trans LW.size (Nat.le_trans E.size LE.size)
      obtain ⟨_, e4, k4⟩ := K.dep 4 rfl rfl rfl
      refine ow_set 208 (.pointer (some ⟨8, 2, none⟩)) rfl e4 ?_
      exact ow_load1 Tryz.underlying3 rfl rfl (HF.on (E.drew.trans (LE.mono OY))).here.2 ⟨Below.refl _ _, Left.of rfl⟩
    · intro vs X wq K
      have LE := K.1
      have XN := K.2.1
      have SQ := Nat.le_trans LW.size (Nat.le_trans E.size LE.size)
      obtain ⟨_, e1, k1⟩ := K.dep 1 rfl rfl rfl
      refine ow_set 205 (.int .i64 (-1023)) rfl e1 ?_
      obtain ⟨_, e5, k5⟩ := K.dep 5 rfl rfl rfl
      refine ow_set 209 (.int .i64 (-1023)) rfl e5 ?_
      exact ow_sub (z := 0) rfl rfl (by kernel_rfl) ⟨Below.refl _ _, Left.of rfl⟩
    · intro vs X wq K
      have LE := K.1
      have XN := K.2.1
      have SQ := Nat.le_trans LW.size (Nat.le_trans E.size LE.size)
      exact ow_move rfl ⟨Below.refl _ _, Left.of rfl⟩
    · intro vs X wq K
      have LE := K.1
      have XN := K.2.1
      have SQ := Nat.le_trans LW.size (Nat.le_trans E.size LE.size)
      obtain ⟨_, e7, k7⟩ := K.dep 7 rfl rfl rfl
      refine ow_set 211 (.pointer (some ⟨8, 0, none⟩)) rfl e7 ?_
      exact ow_nilCheck rfl ⟨Below.refl _ _, Left.of rfl⟩
    · intro vs X wq K
      have LE := K.1
      have XN := K.2.1
      have SQ := Nat.le_trans LW.size (Nat.le_trans E.size LE.size)
      obtain ⟨_, e8, k8⟩ := K.dep 8 rfl rfl rfl
      refine ow_set 212 (.pointer (some ⟨8, 0, none⟩)) rfl e8 ?_
      exact ow_fieldAddr Tryz.underlying206 rfl sz144 (by decide) rfl ⟨Below.refl _ _, Left.of rfl⟩
    · intro vs X wq K
      have LE := K.1
      have XN := K.2.1
      have SQ := Nat.le_trans LW.size (Nat.le_trans E.size LE.size)
      obtain ⟨_, e9, k9⟩ := K.dep 9 rfl rfl rfl
      refine ow_set 213 (.pointer (some ⟨8, 1, none⟩)) rfl e9 ?_
      exact ow_load1 Tryz.underlying144 rfl rfl (HF.on (E.drew.trans (LE.mono OY))).here.1.2 ⟨Below.refl _ _, Left.of rfl⟩
    · intro vs X wq K
      have LE := K.1
      have XN := K.2.1
      have SQ := Nat.le_trans LW.size (Nat.le_trans E.size LE.size)
      obtain ⟨_, e10, k10⟩ := K.dep 10 rfl rfl rfl
      refine ow_set 214 (.int .u64 11) rfl e10 ?_
      exact ow_shl (z := 2048) rfl rfl (by decide) (by kernel_rfl) ⟨Below.refl _ _, Left.of rfl⟩
    · intro vs X wq K
      have LE := K.1
      have XN := K.2.1
      have SQ := Nat.le_trans LW.size (Nat.le_trans E.size LE.size)
      obtain ⟨_, e11, k11⟩ := K.dep 11 rfl rfl rfl
      refine ow_set 215 (.int .i64 2048) rfl e11 ?_
      exact ow_sub (z := 2047) rfl rfl (by kernel_rfl) ⟨Below.refl _ _, Left.of rfl⟩
    · intro vs X wq K
      have LE := K.1
      have XN := K.2.1
      have SQ := Nat.le_trans LW.size (Nat.le_trans E.size LE.size)
      obtain ⟨_, e6, k6⟩ := K.dep 6 rfl rfl rfl
      refine ow_set 210 (.int .i64 0) rfl e6 ?_
      obtain ⟨_, e12, k12⟩ := K.dep 12 rfl rfl rfl
      refine ow_set 216 (.int .i64 2047) rfl e12 ?_
      exact ow_and (z := 0) rfl rfl (by kernel_rfl) ⟨Below.refl _ _, Left.of rfl⟩
    · intro vs X wq K
      have LE := K.1
      have XN := K.2.1
      have SQ := Nat.le_trans LW.size (Nat.le_trans E.size LE.size)
      obtain ⟨_, e13, k13⟩ := K.dep 13 rfl rfl rfl
      refine ow_set 217 (.int .i64 0) rfl e13 ?_
      exact ow_conv (z := 0) Tryz.underlying32 Tryz.underlying3 rfl (by kernel_rfl) ⟨Below.refl _ _, Left.of rfl⟩
    · intro vs X wq K
      have LE := K.1
      have XN := K.2.1
      have SQ := Nat.le_trans LW.size (Nat.le_trans E.size LE.size)
      exact ow_move rfl ⟨Below.refl _ _, Left.of rfl⟩
    · intro vs X wq K
      have LE := K.1
      have XN := K.2.1
      have SQ := Nat.le_trans LW.size (Nat.le_trans E.size LE.size)
      obtain ⟨_, e15, k15⟩ := K.dep 15 rfl rfl rfl
      refine ow_set 219 (.pointer (some ⟨8, 0, none⟩)) rfl e15 ?_
      exact ow_nilCheck rfl ⟨Below.refl _ _, Left.of rfl⟩
    · intro vs X wq K
      have LE := K.1
      have XN := K.2.1
      have SQ := Nat.le_trans LW.size (Nat.le_trans E.size LE.size)
      obtain ⟨_, e16, k16⟩ := K.dep 16 rfl rfl rfl
      refine ow_set 220 (.pointer (some ⟨8, 0, none⟩)) rfl e16 ?_
      exact ow_fieldAddr Tryz.underlying206 rfl sz144 (by decide) rfl ⟨Below.refl _ _, Left.of rfl⟩
    · intro vs X wq K
      have LE := K.1
      have XN := K.2.1
      have SQ := Nat.le_trans LW.size (Nat.le_trans E.size LE.size)
      obtain ⟨_, e17, k17⟩ := K.dep 17 rfl rfl rfl
      refine ow_set 221 (.pointer (some ⟨8, 0, none⟩)) rfl e17 ?_
      exact ow_load1 Tryz.underlying144 rfl rfl (HF.on (E.drew.trans (LE.mono OY))).here.1.1.2 ⟨Below.refl _ _, Left.of rfl⟩
    · intro vs X wq K
      have LE := K.1
      have XN := K.2.1
      have SQ := Nat.le_trans LW.size (Nat.le_trans E.size LE.size)
      obtain ⟨_, e14, k14⟩ := K.dep 14 rfl rfl rfl
      refine ow_set 218 (.int .u64 0) rfl e14 ?_
      obtain ⟨_, e18, k18⟩ := K.dep 18 rfl rfl rfl
      refine ow_set 222 (.int .u64 52) rfl e18 ?_
      exact ow_shl (z := 0) rfl rfl (by decide) (by kernel_rfl) ⟨Below.refl _ _, Left.of rfl⟩
    · intro vs X wq K
      have LE := K.1
      have XN := K.2.1
      have SQ := Nat.le_trans LW.size (Nat.le_trans E.size LE.size)
      obtain ⟨_, e0, k0⟩ := K.dep 0 rfl rfl rfl
      refine ow_set 204 (.int .u64 0) rfl e0 ?_
      obtain ⟨_, e19, k19⟩ := K.dep 19 rfl rfl rfl
      refine ow_set 223 (.int .u64 0) rfl e19 ?_
      exact ow_or (z := 0) rfl rfl (by kernel_rfl) ⟨Below.refl _ _, Left.of rfl⟩
    · intro vs X wq K
      have LE := K.1
      have XN := K.2.1
      have SQ := Nat.le_trans LW.size (Nat.le_trans E.size LE.size)
      obtain ⟨_, e20, k20⟩ := K.dep 20 rfl rfl rfl
      refine ow_set 224 (.int .u64 0) rfl e20 ?_
      exact ow_assign rfl ⟨Below.refl _ _, Left.of rfl⟩
  intro vs w1 LE AO AL AF AA
  have LBa := Ba
  replace Ba := Ba.drew.extN LE NotIn.nil
  replace E := E.drew.trans (LE.mono OY)
  obtain ⟨_, e21, k21⟩ := AL.2.2.2.2.2.2.2.2.2.2.2.2.2.2.2.2.2.2.2.2.2.1
  refine ew_sub (τ := [(0, _), (1, _), (4, _), (5, _), (11, .int .u64 0)]) ⟨rfl, rfl, rfl, rfl, congrArg some e21, trivial⟩ ?_
  clear AL AF AA LE AO OY e21 k21 LBa
  refine ew_next ?_
  refine cw_seq ?_
  refine cw_seq ?_
  refine cw_region ?_
  refine rs_op rfl (ow_move rfl ?_)
  refine rs_op rfl (ow_nilCheck rfl ?_)
  refine rs_op rfl (ow_fieldAddr Tryz.underlying193 rfl sz4 (by decide) rfl ?_)
  refine rs_op rfl (ow_loadF Tryz.underlying4 rfl rfl Ba (ngAt hl t.neg rfl) ?_)
  refine rs_nil ?_
  refine ew_next ?_
  refine cw_cond rfl (fun hng => ?_) (fun hng => ?_)
  ·
   have OY : ∀ q9, (Mut (outM [])) q9 → q9 < (World.drew w1).heap.size → (Mut [(some ga)]) q9 := fun k h _ => (Mut.none_) k h
   refine cw_drawn (Mut [(some ga)]) (Mut.grow Mut.none_ (some_lt Ba.lt)) [] [] (fxAt [Fx.of (.int .u64 0),
    Fx.of (.pointer (some ⟨8, 0, none⟩)),
    Fx.of (.pointer (some ⟨8, 0, none⟩)),
    Fx.of (.pointer (some ⟨8, 0, none⟩)),
    Fx.of (.int .u64 52),
    Fx.of (.int .u64 4503599627370496),
    Fx.of (.pointer (some ⟨8, 0, none⟩)),
    Fx.of (.pointer (some ⟨8, 0, none⟩)),
    Fx.of (.pointer (some ⟨8, 1, none⟩)),
    Fx.of (.int .u64 11),
    Fx.of (.int .u64 9223372036854775808),
    Fx.of (.int .u64 9223372036854775808),
    Fx.of (.int .u64 9223372036854775808)]) mixed rfl trivial (fun _ h => by cases h) ?_ ?_
   · refine ⟨?_, ?_, ?_, ?_, ?_, ?_, ?_, ?_, ?_, ?_, ?_, ?_, ?_, trivial⟩
     · intro vs X wq K
       have LE := K.1
       have XN := K.2.1
       have SQ := Nat.le_trans LW.size (Nat.le_trans E.size LE.size)
       exact ow_move rfl ⟨Below.refl _ _, Left.of rfl⟩
     · intro vs X wq K
       have LE := K.1
       have XN := K.2.1
       have SQ := Nat.le_trans LW.size (Nat.le_trans E.size LE.size)
       exact ow_move rfl ⟨Below.refl _ _, Left.of rfl⟩
     · intro vs X wq K
       have LE := K.1
       have XN := K.2.1
       have SQ := Nat.le_trans LW.size (Nat.le_trans E.size LE.size)
       obtain ⟨_, e1, k1⟩ := K.dep 1 rfl rfl rfl
       refine ow_set 230 (.pointer (some ⟨8, 0, none⟩)) rfl e1 ?_
       exact ow_nilCheck rfl ⟨Below.refl _ _, Left.of rfl⟩
     · intro vs X wq K
       have LE := K.1
       have XN := K.2.1
       have SQ := Nat.le_trans LW.size (Nat.le_trans E.size LE.size)
       obtain ⟨_, e2, k2⟩ := K.dep 2 rfl rfl rfl
       refine ow_set 231 (.pointer (some ⟨8, 0, none⟩)) rfl e2 ?_
       exact ow_fieldAddr Tryz.underlying206 rfl sz144 (by decide) rfl ⟨Below.refl _ _, Left.of rfl⟩
     · intro vs X wq K
       have LE := K.1
       have XN := K.2.1
       have SQ := Nat.le_trans LW.size (Nat.le_trans E.size LE.size)
       obtain ⟨_, e3, k3⟩ := K.dep 3 rfl rfl rfl
       refine ow_set 232 (.pointer (some ⟨8, 0, none⟩)) rfl e3 ?_
       exact ow_load1 Tryz.underlying144 rfl rfl (HF.on (E.drew.trans (LE.mono OY))).here.1.1.2 ⟨Below.refl _ _, Left.of rfl⟩
     · intro vs X wq K
       have LE := K.1
       have XN := K.2.1
       have SQ := Nat.le_trans LW.size (Nat.le_trans E.size LE.size)
       obtain ⟨_, e4, k4⟩ := K.dep 4 rfl rfl rfl
       refine ow_set 233 (.int .u64 52) rfl e4 ?_
       exact ow_shl (z := 4503599627370496) rfl rfl (by decide) (by kernel_rfl) ⟨Below.refl _ _, Left.of rfl⟩
     · intro vs X wq K
       have LE := K.1
       have XN := K.2.1
       have SQ := Nat.le_trans LW.size (Nat.le_trans E.size LE.size)
       exact ow_move rfl ⟨Below.refl _ _, Left.of rfl⟩
     · intro vs X wq K
       have LE := K.1
       have XN := K.2.1
       have SQ := Nat.le_trans LW.size (Nat.le_trans E.size LE.size)
       obtain ⟨_, e6, k6⟩ := K.dep 6 rfl rfl rfl
       refine ow_set 235 (.pointer (some ⟨8, 0, none⟩)) rfl e6 ?_
       exact ow_nilCheck rfl ⟨Below.refl _ _, Left.of rfl⟩
     · intro vs X wq K
       have LE := K.1
       have XN := K.2.1
       have SQ := Nat.le_trans LW.size (Nat.le_trans E.size LE.size)
       obtain ⟨_, e7, k7⟩ := K.dep 7 rfl rfl rfl
       refine ow_set 236 (.pointer (some ⟨8, 0, none⟩)) rfl e7 ?_
       exact ow_fieldAddr Tryz.underlying206 rfl sz144 (by decide) rfl ⟨Below.refl _ _, Left.of rfl⟩
     · intro vs X wq K
       have LE := K.1
       have XN := K.2.1
       have SQ := Nat.le_trans LW.size (Nat.le_trans E.size LE.size)
       obtain ⟨_, e8, k8⟩ := K.dep 8 rfl rfl rfl
       refine ow_set 237 (.pointer (some ⟨8, 1, none⟩)) rfl e8 ?_
       exact ow_load1 Tryz.underlying144 rfl rfl (HF.on (E.drew.trans (LE.mono OY))).here.1.2 ⟨Below.refl _ _, Left.of rfl⟩
     · intro vs X wq K
       have LE := K.1
       have XN := K.2.1
       have SQ := Nat.le_trans LW.size (Nat.le_trans E.size LE.size)
       obtain ⟨_, e5, k5⟩ := K.dep 5 rfl rfl rfl
       refine ow_set 234 (.int .u64 4503599627370496) rfl e5 ?_
       obtain ⟨_, e9, k9⟩ := K.dep 9 rfl rfl rfl
       refine ow_set 238 (.int .u64 11) rfl e9 ?_
       exact ow_shl (z := 9223372036854775808) rfl rfl (by decide) (by kernel_rfl) ⟨Below.refl _ _, Left.of rfl⟩
     · intro vs X wq K
       have LE := K.1
       have XN := K.2.1
       have SQ := Nat.le_trans LW.size (Nat.le_trans E.size LE.size)
       obtain ⟨_, e0, k0⟩ := K.dep 0 rfl rfl rfl
       refine ow_set 229 (.int .u64 0) rfl e0 ?_
       obtain ⟨_, e10, k10⟩ := K.dep 10 rfl rfl rfl
       refine ow_set 239 (.int .u64 9223372036854775808) rfl e10 ?_
       exact ow_or (z := 9223372036854775808) rfl rfl (by kernel_rfl) ⟨Below.refl _ _, Left.of rfl⟩
     · intro vs X wq K
       have LE := K.1
       have XN := K.2.1
       have SQ := Nat.le_trans LW.size (Nat.le_trans E.size LE.size)
       obtain ⟨_, e11, k11⟩ := K.dep 11 rfl rfl rfl
       refine ow_set 240 (.int .u64 9223372036854775808) rfl e11 ?_
       exact ow_assign rfl ⟨Below.refl _ _, Left.of rfl⟩
   intro vs w2 LE AO AL AF AA
   have LBa := Ba
   replace Ba := Ba.drew.extN LE NotIn.nil
   replace E := E.drew.trans (LE.mono OY)
   obtain ⟨_, e12, k12⟩ := AL.2.2.2.2.2.2.2.2.2.2.2.2.1
   refine ew_sub (τ := [(4, _), (5, _), (11, .int .u64 9223372036854775808)]) ⟨rfl, rfl, congrArg some e12, trivial⟩ ?_
   clear AL AF AA LE AO OY e12 k12 LBa
   refine ew_next ?_
   refine cw_seq ?_
   refine cw_region ?_
   refine rs_op rfl (ow_move rfl ?_)
   refine rs_op rfl (ow_move rfl ?_)
   refine rs_op rfl (ow_assign rfl ?_)
   refine rs_op rfl (ow_assign rfl ?_)
   refine rs_nil ?_
   refine ew_next ?_
   refine cw_ret ?_
   refine ew_scope_ret ?_
   have e : slowF t = 9223372036854775808 := by unfold slowF; rw [hfb, hng]; decide +kernel
   refine ew_ret (rs := [.tmp 4, .tmp 5]) (vs := [_, _]) rfl ⟨rfl, rfl, trivial⟩ ?_
   exact ⟨by rw [e, hfb]; rfl, ⟨_, Ba⟩, (LW.step E XLW)⟩
  ·
   refine cw_skip ?_
   refine ew_next ?_
   refine cw_seq ?_
   refine cw_region ?_
   refine rs_op rfl (ow_move rfl ?_)
   refine rs_op rfl (ow_move rfl ?_)
   refine rs_op rfl (ow_assign rfl ?_)
   refine rs_op rfl (ow_assign rfl ?_)
   refine rs_nil ?_
   refine ew_next ?_
   refine cw_ret ?_
   refine ew_scope_ret ?_
   have e : slowF t = 0 := by unfold slowF; rw [hfb, hng]; decide +kernel
   refine ew_ret (rs := [.tmp 4, .tmp 5]) (vs := [_, _]) rfl ⟨rfl, rfl, trivial⟩ ?_
   exact ⟨by rw [e, hfb]; rfl, ⟨_, Ba⟩, (LW.step E XLW)⟩
 ·
  have h1 : t.nd ≠ 0 := fun e => absurd h1 (by rw [e]; decide)
  refine cw_skip ?_
  refine ew_next ?_
  refine cw_seq ?_
  refine cw_seq ?_
  refine cw_region ?_
  refine rs_op rfl (ow_move rfl ?_)
  refine rs_op rfl (ow_nilCheck rfl ?_)
  refine rs_op rfl (ow_fieldAddr Tryz.underlying193 rfl sz3 (by decide) rfl ?_)
  refine rs_op rfl (ow_loadF Tryz.underlying3 rfl rfl Ba (dpAt hl t.dp rfl) ?_)
  refine rs_op rfl (ow_gtr rfl rfl ?_)
  refine rs_nil ?_
  refine ew_next ?_
  refine cw_cond rfl (fun h2 => ?_) (fun h2 => ?_)
  ·
   have h2 := of_decide_eq_true h2
   have hfb : fbAll t = (0, 2047, true) := by unfold fbAll; rw [if_neg h1, if_pos h2]
   refine cw_goto ?_
   refine ew_then_goto ?_
   refine ew_scope_goto rfl ?_
   refine cw_seq ?_
   refine cw_skip ?_
   refine ew_next ?_
   refine cw_seq ?_
   refine cw_region ?_
   refine rs_op rfl (ow_assign rfl ?_)
   refine rs_nil ?_
   refine ew_next ?_
   refine cw_seq ?_
   have OY : ∀ q9, (Mut (outM [])) q9 → q9 < (World.drew w).heap.size → (Mut [(some ga)]) q9 := fun k h _ => (Mut.none_) k h
   refine cw_drawn (Mut [(some ga)]) (Mut.grow Mut.none_ (some_lt Ba.lt)) [] [] (fxAt [Fx.of (.pointer (some ⟨8, 0, none⟩)),
    Fx.of (.pointer (some ⟨8, 0, none⟩)),
    Fx.of (.pointer (some ⟨8, 1, none⟩)),
    Fx.of (.int .u64 11),
    Fx.of (.int .i64 2048),
    Fx.of (.int .i64 2047),
    Fx.of (.pointer (some ⟨8, 0, none⟩)),
    Fx.of (.pointer (some ⟨8, 0, none⟩)),
    Fx.of (.pointer (some ⟨8, 2, none⟩)),
    Fx.of (.int .i64 (-1023)),
    Fx.of (.int .i64 1024),
    Fx.of (.int .i64 1024)]) mixed rfl trivial (fun _ h => by cases h) ?_ ?_
   · refine ⟨?_, ?_, ?_, ?_, ?_, ?_, ?_, ?_, ?_, ?_, ?_, ?_, trivial⟩
     · intro vs X wq K
       have LE := K.1
       have XN := K.2.1
       have SQ := Nat.le_trans LW.size (Nat.le_trans E.size LE.size)
       exact ow_move rfl ⟨Below.refl _ _, Left.of rfl⟩
     · intro vs X wq K
       have LE := K.1
       have XN := K.2.1
       have SQ := Nat.le_trans LW.size (Nat.le_trans E.size LE.size)
       obtain ⟨_, e0, k0⟩ := K.dep 0 rfl rfl rfl
       refine ow_set 185 (.pointer (some ⟨8, 0, none⟩)) rfl e0 ?_
       exact ow_nilCheck rfl ⟨Below.refl _ _, Left.of rfl⟩
     · intro vs X wq K
       have LE := K.1
       have XN := K.2.1
       have SQ := Nat.le_trans LW.size (Nat.le_trans E.size LE.size)
       obtain ⟨_, e1, k1⟩ := K.dep 1 rfl rfl rfl
       refine ow_set 186 (.pointer (some ⟨8, 0, none⟩)) rfl e1 ?_
       exact ow_fieldAddr Tryz.underlying206 rfl sz144 (by decide) rfl ⟨Below.refl _ _, Left.of rfl⟩
     · intro vs X wq K
       have LE := K.1
       have XN := K.2.1
       have SQ := Nat.le_trans LW.size (Nat.le_trans E.size LE.size)
       obtain ⟨_, e2, k2⟩ := K.dep 2 rfl rfl rfl
       refine ow_set 187 (.pointer (some ⟨8, 1, none⟩)) rfl e2 ?_
       exact ow_load1 Tryz.underlying144 rfl rfl (HF.on (E.drew.trans (LE.mono OY))).here.1.2 ⟨Below.refl _ _, Left.of rfl⟩
     · intro vs X wq K
       have LE := K.1
       have XN := K.2.1
       have SQ := Nat.le_trans LW.size (Nat.le_trans E.size LE.size)
       obtain ⟨_, e3, k3⟩ := K.dep 3 rfl rfl rfl
       refine ow_set 188 (.int .u64 11) rfl e3 ?_
       exact ow_shl (z := 2048) rfl rfl (by decide) (by kernel_rfl) ⟨Below.refl _ _, Left.of rfl⟩
     · intro vs X wq K
       have LE := K.1
       have XN := K.2.1
       have SQ := Nat.le_trans LW.size (Nat.le_trans E.size LE.size)
       obtain ⟨_, e4, k4⟩ := K.dep 4 rfl rfl rfl
       refine ow_set 189 (.int .i64 2048) rfl e4 ?_
       exact ow_sub (z := 2047) rfl rfl (by kernel_rfl) ⟨Below.refl _ _, Left.of rfl⟩
     · intro vs X wq K
       have LE := K.1
       have XN := K.2.1
       have SQ := Nat.le_trans LW.size (Nat.le_trans E.size LE.size)
       exact ow_move rfl ⟨Below.refl _ _, Left.of rfl⟩
     · intro vs X wq K
       have LE := K.1
       have XN := K.2.1
       have SQ := Nat.le_trans LW.size (Nat.le_trans E.size LE.size)
       obtain ⟨_, e6, k6⟩ := K.dep 6 rfl rfl rfl
       refine ow_set 191 (.pointer (some ⟨8, 0, none⟩)) rfl e6 ?_
       exact ow_nilCheck rfl ⟨Below.refl _ _, Left.of rfl⟩
     · intro vs X wq K
       have LE := K.1
       have XN := K.2.1
       have SQ := Nat.le_trans LW.size (Nat.le_trans E.size LE.size)
       obtain ⟨_, e7, k7⟩ := K.dep 7 rfl rfl rfl
       refine ow_set 192 (.pointer (some ⟨8, 0, none⟩)) rfl e7 ?_
       exact ow_fieldAddr Tryz.underlying206 rfl sz3 (by decide) rfl ⟨Below.refl _ _, Left.of rfl⟩
     · intro vs X wq K
       have LE := K.1
       have XN := K.2.1
       have SQ := Nat.le_trans LW.size (Nat.le_trans E.size LE.size)
       obtain ⟨_, e8, k8⟩ := K.dep 8 rfl rfl rfl
       refine ow_set 193 (.pointer (some ⟨8, 2, none⟩)) rfl e8 ?_
       exact ow_load1 Tryz.underlying3 rfl rfl (HF.on (E.drew.trans (LE.mono OY))).here.2 ⟨Below.refl _ _, Left.of rfl⟩
     · intro vs X wq K
       have LE := K.1
       have XN := K.2.1
       have SQ := Nat.le_trans LW.size (Nat.le_trans E.size LE.size)
       obtain ⟨_, e5, k5⟩ := K.dep 5 rfl rfl rfl
       refine ow_set 190 (.int .i64 2047) rfl e5 ?_
       obtain ⟨_, e9, k9⟩ := K.dep 9 rfl rfl rfl
       refine ow_set 194 (.int .i64 (-1023)) rfl e9 ?_
       exact ow_add (z := 1024) rfl rfl (by kernel_rfl) ⟨Below.refl _ _, Left.of rfl⟩
     · intro vs X wq K
       have LE := K.1
       have XN := K.2.1
       have SQ := Nat.le_trans LW.size (Nat.le_trans E.size LE.size)
       obtain ⟨_, e10, k10⟩ := K.dep 10 rfl rfl rfl
       refine ow_set 195 (.int .i64 1024) rfl e10 ?_
       exact ow_assign rfl ⟨Below.refl _ _, Left.of rfl⟩
   intro vs w3 LE AO AL AF AA
   have LBa := Ba
   replace Ba := Ba.drew.extN LE NotIn.nil
   replace E := E.drew.trans (LE.mono OY)
   obtain ⟨_, e11, k11⟩ := AL.2.2.2.2.2.2.2.2.2.2.2.1
   refine ew_sub (τ := [(0, _), (1, _), (4, _), (5, _), (6, .int .i64 1024), (7, _)]) ⟨rfl, rfl, rfl, rfl, congrArg some e11, rfl, trivial⟩ ?_
   clear AL AF AA LE AO OY e11 k11 LBa
   refine ew_next ?_
   refine cw_seq ?_
   refine cw_region ?_
   refine rs_op rfl (ow_assign rfl ?_)
   refine rs_nil ?_
   refine ew_next ?_
   refine cw_seq ?_
   refine cw_label ?_
   refine ew_next ?_
   refine cw_seq ?_
   refine cw_region ?_
   refine rs_op rfl (ow_move rfl ?_)
   refine rs_op rfl (ow_move rfl ?_)
   refine rs_op rfl (ow_nilCheck rfl ?_)
   refine rs_op rfl (ow_fieldAddr Tryz.underlying206 rfl sz144 (by decide) rfl ?_)
   refine rs_op rfl (ow_load1 Tryz.underlying144 rfl rfl (HF.on E).here.1.1.2 ?_)
   refine rs_op rfl (ow_shl (z := 4503599627370496) rfl rfl (by decide) (by kernel_rfl) ?_)
   refine rs_op rfl (ow_sub (z := 4503599627370495) rfl rfl (by kernel_rfl) ?_)
   refine rs_op rfl (ow_and (z := 0) rfl rfl (by kernel_rfl) ?_)
   refine rs_op rfl (ow_assign rfl ?_)
   refine rs_nil ?_
   refine ew_next ?_
   refine cw_seq ?_
   have OY : ∀ q9, (Mut (outM [])) q9 → q9 < (World.drew w3).heap.size → (Mut [(some ga)]) q9 := fun k h _ => (Mut.none_) k h
   refine cw_drawn (Mut [(some ga)]) (Mut.grow Mut.none_ (some_lt Ba.lt)) [] [] (fxAt [Fx.of (.int .u64 0),
    Fx.of (.int .i64 1024),
    Fx.of (.pointer (some ⟨8, 0, none⟩)),
    Fx.of (.pointer (some ⟨8, 0, none⟩)),
    Fx.of (.pointer (some ⟨8, 2, none⟩)),
    Fx.of (.int .i64 (-1023)),
    Fx.of (.int .i64 2047),
    Fx.of (.pointer (some ⟨8, 0, none⟩)),
    Fx.of (.pointer (some ⟨8, 0, none⟩)),
    Fx.of (.pointer (some ⟨8, 1, none⟩)),
    Fx.of (.int .u64 11),
    Fx.of (.int .i64 2048),
    Fx.of (.int .i64 2047),
    Fx.of (.int .i64 2047),
    Fx.of (.int .u64 2047),
    Fx.of (.pointer (some ⟨8, 0, none⟩)),
    Fx.of (.pointer (some ⟨8, 0, none⟩)),
    Fx.of (.pointer (some ⟨8, 0, none⟩)),
    Fx.of (.int .u64 52),
    Fx.of (.int .u64 9218868437227405312),
    Fx.of (.int .u64 9218868437227405312),
    Fx.of (.int .u64 9218868437227405312)]) mixed rfl trivial (fun _ h => by cases h) ?_ ?_
   · refine ⟨?_, ?_, ?_, ?_, ?_, ?_, ?_, ?_, ?_, ?_, ?_, ?_, ?_, ?_, ?_, ?_, ?_, ?_, ?_, ?_, ?_, ?_, trivial⟩
     · intro vs X wq K
       have LE := K.1
       have XN := K.2.1
       have SQ := Nat.le_trans LW.size (Nat.le_trans E.size LE.size)
       exact ow_move rfl ⟨Below.refl _ _, Left.of rfl⟩
     · intro vs X wq K
       have LE := K.1
       have XN := K.2.1
       have SQ := Nat.le_trans LW.size (Nat.le_trans E.size LE.size)
       exact ow_move rfl ⟨Below.refl _ _, Left.of rfl⟩
     · intro vs X wq K
       have LE := K.1
       have XN := K.2.1
       have SQ := Nat.le_trans LW.size (Nat.le_trans E.size LE.size)
       exact ow_move rfl ⟨Below.refl _ _, Left.of rfl⟩
     · intro vs X wq K
       have LE := K.1
       have XN := K.2.1
       have SQ := Nat.le_trans LW.size (Nat.le_trans E.size LE.size)
       obtain ⟨_, e2, k2⟩ := K.dep 2 rfl rfl rfl
       refine ow_set 206 (.pointer (some ⟨8, 0, none⟩)) rfl e2 ?_
       exact ow_nilCheck rfl ⟨Below.refl _ _, Left.of rfl⟩
     · intro vs X wq K
       have LE := K.1
       have XN := K.2.1
       have SQ := Nat.le_trans LW.size (Nat.le_trans E.size LE.size)
       obtain ⟨_, e3, k3⟩ := K.dep 3 rfl rfl rfl
       refine ow_set 207 (.pointer (some ⟨8, 0, none⟩)) rfl e3 ?_
       exact ow_fieldAddr Tryz.underlying206 rfl sz3 (by decide) rfl ⟨Below.refl _ _, Left.of rfl⟩
     · intro vs X wq K
       have LE := K.1
       have XN := K.2.1
       have SQ := Nat.le_trans LW.size (Nat.le_trans E.size LE.size)
       obtain ⟨_, e4, k4⟩ := K.dep 4 rfl rfl rfl
       refine ow_set 208 (.pointer (some ⟨8, 2, none⟩)) rfl e4 ?_
       exact ow_load1 Tryz.underlying3 rfl rfl (HF.on (E.drew.trans (LE.mono OY))).here.2 ⟨Below.refl _ _, Left.of rfl⟩
     · intro vs X wq K
       have LE := K.1
       have XN := K.2.1
       have SQ := Nat.le_trans LW.size (Nat.le_trans E.size LE.size)
       obtain ⟨_, e1, k1⟩ := K.dep 1 rfl rfl rfl
       refine ow_set 205 (.int .i64 1024) rfl e1 ?_
       obtain ⟨_, e5, k5⟩ := K.dep 5 rfl rfl rfl
       refine ow_set 209 (.int .i64 (-1023)) rfl e5 ?_
       exact ow_sub (z := 2047) rfl rfl (by kernel_rfl) ⟨Below.refl _ _, Left.of rfl⟩
     · intro vs X wq K
       have LE := K.1
       have XN := K.2.1
       have SQ := Nat.le_trans LW.size (Nat.le_trans E.size LE.size)
       exact ow_move rfl ⟨Below.refl _ _, Left.of rfl⟩
     · intro vs X wq K
       have LE := K.1
       have XN := K.2.1
       have SQ := Nat.le_trans LW.size (Nat.le_trans E.size LE.size)
       obtain ⟨_, e7, k7⟩ := K.dep 7 rfl rfl rfl
       refine ow_set 211 (.pointer (some ⟨8, 0, none⟩)) rfl e7 ?_
       exact ow_nilCheck rfl ⟨Below.refl _ _, Left.of rfl⟩
     · intro vs X wq K
       have LE := K.1
       have XN := K.2.1
       have SQ := Nat.le_trans LW.size (Nat.le_trans E.size LE.size)
       obtain ⟨_, e8, k8⟩ := K.dep 8 rfl rfl rfl
       refine ow_set 212 (.pointer (some ⟨8, 0, none⟩)) rfl e8 ?_
       exact ow_fieldAddr Tryz.underlying206 rfl sz144 (by decide) rfl ⟨Below.refl _ _, Left.of rfl⟩
     · intro vs X wq K
       have LE := K.1
       have XN := K.2.1
       have SQ := Nat.le_trans LW.size (Nat.le_trans E.size LE.size)
       obtain ⟨_, e9, k9⟩ := K.dep 9 rfl rfl rfl
       refine ow_set 213 (.pointer (some ⟨8, 1, none⟩)) rfl e9 ?_
       exact ow_load1 Tryz.underlying144 rfl rfl (HF.on (E.drew.trans (LE.mono OY))).here.1.2 ⟨Below.refl _ _, Left.of rfl⟩
     · intro vs X wq K
       have LE := K.1
       have XN := K.2.1
       have SQ := Nat.le_trans LW.size (Nat.le_trans E.size LE.size)
       obtain ⟨_, e10, k10⟩ := K.dep 10 rfl rfl rfl
       refine ow_set 214 (.int .u64 11) rfl e10 ?_
       exact ow_shl (z := 2048) rfl rfl (by decide) (by kernel_rfl) ⟨Below.refl _ _, Left.of rfl⟩
     · intro vs X wq K
       have LE := K.1
       have XN := K.2.1
       have SQ := Nat.le_trans LW.size (Nat.le_trans E.size LE.size)
       obtain ⟨_, e11, k11⟩ := K.dep 11 rfl rfl rfl
       refine ow_set 215 (.int .i64 2048) rfl e11 ?_
       exact ow_sub (z := 2047) rfl rfl (by kernel_rfl) ⟨Below.refl _ _, Left.of rfl⟩
     · intro vs X wq K
       have LE := K.1
       have XN := K.2.1
       have SQ := Nat.le_trans LW.size (Nat.le_trans E.size LE.size)
       obtain ⟨_, e6, k6⟩ := K.dep 6 rfl rfl rfl
       refine ow_set 210 (.int .i64 2047) rfl e6 ?_
       obtain ⟨_, e12, k12⟩ := K.dep 12 rfl rfl rfl
       refine ow_set 216 (.int .i64 2047) rfl e12 ?_
       exact ow_and (z := 2047) rfl rfl (by kernel_rfl) ⟨Below.refl _ _, Left.of rfl⟩
     · intro vs X wq K
       have LE := K.1
       have XN := K.2.1
       have SQ := Nat.le_trans LW.size (Nat.le_trans E.size LE.size)
       obtain ⟨_, e13, k13⟩ := K.dep 13 rfl rfl rfl
       refine ow_set 217 (.int .i64 2047) rfl e13 ?_
       exact ow_conv (z := 2047) Tryz.underlying32 Tryz.underlying3 rfl (by kernel_rfl) ⟨Below.refl _ _, Left.of rfl⟩
     · intro vs X wq K
       have LE := K.1
       have XN := K.2.1
       have SQ := Nat.le_trans LW.size (Nat.le_trans E.size LE.size)
       exact ow_move rfl ⟨Below.refl _ _, Left.of rfl⟩
     · intro vs X wq K
       have LE := K.1
       have XN := K.2.1
       have SQ := Nat.le_trans LW.size (Nat.le_trans E.size LE.size)
       obtain ⟨_, e15, k15⟩ := K.dep 15 rfl rfl rfl
       refine ow_set 219 (.pointer (some ⟨8, 0, none⟩)) rfl e15 ?_
       exact ow_nilCheck rfl ⟨Below.refl _ _, Left.of rfl⟩
     · intro vs X wq K
       have LE := K.1
       have XN := K.2.1
       have SQ := Nat.le_trans LW.size (Nat.le_trans E.size LE.size)
       obtain ⟨_, e16, k16⟩ := K.dep 16 rfl rfl rfl
       refine ow_set 220 (.pointer (some ⟨8, 0, none⟩)) rfl e16 ?_
       exact ow_fieldAddr Tryz.underlying206 rfl sz144 (by decide) rfl ⟨Below.refl _ _, Left.of rfl⟩
     · intro vs X wq K
       have LE := K.1
       have XN := K.2.1
       have SQ := Nat.le_trans LW.size (Nat.le_trans E.size LE.size)
       obtain ⟨_, e17, k17⟩ := K.dep 17 rfl rfl rfl
       refine ow_set 221 (.pointer (some ⟨8, 0, none⟩)) rfl e17 ?_
       exact ow_load1 Tryz.underlying144 rfl rfl (HF.on (E.drew.trans (LE.mono OY))).here.1.1.2 ⟨Below.refl _ _, Left.of rfl⟩
     · intro vs X wq K
       have LE := K.1
       have XN := K.2.1
       have SQ := Nat.le_trans LW.size (Nat.le_trans E.size LE.size)
       obtain ⟨_, e14, k14⟩ := K.dep 14 rfl rfl rfl
       refine ow_set 218 (.int .u64 2047) rfl e14 ?_
       obtain ⟨_, e18, k18⟩ := K.dep 18 rfl rfl rfl
       refine ow_set 222 (.int .u64 52) rfl e18 ?_
       exact ow_shl (z := 9218868437227405312) rfl rfl (by decide) (by kernel_rfl) ⟨Below.refl _ _, Left.of rfl⟩
     · intro vs X wq K
       have LE := K.1
       have XN := K.2.1
       have SQ := Nat.le_trans LW.size (Nat.le_trans E.size LE.size)
       obtain ⟨_, e0, k0⟩ := K.dep 0 rfl rfl rfl
       refine ow_set 204 (.int .u64 0) rfl e0 ?_
       obtain ⟨_, e19, k19⟩ := K.dep 19 rfl rfl rfl
       refine ow_set 223 (.int .u64 9218868437227405312) rfl e19 ?_
       exact ow_or (z := 9218868437227405312) rfl rfl (by kernel_rfl) ⟨Below.refl _ _, Left.of rfl⟩
     · intro vs X wq K
       have LE := K.1
       have XN := K.2.1
       have SQ := Nat.le_trans LW.size (Nat.le_trans E.size LE.size)
       obtain ⟨_, e20, k20⟩ := K.dep 20 rfl rfl rfl
       refine ow_set 224 (.int .u64 9218868437227405312) rfl e20 ?_
       exact ow_assign rfl ⟨Below.refl _ _, Left.of rfl⟩
   intro vs w4 LE AO AL AF AA
   have LBa := Ba
   replace Ba := Ba.drew.extN LE NotIn.nil
   replace E := E.drew.trans (LE.mono OY)
   obtain ⟨_, e21, k21⟩ := AL.2.2.2.2.2.2.2.2.2.2.2.2.2.2.2.2.2.2.2.2.2.1
   refine ew_sub (τ := [(0, _), (1, _), (4, _), (5, _), (11, .int .u64 9218868437227405312)]) ⟨rfl, rfl, rfl, rfl, congrArg some e21, trivial⟩ ?_
   clear AL AF AA LE AO OY e21 k21 LBa
   refine ew_next ?_
   refine cw_seq ?_
   refine cw_seq ?_
   refine cw_region ?_
   refine rs_op rfl (ow_move rfl ?_)
   refine rs_op rfl (ow_nilCheck rfl ?_)
   refine rs_op rfl (ow_fieldAddr Tryz.underlying193 rfl sz4 (by decide) rfl ?_)
   refine rs_op rfl (ow_loadF Tryz.underlying4 rfl rfl Ba (ngAt hl t.neg rfl) ?_)
   refine rs_nil ?_
   refine ew_next ?_
   refine cw_cond rfl (fun hng => ?_) (fun hng => ?_)
   ·
    have OY : ∀ q9, (Mut (outM [])) q9 → q9 < (World.drew w4).heap.size → (Mut [(some ga)]) q9 := fun k h _ => (Mut.none_) k h
    refine cw_drawn (Mut [(some ga)]) (Mut.grow Mut.none_ (some_lt Ba.lt)) [] [] (fxAt [Fx.of (.int .u64 9218868437227405312),
     Fx.of (.pointer (some ⟨8, 0, none⟩)),
     Fx.of (.pointer (some ⟨8, 0, none⟩)),
     Fx.of (.pointer (some ⟨8, 0, none⟩)),
     Fx.of (.int .u64 52),
     Fx.of (.int .u64 4503599627370496),
     Fx.of (.pointer (some ⟨8, 0, none⟩)),
     Fx.of (.pointer (some ⟨8, 0, none⟩)),
     Fx.of (.pointer (some ⟨8, 1, none⟩)),
     Fx.of (.int .u64 11),
     Fx.of (.int .u64 9223372036854775808),
     Fx.of (.int .u64 18442240474082181120),
     Fx.of (.int .u64 18442240474082181120)]) mixed rfl trivial (fun _ h => by cases h) ?_ ?_
    · refine ⟨?_, ?_, ?_, ?_, ?_, ?_, ?_, ?_, ?_, ?_, ?_, ?_, ?_, trivial⟩
      · intro vs X wq K
        have LE := K.1
        have XN := K.2.1
        have SQ := Nat.le_trans LW.size (Nat.le_trans E.size LE.size)
        exact ow_move rfl ⟨Below.refl _ _, Left.of rfl⟩
      · intro vs X wq K
        have LE := K.1
        have XN := K.2.1
        have SQ := Nat.le_trans LW.size (Nat.le_trans E.size LE.size)
        exact ow_move rfl ⟨Below.refl _ _, Left.of rfl⟩
      · intro vs X wq K
        have LE := K.1
        have XN := K.2.1
        have SQ := Nat.le_trans LW.size (Nat.le_trans E.size LE.size)
        obtain ⟨_, e1, k1⟩ := K.dep 1 rfl rfl rfl
        refine ow_set 230 (.pointer (some ⟨8, 0, none⟩)) rfl e1 ?_
        exact ow_nilCheck rfl ⟨Below.refl _ _, Left.of rfl⟩
      · intro vs X wq K
        have LE := K.1
        have XN := K.2.1
        have SQ := Nat.le_trans LW.size (Nat.le_trans E.size LE.size)
        obtain ⟨_, e2, k2⟩ := K.dep 2 rfl rfl rfl
        refine ow_set 231 (.pointer (some ⟨8, 0, none⟩)) rfl e2 ?_
        exact ow_fieldAddr Tryz.underlying206 rfl sz144 (by decide) rfl ⟨Below.refl _ _, Left.of rfl⟩
      · intro vs X wq K
        have LE := K.1
        have XN := K.2.1
        have SQ := Nat.le_trans LW.size (Nat.le_trans E.size LE.size)
        obtain ⟨_, e3, k3⟩ := K.dep 3 rfl rfl rfl
        refine ow_set 232 (.pointer (some ⟨8, 0, none⟩)) rfl e3 ?_
        exact ow_load1 Tryz.underlying144 rfl rfl (HF.on (E.drew.trans (LE.mono OY))).here.1.1.2 ⟨Below.refl _ _, Left.of rfl⟩
      · intro vs X wq K
        have LE := K.1
        have XN := K.2.1
        have SQ := Nat.le_trans LW.size (Nat.le_trans E.size LE.size)
        obtain ⟨_, e4, k4⟩ := K.dep 4 rfl rfl rfl
        refine ow_set 233 (.int .u64 52) rfl e4 ?_
        exact ow_shl (z := 4503599627370496) rfl rfl (by decide) (by kernel_rfl) ⟨Below.refl _ _, Left.of rfl⟩
      · intro vs X wq K
        have LE := K.1
        have XN := K.2.1
        have SQ := Nat.le_trans LW.size (Nat.le_trans E.size LE.size)
        exact ow_move rfl ⟨Below.refl _ _, Left.of rfl⟩
      · intro vs X wq K
        have LE := K.1
        have XN := K.2.1
        have SQ := Nat.le_trans LW.size (Nat.le_trans E.size LE.size)
        obtain ⟨_, e6, k6⟩ := K.dep 6 rfl rfl rfl
        refine ow_set 235 (.pointer (some ⟨8, 0, none⟩)) rfl e6 ?_
        exact ow_nilCheck rfl ⟨Below.refl _ _, Left.of rfl⟩
      · intro vs X wq K
        have LE := K.1
        have XN := K.2.1
        have SQ := Nat.le_trans LW.size (Nat.le_trans E.size LE.size)
        obtain ⟨_, e7, k7⟩ := K.dep 7 rfl rfl rfl
        refine ow_set 236 (.pointer (some ⟨8, 0, none⟩)) rfl e7 ?_
        exact ow_fieldAddr Tryz.underlying206 rfl sz144 (by decide) rfl ⟨Below.refl _ _, Left.of rfl⟩
      · intro vs X wq K
        have LE := K.1
        have XN := K.2.1
        have SQ := Nat.le_trans LW.size (Nat.le_trans E.size LE.size)
        obtain ⟨_, e8, k8⟩ := K.dep 8 rfl rfl rfl
        refine ow_set 237 (.pointer (some ⟨8, 1, none⟩)) rfl e8 ?_
        exact ow_load1 Tryz.underlying144 rfl rfl (HF.on (E.drew.trans (LE.mono OY))).here.1.2 ⟨Below.refl _ _, Left.of rfl⟩
      · intro vs X wq K
        have LE := K.1
        have XN := K.2.1
        have SQ := Nat.le_trans LW.size (Nat.le_trans E.size LE.size)
        obtain ⟨_, e5, k5⟩ := K.dep 5 rfl rfl rfl
        refine ow_set 234 (.int .u64 4503599627370496) rfl e5 ?_
        obtain ⟨_, e9, k9⟩ := K.dep 9 rfl rfl rfl
        refine ow_set 238 (.int .u64 11) rfl e9 ?_
        exact ow_shl (z := 9223372036854775808) rfl rfl (by decide) (by kernel_rfl) ⟨Below.refl _ _, Left.of rfl⟩
      · intro vs X wq K
        have LE := K.1
        have XN := K.2.1
        have SQ := Nat.le_trans LW.size (Nat.le_trans E.size LE.size)
        obtain ⟨_, e0, k0⟩ := K.dep 0 rfl rfl rfl
        refine ow_set 229 (.int .u64 9218868437227405312) rfl e0 ?_
        obtain ⟨_, e10, k10⟩ := K.dep 10 rfl rfl rfl
        refine ow_set 239 (.int .u64 9223372036854775808) rfl e10 ?_
        exact ow_or (z := 18442240474082181120) rfl rfl (by kernel_rfl) ⟨Below.refl _ _, Left.of rfl⟩
      · intro vs X wq K
        have LE := K.1
        have XN := K.2.1
        have SQ := Nat.le_trans LW.size (Nat.le_trans E.size LE.size)
        obtain ⟨_, e11, k11⟩ := K.dep 11 rfl rfl rfl
        refine ow_set 240 (.int .u64 18442240474082181120) rfl e11 ?_
        exact ow_assign rfl ⟨Below.refl _ _, Left.of rfl⟩
    intro vs w5 LE AO AL AF AA
    have LBa := Ba
    replace Ba := Ba.drew.extN LE NotIn.nil
    replace E := E.drew.trans (LE.mono OY)
    obtain ⟨_, e12, k12⟩ := AL.2.2.2.2.2.2.2.2.2.2.2.2.1
    refine ew_sub (τ := [(4, _), (5, _), (11, .int .u64 18442240474082181120)]) ⟨rfl, rfl, congrArg some e12, trivial⟩ ?_
    clear AL AF AA LE AO OY e12 k12 LBa
    refine ew_next ?_
    refine cw_seq ?_
    refine cw_region ?_
    refine rs_op rfl (ow_move rfl ?_)
    refine rs_op rfl (ow_move rfl ?_)
    refine rs_op rfl (ow_assign rfl ?_)
    refine rs_op rfl (ow_assign rfl ?_)
    refine rs_nil ?_
    refine ew_next ?_
    refine cw_ret ?_
    refine ew_scope_ret ?_
    have e : slowF t = 18442240474082181120 := by unfold slowF; rw [hfb, hng]; decide +kernel
    refine ew_ret (rs := [.tmp 4, .tmp 5]) (vs := [_, _]) rfl ⟨rfl, rfl, trivial⟩ ?_
    exact ⟨by rw [e, hfb]; rfl, ⟨_, Ba⟩, (LW.step E XLW)⟩
   ·
    refine cw_skip ?_
    refine ew_next ?_
    refine cw_seq ?_
    refine cw_region ?_
    refine rs_op rfl (ow_move rfl ?_)
    refine rs_op rfl (ow_move rfl ?_)
    refine rs_op rfl (ow_assign rfl ?_)
    refine rs_op rfl (ow_assign rfl ?_)
    refine rs_nil ?_
    refine ew_next ?_
    refine cw_ret ?_
    refine ew_scope_ret ?_
    have e : slowF t = 9218868437227405312 := by unfold slowF; rw [hfb, hng]; decide +kernel
    refine ew_ret (rs := [.tmp 4, .tmp 5]) (vs := [_, _]) rfl ⟨rfl, rfl, trivial⟩ ?_
    exact ⟨by rw [e, hfb]; rfl, ⟨_, Ba⟩, (LW.step E XLW)⟩
  ·
   have h2 := of_decide_eq_false h2
   refine cw_skip ?_
   refine ew_next ?_
   refine cw_seq ?_
   refine cw_seq ?_
   refine cw_region ?_
   refine rs_op rfl (ow_move rfl ?_)
   refine rs_op rfl (ow_nilCheck rfl ?_)
   refine rs_op rfl (ow_fieldAddr Tryz.underlying193 rfl sz3 (by decide) rfl ?_)
   refine rs_op rfl (ow_loadF Tryz.underlying3 rfl rfl Ba (dpAt hl t.dp rfl) ?_)
   refine rs_op rfl (ow_lss rfl rfl ?_)
   refine rs_nil ?_
   refine ew_next ?_
   refine cw_cond rfl (fun h3 => ?_) (fun h3 => ?_)
   ·
    have h3 := of_decide_eq_true h3
    have hfb : fbAll t = (0, 0, false) := by unfold fbAll; rw [if_neg h1, if_neg h2, if_pos h3]
    refine cw_seq ?_
    refine cw_region ?_
    refine rs_op rfl (ow_assign rfl ?_)
    refine rs_nil ?_
    refine ew_next ?_
    refine cw_seq ?_
    refine cw_region ?_
    refine rs_op rfl (ow_move rfl ?_)
    refine rs_op rfl (ow_nilCheck rfl ?_)
    refine rs_op rfl (ow_fieldAddr Tryz.underlying206 rfl sz3 (by decide) rfl ?_)
    refine rs_op rfl (ow_load1 Tryz.underlying3 rfl rfl (HF.on E).here.2 ?_)
    refine rs_op rfl (ow_assign rfl ?_)
    refine rs_nil ?_
    refine ew_next ?_
    refine cw_goto ?_
    refine ew_then_goto ?_
    refine ew_scope_goto rfl ?_
    refine cw_seq ?_
    refine cw_skip ?_
    refine ew_next ?_
    refine cw_seq ?_
    refine cw_region ?_
    refine rs_op rfl (ow_move rfl ?_)
    refine rs_op rfl (ow_move rfl ?_)
    refine rs_op rfl (ow_nilCheck rfl ?_)
    refine rs_op rfl (ow_fieldAddr Tryz.underlying206 rfl sz144 (by decide) rfl ?_)
    refine rs_op rfl (ow_load1 Tryz.underlying144 rfl rfl (HF.on E).here.1.1.2 ?_)
    refine rs_op rfl (ow_shl (z := 4503599627370496) rfl rfl (by decide) (by kernel_rfl) ?_)
    refine rs_op rfl (ow_sub (z := 4503599627370495) rfl rfl (by kernel_rfl) ?_)
    refine rs_op rfl (ow_and (z := 0) rfl rfl (by kernel_rfl) ?_)
    refine rs_op rfl (ow_assign rfl ?_)
    refine rs_nil ?_
    refine ew_next ?_
    refine cw_seq ?_
    have OY : ∀ q9, (Mut (outM [])) q9 → q9 < (World.drew w).heap.size → (Mut [(some ga)]) q9 := fun k h _ => (Mut.none_) k h
    refine cw_drawn (Mut [(some ga)]) (Mut.grow Mut.none_ (some_lt Ba.lt)) [] [] (fxAt [Fx.of (.int .u64 0),
     Fx.of (.int .i64 (-1023)),
     Fx.of (.pointer (some ⟨8, 0, none⟩)),
     Fx.of (.pointer (some ⟨8, 0, none⟩)),
     Fx.of (.pointer (some ⟨8, 2, none⟩)),
     Fx.of (.int .i64 (-1023)),
     Fx.of (.int .i64 0),
     Fx.of (.pointer (some ⟨8, 0, none⟩)),
     Fx.of (.pointer (some ⟨8, 0, none⟩)),
     Fx.of (.pointer (some ⟨8, 1, none⟩)),
     Fx.of (.int .u64 11),
     Fx.of (.int .i64 2048),
     Fx.of (.int .i64 2047),
     Fx.of (.int .i64 0),
     Fx.of (.int .u64 0),
     Fx.of (.pointer (some ⟨8, 0, none⟩)),
     Fx.of (.pointer (some ⟨8, 0, none⟩)),
     Fx.of (.pointer (some ⟨8, 0, none⟩)),
     Fx.of (.int .u64 52),
     Fx.of (.int .u64 0),
     Fx.of (.int .u64 0),
     Fx.of (.int .u64 0)]) mixed rfl trivial (fun _ h => by cases h) ?_ ?_
    · refine ⟨?_, ?_, ?_, ?_, ?_, ?_, ?_, ?_, ?_, ?_, ?_, ?_, ?_, ?_, ?_, ?_, ?_, ?_, ?_, ?_, ?_, ?_, trivial⟩
      · intro vs X wq K
        have LE := K.1
        have XN := K.2.1
        have SQ := Nat.le_trans LW.size (Nat.le_trans E.size LE.size)
        exact ow_move rfl ⟨Below.refl _ _, Left.of rfl⟩
      · intro vs X wq K
        have LE := K.1
        have XN := K.2.1
        have SQ := Nat.le_trans LW.size (Nat.le_trans E.size LE.size)
        exact ow_move rfl ⟨Below.refl _ _, Left.of rfl⟩
      · intro vs X wq K
        have LE := K.1
        have XN := K.2.1
        have SQ := Nat.le_trans LW.size (Nat.le_trans E.size LE.size)
        exact ow_move rfl ⟨Below.refl _ _, Left.of rfl⟩
      · intro vs X wq K
        have LE := K.1
        have XN := K.2.1
        have SQ := Nat.le_trans LW.size (Nat.le_trans E.size LE.size)
        obtain ⟨_, e2, k2⟩ := K.dep 2 rfl rfl rfl
        refine ow_set 206 (.pointer (some ⟨8, 0, none⟩)) rfl e2 ?_
        exact ow_nilCheck rfl ⟨Below.refl _ _, Left.of rfl⟩
      · intro vs X wq K
        have LE := K.1
        have XN := K.2.1
        have SQ := Nat.le_trans LW.size (Nat.le_trans E.size LE.size)
        obtain ⟨_, e3, k3⟩ := K.dep 3 rfl rfl rfl
        refine ow_set 207 (.pointer (some ⟨8, 0, none⟩)) rfl e3 ?_
        exact ow_fieldAddr Tryz.underlying206 rfl sz3 (by decide) rfl ⟨Below.refl _ _, Left.of rfl⟩
      · intro vs X wq K
        have LE := K.1
        have XN := K.2.1
        have SQ := Nat.le_trans LW.size (Nat.le_trans E.size LE.size)
        obtain ⟨_, e4, k4⟩ := K.dep 4 rfl rfl rfl
        refine ow_set 208 (.pointer (some ⟨8, 2, none⟩)) rfl e4 ?_
        exact ow_load1 Tryz.underlying3 rfl rfl (HF.on (E.drew.trans (LE.mono OY))).here.2 ⟨Below.refl _ _, Left.of rfl⟩
      · intro vs X wq K
        have LE := K.1
        have XN := K.2.1
        have SQ := Nat.le_trans LW.size (Nat.le_trans E.size LE.size)
        obtain ⟨_, e1, k1⟩ := K.dep 1 rfl rfl rfl
        refine ow_set 205 (.int .i64 (-1023)) rfl e1 ?_
        obtain ⟨_, e5, k5⟩ := K.dep 5 rfl rfl rfl
        refine ow_set 209 (.int .i64 (-1023)) rfl e5 ?_
        exact ow_sub (z := 0) rfl rfl (by kernel_rfl) ⟨Below.refl _ _, Left.of rfl⟩
      · intro vs X wq K
        have LE := K.1
        have XN := K.2.1
        have SQ := Nat.le_trans LW.size (Nat.le_trans E.size LE.size)
        exact ow_move rfl ⟨Below.refl _ _, Left.of rfl⟩
      · intro vs X wq K
        have LE := K.1
        have XN := K.2.1
        have SQ := Nat.le_trans LW.size (Nat.le_trans E.size LE.size)
        obtain ⟨_, e7, k7⟩ := K.dep 7 rfl rfl rfl
        refine ow_set 211 (.pointer (some ⟨8, 0, none⟩)) rfl e7 ?_
        exact ow_nilCheck rfl ⟨Below.refl _ _, Left.of rfl⟩
      · intro vs X wq K
        have LE := K.1
        have XN := K.2.1
        have SQ := Nat.le_trans LW.size (Nat.le_trans E.size LE.size)
        obtain ⟨_, e8, k8⟩ := K.dep 8 rfl rfl rfl
        refine ow_set 212 (.pointer (some ⟨8, 0, none⟩)) rfl e8 ?_
        exact ow_fieldAddr Tryz.underlying206 rfl sz144 (by decide) rfl ⟨Below.refl _ _, Left.of rfl⟩
      · intro vs X wq K
        have LE := K.1
        have XN := K.2.1
        have SQ := Nat.le_trans LW.size (Nat.le_trans E.size LE.size)
        obtain ⟨_, e9, k9⟩ := K.dep 9 rfl rfl rfl
        refine ow_set 213 (.pointer (some ⟨8, 1, none⟩)) rfl e9 ?_
        exact ow_load1 Tryz.underlying144 rfl rfl (HF.on (E.drew.trans (LE.mono OY))).here.1.2 ⟨Below.refl _ _, Left.of rfl⟩
      · intro vs X wq K
        have LE := K.1
        have XN := K.2.1
        have SQ := Nat.le_trans LW.size (Nat.le_trans E.size LE.size)
        obtain ⟨_, e10, k10⟩ := K.dep 10 rfl rfl rfl
        refine ow_set 214 (.int .u64 11) rfl e10 ?_
        exact ow_shl (z := 2048) rfl rfl (by decide) (by kernel_rfl) ⟨Below.refl _ _, Left.of rfl⟩
      · intro vs X wq K
        have LE := K.1
        have XN := K.2.1
        have SQ := Nat.le_trans LW.size (Nat.le_trans E.size LE.size)
        obtain ⟨_, e11, k11⟩ := K.dep 11 rfl rfl rfl
        refine ow_set 215 (.int .i64 2048) rfl e11 ?_
        exact ow_sub (z := 2047) rfl rfl (by kernel_rfl) ⟨Below.refl _ _, Left.of rfl⟩
      · intro vs X wq K
        have LE := K.1
        have XN := K.2.1
        have SQ := Nat.le_trans LW.size (Nat.le_trans E.size LE.size)
        obtain ⟨_, e6, k6⟩ := K.dep 6 rfl rfl rfl
        refine ow_set 210 (.int .i64 0) rfl e6 ?_
        obtain ⟨_, e12, k12⟩ := K.dep 12 rfl rfl rfl
        refine ow_set 216 (.int .i64 2047) rfl e12 ?_
        exact ow_and (z := 0) rfl rfl (by kernel_rfl) ⟨Below.refl _ _, Left.of rfl⟩
      · intro vs X wq K
        have LE := K.1
        have XN := K.2.1
        have SQ := Nat.le_trans LW.size (Nat.le_trans E.size LE.size)
        obtain ⟨_, e13, k13⟩ := K.dep 13 rfl rfl rfl
        refine ow_set 217 (.int .i64 0) rfl e13 ?_
        exact ow_conv (z := 0) Tryz.underlying32 Tryz.underlying3 rfl (by kernel_rfl) ⟨Below.refl _ _, Left.of rfl⟩
      · intro vs X wq K
        have LE := K.1
        have XN := K.2.1
        have SQ := Nat.le_trans LW.size (Nat.le_trans E.size LE.size)
        exact ow_move rfl ⟨Below.refl _ _, Left.of rfl⟩
      · intro vs X wq K
        have LE := K.1
        have XN := K.2.1
        have SQ := Nat.le_trans LW.size (Nat.le_trans E.size LE.size)
        obtain ⟨_, e15, k15⟩ := K.dep 15 rfl rfl rfl
        refine ow_set 219 (.pointer (some ⟨8, 0, none⟩)) rfl e15 ?_
        exact ow_nilCheck rfl ⟨Below.refl _ _, Left.of rfl⟩
      · intro vs X wq K
        have LE := K.1
        have XN := K.2.1
        have SQ := Nat.le_trans LW.size (Nat.le_trans E.size LE.size)
        obtain ⟨_, e16, k16⟩ := K.dep 16 rfl rfl rfl
        refine ow_set 220 (.pointer (some ⟨8, 0, none⟩)) rfl e16 ?_
        exact ow_fieldAddr Tryz.underlying206 rfl sz144 (by decide) rfl ⟨Below.refl _ _, Left.of rfl⟩
      · intro vs X wq K
        have LE := K.1
        have XN := K.2.1
        have SQ := Nat.le_trans LW.size (Nat.le_trans E.size LE.size)
        obtain ⟨_, e17, k17⟩ := K.dep 17 rfl rfl rfl
        refine ow_set 221 (.pointer (some ⟨8, 0, none⟩)) rfl e17 ?_
        exact ow_load1 Tryz.underlying144 rfl rfl (HF.on (E.drew.trans (LE.mono OY))).here.1.1.2 ⟨Below.refl _ _, Left.of rfl⟩
      · intro vs X wq K
        have LE := K.1
        have XN := K.2.1
        have SQ := Nat.le_trans LW.size (Nat.le_trans E.size LE.size)
        obtain ⟨_, e14, k14⟩ := K.dep 14 rfl rfl rfl
        refine ow_set 218 (.int .u64 0) rfl e14 ?_
        obtain ⟨_, e18, k18⟩ := K.dep 18 rfl rfl rfl
        refine ow_set 222 (.int .u64 52) rfl e18 ?_
        exact ow_shl (z := 0) rfl rfl (by decide) (by kernel_rfl) ⟨Below.refl _ _, Left.of rfl⟩
      · intro vs X wq K
        have LE := K.1
        have XN := K.2.1
        have SQ := Nat.le_trans LW.size (Nat.le_trans E.size LE.size)
        obtain ⟨_, e0, k0⟩ := K.dep 0 rfl rfl rfl
        refine ow_set 204 (.int .u64 0) rfl e0 ?_
        obtain ⟨_, e19, k19⟩ := K.dep 19 rfl rfl rfl
        refine ow_set 223 (.int .u64 0) rfl e19 ?_
        exact ow_or (z := 0) rfl rfl (by kernel_rfl) ⟨Below.refl _ _, Left.of rfl⟩
      · intro vs X wq K
        have LE := K.1
        have XN := K.2.1
        have SQ := Nat.le_trans LW.size (Nat.le_trans E.size LE.size)
        obtain ⟨_, e20, k20⟩ := K.dep 20 rfl rfl rfl
        refine ow_set 224 (.int .u64 0) rfl e20 ?_
        exact ow_assign rfl ⟨Below.refl _ _, Left.of rfl⟩
    intro vs w6 LE AO AL AF AA
    have LBa := Ba
    replace Ba := Ba.drew.extN LE NotIn.nil
    replace E := E.drew.trans (LE.mono OY)
    obtain ⟨_, e21, k21⟩ := AL.2.2.2.2.2.2.2.2.2.2.2.2.2.2.2.2.2.2.2.2.2.1
    refine ew_sub (τ := [(0, _), (1, _), (4, _), (5, _), (11, .int .u64 0)]) ⟨rfl, rfl, rfl, rfl, congrArg some e21, trivial⟩ ?_
    clear AL AF AA LE AO OY e21 k21 LBa
    refine ew_next ?_
    refine cw_seq ?_
    refine cw_seq ?_
    refine cw_region ?_
    refine rs_op rfl (ow_move rfl ?_)
    refine rs_op rfl (ow_nilCheck rfl ?_)
    refine rs_op rfl (ow_fieldAddr Tryz.underlying193 rfl sz4 (by decide) rfl ?_)
    refine rs_op rfl (ow_loadF Tryz.underlying4 rfl rfl Ba (ngAt hl t.neg rfl) ?_)
    refine rs_nil ?_
    refine ew_next ?_
    refine cw_cond rfl (fun hng => ?_) (fun hng => ?_)
    ·
     have OY : ∀ q9, (Mut (outM [])) q9 → q9 < (World.drew w6).heap.size → (Mut [(some ga)]) q9 := fun k h _ => (Mut.none_) k h
     refine cw_drawn (Mut [(some ga)]) (Mut.grow Mut.none_ (some_lt Ba.lt)) [] [] (fxAt [Fx.of (.int .u64 0),
      Fx.of (.pointer (some ⟨8, 0, none⟩)),
      Fx.of (.pointer (some ⟨8, 0, none⟩)),
      Fx.of (.pointer (some ⟨8, 0, none⟩)),
      Fx.of (.int .u64 52),
      Fx.of (.int .u64 4503599627370496),
      Fx.of (.pointer (some ⟨8, 0, none⟩)),
      Fx.of (.pointer (some ⟨8, 0, none⟩)),
      Fx.of (.pointer (some ⟨8, 1, none⟩)),
      Fx.of (.int .u64 11),
      Fx.of (.int .u64 9223372036854775808),
      Fx.of (.int .u64 9223372036854775808),
      Fx.of (.int .u64 9223372036854775808)]) mixed rfl trivial (fun _ h => by cases h) ?_ ?_
     · refine ⟨?_, ?_, ?_, ?_, ?_, ?_, ?_, ?_, ?_, ?_, ?_, ?_, ?_, trivial⟩
       · intro vs X wq K
         have LE := K.1
         have XN := K.2.1
         have SQ := Nat.le_trans LW.size (Nat.le_trans E.size LE.size)
         exact ow_move rfl ⟨Below.refl _ _, Left.of rfl⟩
       · intro vs X wq K
         have LE := K.1
         have XN := K.2.1
         have SQ := Nat.le_trans LW.size (Nat.le_trans E.size LE.size)
         exact ow_move rfl ⟨Below.refl _ _, Left.of rfl⟩
       · intro vs X wq K
         have LE := K.1
         have XN := K.2.1
         have SQ := Nat.le_trans LW.size (Nat.le_trans E.size LE.size)
         obtain ⟨_, e1, k1⟩ := K.dep 1 rfl rfl rfl
         refine ow_set 230 (.pointer (some ⟨8, 0, none⟩)) rfl e1 ?_
         exact ow_nilCheck rfl ⟨Below.refl _ _, Left.of rfl⟩
       · intro vs X wq K
         have LE := K.1
         have XN := K.2.1
         have SQ := Nat.le_trans LW.size (Nat.le_trans E.size LE.size)
         obtain ⟨_, e2, k2⟩ := K.dep 2 rfl rfl rfl
         refine ow_set 231 (.pointer (some ⟨8, 0, none⟩)) rfl e2 ?_
         exact ow_fieldAddr Tryz.underlying206 rfl sz144 (by decide) rfl ⟨Below.refl _ _, Left.of rfl⟩
       · intro vs X wq K
         have LE := K.1
         have XN := K.2.1
         have SQ := Nat.le_trans LW.size (Nat.le_trans E.size LE.size)
         obtain ⟨_, e3, k3⟩ := K.dep 3 rfl rfl rfl
         refine ow_set 232 (.pointer (some ⟨8, 0, none⟩)) rfl e3 ?_
         exact ow_load1 Tryz.underlying144 rfl rfl (HF.on (E.drew.trans (LE.mono OY))).here.1.1.2 ⟨Below.refl _ _, Left.of rfl⟩
       · intro vs X wq K
         have LE := K.1
         have XN := K.2.1
         have SQ := Nat.le_trans LW.size (Nat.le_trans E.size LE.size)
         obtain ⟨_, e4, k4⟩ := K.dep 4 rfl rfl rfl
         refine ow_set 233 (.int .u64 52) rfl e4 ?_
         exact ow_shl (z := 4503599627370496) rfl rfl (by decide) (by kernel_rfl) ⟨Below.refl _ _, Left.of rfl⟩
       · intro vs X wq K
         have LE := K.1
         have XN := K.2.1
         have SQ := Nat.le_trans LW.size (Nat.le_trans E.size LE.size)
         exact ow_move rfl ⟨Below.refl _ _, Left.of rfl⟩
       · intro vs X wq K
         have LE := K.1
         have XN := K.2.1
         have SQ := Nat.le_trans LW.size (Nat.le_trans E.size LE.size)
         obtain ⟨_, e6, k6⟩ := K.dep 6 rfl rfl rfl
         refine ow_set 235 (.pointer (some ⟨8, 0, none⟩)) rfl e6 ?_
         exact ow_nilCheck rfl ⟨Below.refl _ _, Left.of rfl⟩
       · intro vs X wq K
         have LE := K.1
         have XN := K.2.1
         have SQ := Nat.le_trans LW.size (Nat.le_trans E.size LE.size)
         obtain ⟨_, e7, k7⟩ := K.dep 7 rfl rfl rfl
         refine ow_set 236 (.pointer (some ⟨8, 0, none⟩)) rfl e7 ?_
         exact ow_fieldAddr Tryz.underlying206 rfl sz144 (by decide) rfl ⟨Below.refl _ _, Left.of rfl⟩
       · intro vs X wq K
         have LE := K.1
         have XN := K.2.1
         have SQ := Nat.le_trans LW.size (Nat.le_trans E.size LE.size)
         obtain ⟨_, e8, k8⟩ := K.dep 8 rfl rfl rfl
         refine ow_set 237 (.pointer (some ⟨8, 1, none⟩)) rfl e8 ?_
         exact ow_load1 Tryz.underlying144 rfl rfl (HF.on (E.drew.trans (LE.mono OY))).here.1.2 ⟨Below.refl _ _, Left.of rfl⟩
       · intro vs X wq K
         have LE := K.1
         have XN := K.2.1
         have SQ := Nat.le_trans LW.size (Nat.le_trans E.size LE.size)
         obtain ⟨_, e5, k5⟩ := K.dep 5 rfl rfl rfl
         refine ow_set 234 (.int .u64 4503599627370496) rfl e5 ?_
         obtain ⟨_, e9, k9⟩ := K.dep 9 rfl rfl rfl
         refine ow_set 238 (.int .u64 11) rfl e9 ?_
         exact ow_shl (z := 9223372036854775808) rfl rfl (by decide) (by kernel_rfl) ⟨Below.refl _ _, Left.of rfl⟩
       · intro vs X wq K
         have LE := K.1
         have XN := K.2.1
         have SQ := Nat.le_trans LW.size (Nat.le_trans E.size LE.size)
         obtain ⟨_, e0, k0⟩ := K.dep 0 rfl rfl rfl
         refine ow_set 229 (.int .u64 0) rfl e0 ?_
         obtain ⟨_, e10, k10⟩ := K.dep 10 rfl rfl rfl
         refine ow_set 239 (.int .u64 9223372036854775808) rfl e10 ?_
         exact ow_or (z := 9223372036854775808) rfl rfl (by kernel_rfl) ⟨Below.refl _ _, Left.of rfl⟩
       · intro vs X wq K
         have LE := K.1
         have XN := K.2.1
         have SQ := Nat.le_trans LW.size (Nat.le_trans E.size LE.size)
         obtain ⟨_, e11, k11⟩ := K.dep 11 rfl rfl rfl
         refine ow_set 240 (.int .u64 9223372036854775808) rfl e11 ?_
         exact ow_assign rfl ⟨Below.refl _ _, Left.of rfl⟩
     intro vs w7 LE AO AL AF AA
     have LBa := Ba
     replace Ba := Ba.drew.extN LE NotIn.nil
     replace E := E.drew.trans (LE.mono OY)
     obtain ⟨_, e12, k12⟩ := AL.2.2.2.2.2.2.2.2.2.2.2.2.1
     refine ew_sub (τ := [(4, _), (5, _), (11, .int .u64 9223372036854775808)]) ⟨rfl, rfl, congrArg some e12, trivial⟩ ?_
     clear AL AF AA LE AO OY e12 k12 LBa
     refine ew_next ?_
     refine cw_seq ?_
     refine cw_region ?_
     refine rs_op rfl (ow_move rfl ?_)
     refine rs_op rfl (ow_move rfl ?_)
     refine rs_op rfl (ow_assign rfl ?_)
     refine rs_op rfl (ow_assign rfl ?_)
     refine rs_nil ?_
     refine ew_next ?_
     refine cw_ret ?_
     refine ew_scope_ret ?_
     have e : slowF t = 9223372036854775808 := by unfold slowF; rw [hfb, hng]; decide +kernel
     refine ew_ret (rs := [.tmp 4, .tmp 5]) (vs := [_, _]) rfl ⟨rfl, rfl, trivial⟩ ?_
     exact ⟨by rw [e, hfb]; rfl, ⟨_, Ba⟩, (LW.step E XLW)⟩
    ·
     refine cw_skip ?_
     refine ew_next ?_
     refine cw_seq ?_
     refine cw_region ?_
     refine rs_op rfl (ow_move rfl ?_)
     refine rs_op rfl (ow_move rfl ?_)
     refine rs_op rfl (ow_assign rfl ?_)
     refine rs_op rfl (ow_assign rfl ?_)
     refine rs_nil ?_
     refine ew_next ?_
     refine cw_ret ?_
     refine ew_scope_ret ?_
     have e : slowF t = 0 := by unfold slowF; rw [hfb, hng]; decide +kernel
     refine ew_ret (rs := [.tmp 4, .tmp 5]) (vs := [_, _]) rfl ⟨rfl, rfl, trivial⟩ ?_
     exact ⟨by rw [e, hfb]; rfl, ⟨_, Ba⟩, (LW.step E XLW)⟩
   ·
    have h3 := of_decide_eq_false h3
    have hpos : 0 < t.nd := by omega
    have hfb0 : fbAll t = fbMid (fbL t).t ((fbL t).e - 1) := by unfold fbAll; rw [if_neg h1, if_neg h2, if_neg h3]
    refine cw_skip ?_
    refine ew_next ?_
    refine cw_seq ?_
    refine cw_region ?_
    refine rs_op rfl (ow_assign rfl ?_)
    refine rs_nil ?_
    refine ew_next ?_
    refine cw_seq ?_
    replace HF := HF.on E
    replace LW := LW.step E XLW
    replace E := Ext.refl (Mut [(some ga)]) w
    refine cw_join (ι := FbS) (fun s => [(0, .pointer (some ⟨ga, 0, none⟩)), (1, .pointer (some ⟨8, 0, none⟩)), (4, .int .u64 0), (5, .bool false), (6, .int .i64 s.e), (7, .int .u64 0)]) (fun s w' => Ext (Mut [(some ga)]) w w' ∧ Blk w' ga 193 (decC s.t) ∧ (s = fbR t)) ?_ ?_
    ·
     have M8 := Ext.refl (Mut [(some ga)]) w
     have XM8 : ∀ q9, (Mut [(some ga)]) q9 → (Mut [(some ga)]) q9 ∨ w.heap.size ≤ q9 := fun _ h => Or.inl h
     refine cw_block ?_
     replace HF := HF.on E
     replace LW := LW.step E XLW
     replace M8 := M8.step E XM8
     replace E := Ext.refl (Mut [(some ga)]) w
     refine cw_loop (ι := FbS) (fun s => [(0, .pointer (some ⟨ga, 0, none⟩)), (1, .pointer (some ⟨8, 0, none⟩)), (4, .int .u64 0), (5, .bool false), (6, .int .i64 s.e), (7, .int .u64 0)]) (fun s w' => Ext (Mut [(some ga)]) w w' ∧ Blk w' ga 193 (decC s.t) ∧ (FbRI s ∧ until_ fbDoneR fbStepR s = fbR t)) (fun s => msR s.t) (⟨t, 0⟩) ⟨rfl, rfl, rfl, rfl, rfl, rfl, trivial⟩ ⟨Ext.refl _ _, (by exact Ba), fbR_start ht hpos (by omega), rfl⟩ ?_
     have LTa := (some_lt Ba.lt)
     clear Ba
     rintro s w11 ⟨M10, Ba, ⟨hI, hu⟩⟩
     have XM10 : ∀ q9, (Mut [(some ga)]) q9 → (Mut [(some ga)]) q9 ∨ w.heap.size ≤ q9 := (Mut.grow Mut.none_ (fun k e => Or.inl (Mut.head k e)))
     replace E := E.trans M10
     replace HF := HF.on E
     replace LW := LW.step E XLW
     replace M8 := M8.step E XM8
     replace E := Ext.refl (Mut [(some ga)]) w11
     clear LTa
     have hls := hI.dec.len
     have hsd := hI.dp
     have hse := hI.e
     have hsp := hI.pos
     refine cw_seq ?_
     refine cw_seq ?_
     refine cw_region ?_
     refine rs_op rfl (ow_move rfl ?_)
     refine rs_op rfl (ow_nilCheck rfl ?_)
     refine rs_op rfl (ow_fieldAddr Tryz.underlying193 rfl sz3 (by decide) rfl ?_)
     refine rs_op rfl (ow_loadF Tryz.underlying3 rfl rfl Ba (dpAt hls s.t.dp rfl) ?_)
     refine rs_op rfl (ow_gtr rfl rfl ?_)
     refine rs_nil ?_
     refine ew_next ?_
     refine cw_cond rfl (fun h4 => ?_) (fun h4 => ?_)
     ·
      have h4 := of_decide_eq_true h4
      have hdone : fbDoneR s = false := decide_eq_false (by omega)
      obtain ⟨hkeep, hms⟩ := fbR_keeps hI hdone
      obtain ⟨P, hP⟩ : ∃ P, P = pt s.t.dp.toNat := ⟨_, rfl⟩
      have hP1 := pt_le s.t.dp.toNat
      have hst : fbStepR s = ⟨rshift s.t P, s.e + ((P : Nat) : Int)⟩ := by rw [hP]; rfl
      rw [← hP] at hP1
      rw [until_next hdone] at hu
      rw [hst] at hu hkeep hms
      refine cw_skip ?_
      refine ew_next ?_
      refine cw_block ?_
      refine cw_seq ?_
      refine cw_region ?_
      refine rs_op rfl (ow_assign rfl ?_)
      refine rs_nil ?_
      refine ew_next ?_
      refine cw_seq ?_
      refine cw_seq ?_
      replace HF := HF.on E
      replace LW := LW.step E XLW
      replace M8 := M8.step E XM8
      replace M10 := M10.step E XM10
      replace E := Ext.refl (Mut [(some ga)]) w11
      refine cw_join (ι := Bool) (fun g => [(0, .pointer (some ⟨ga, 0, none⟩)), (1, .pointer (some ⟨8, 0, none⟩)), (4, .int .u64 0), (5, .bool false), (6, .int .i64 s.e), (7, .int .u64 0), (8, .int .i64 0), (46, .bool g)]) (fun g w' => Ext (Mut [(some ga)]) w11 w' ∧ Blk w' ga 193 (decC s.t) ∧ (g = decide (9 ≤ s.t.dp))) ?_ ?_
      ·
       have M12 := Ext.refl (Mut [(some ga)]) w11
       have XM12 : ∀ q9, (Mut [(some ga)]) q9 → (Mut [(some ga)]) q9 ∨ w11.heap.size ≤ q9 := fun _ h => Or.inl h
       have OY : ∀ q9, (Mut (outM [])) q9 → q9 < (World.drew w11).heap.size → (Mut [(some ga)]) q9 := fun k h _ => (Mut.none_) k h
       refine cw_drawn (Mut [(some ga)]) (Mut.grow Mut.none_ (some_lt Ba.lt)) [] [] (fxAt [Fx.of (.pointer (some ⟨ga, 0, none⟩)),
        Fx.of (.pointer (some ⟨ga, 0, none⟩)),
        Fx.of (.pointer (some ⟨ga, 801, none⟩)),
        Fx.of (.int .i64 s.t.dp),
        Fx.of (.slice (some ⟨bp, op, none⟩) 9 cp),
        Fx.of (.int .i64 9),
        Fx.of (.bool (decide (9 ≤ s.t.dp)))]) mixed rfl trivial (fun _ h => by cases h) ?_ ?_
       · refine ⟨?_, ?_, ?_, ?_, ?_, ?_, ?_, trivial⟩
         · intro vs X wq K
           have LE := K.1
           have XN := K.2.1
           have SQ := Nat.le_trans LW.size (Nat.le_trans E.size LE.size)
           exact ow_move rfl ⟨Below.refl _ _, Left.of rfl⟩
         · intro vs X wq K
           have LE := K.1
           have XN := K.2.1
           have SQ := Nat.le_trans LW.size (Nat.le_trans E.size LE.size)
           obtain ⟨_, e0, k0⟩ := K.dep 0 rfl rfl rfl
           refine ow_set 40 (.pointer (some ⟨ga, 0, none⟩)) rfl e0 ?_
           exact ow_nilCheck rfl ⟨Below.refl _ _, Left.of rfl⟩
         · intro vs X wq K
           have LE := K.1
           have XN := K.2.1
           have SQ := Nat.le_trans LW.size (Nat.le_trans E.size LE.size)
           obtain ⟨_, e1, k1⟩ := K.dep 1 rfl rfl rfl
           refine ow_set 41 (.pointer (some ⟨ga, 0, none⟩)) rfl e1 ?_
           exact ow_fieldAddr Tryz.underlying193 rfl sz3 (by decide) rfl ⟨Below.refl _ _, Left.of rfl⟩
         · intro vs X wq K
           have LE := K.1
           have XN := K.2.1
           have SQ := Nat.le_trans LW.size (Nat.le_trans E.size LE.size)
           obtain ⟨_, e2, k2⟩ := K.dep 2 rfl rfl rfl
           refine ow_set 42 (.pointer (some ⟨ga, 801, none⟩)) rfl e2 ?_
           exact ow_loadF Tryz.underlying3 rfl rfl (Ba.drew.extN LE NotIn.nil) (dpAt hls s.t.dp rfl) ⟨Below.refl _ _, Left.of rfl⟩
         · intro vs X wq K
           have LE := K.1
           have XN := K.2.1
           have SQ := Nat.le_trans LW.size (Nat.le_trans E.size LE.size)
           exact ow_load1 Tryz.underlying71 rfl rfl (HF.on (E.drew.trans (LE.mono OY))).here.1.1.1.2.powtab.head ⟨Below.refl _ _, Left.of rfl⟩
         · intro vs X wq K
           have LE := K.1
           have XN := K.2.1
           have SQ := Nat.le_trans LW.size (Nat.le_trans E.size LE.size)
           obtain ⟨_, e4, k4⟩ := K.dep 4 rfl rfl rfl
           refine ow_set 44 (.slice (some ⟨bp, op, none⟩) 9 cp) rfl e4 ?_
           exact ow_len Tryz.underlying71 rfl ⟨Below.refl _ _, Left.of rfl⟩
         · intro vs X wq K
           have LE := K.1
           have XN := K.2.1
           have SQ := Nat.le_trans LW.size (Nat.le_trans E.size LE.size)
           obtain ⟨_, e3, k3⟩ := K.dep 3 rfl rfl rfl
           refine ow_set 43 (.int .i64 s.t.dp) rfl e3 ?_
           obtain ⟨_, e5, k5⟩ := K.dep 5 rfl rfl rfl
           refine ow_set 45 (.int .i64 9) rfl e5 ?_
           exact ow_geq rfl rfl ⟨Below.refl _ _, Left.of rfl⟩
       intro vs w14 LE AO AL AF AA
       have LBa := Ba
       replace Ba := Ba.drew.extN LE NotIn.nil
       replace E := E.drew.trans (LE.mono OY)
       obtain ⟨_, e6, k6⟩ := AL.2.2.2.2.2.2.1
       refine ew_sub (τ := [(0, _), (1, _), (4, _), (5, _), (6, _), (7, _), (8, _), (46, .bool (decide (9 ≤ s.t.dp)))]) ⟨rfl, rfl, rfl, rfl, rfl, rfl, rfl, congrArg some e6, trivial⟩ ?_
       clear AL AF AA LE AO OY e6 k6 LBa
       exact ew_mid (decide (9 ≤ s.t.dp)) ⟨rfl, rfl, rfl, rfl, rfl, rfl, rfl, rfl, trivial⟩ ⟨M12.step E XM12, (by exact Ba), rfl⟩
      ·
       have LTa := (some_lt Ba.lt)
       clear Ba
       rintro g w13 ⟨M12, Ba, hgg⟩
       have XM12 : ∀ q9, (Mut [(some ga)]) q9 → (Mut [(some ga)]) q9 ∨ w11.heap.size ≤ q9 := (Mut.grow Mut.none_ (fun k e => Or.inl (Mut.head k e)))
       replace E := E.trans M12
       replace HF := HF.on E
       replace LW := LW.step E XLW
       replace M8 := M8.step E XM8
       replace M10 := M10.step E XM10
       replace E := Ext.refl (Mut [(some ga)]) w13
       clear LTa
       replace HF := HF.on E
       replace LW := LW.step E XLW
       replace M8 := M8.step E XM8
       replace M10 := M10.step E XM10
       replace E := Ext.refl (Mut [(some ga)]) w13
       refine cw_join (ι := Unit) (fun _ => [(0, .pointer (some ⟨ga, 0, none⟩)), (1, .pointer (some ⟨8, 0, none⟩)), (4, .int .u64 0), (5, .bool false), (6, .int .i64 s.e), (7, .int .u64 0), (8, .int .i64 ((P : Nat) : Int))]) (fun _ w' => Ext (Mut [(some ga)]) w13 w' ∧ Blk w' ga 193 (decC s.t) ∧ (True)) ?_ ?_
       ·
        have M15 := Ext.refl (Mut [(some ga)]) w13
        have XM15 : ∀ q9, (Mut [(some ga)]) q9 → (Mut [(some ga)]) q9 ∨ w13.heap.size ≤ q9 := fun _ h => Or.inl h
        refine cw_cond rfl (fun h5 => ?_) (fun h5 => ?_)
        ·
         rw [hgg] at h5
         have h5 := of_decide_eq_true h5
         have e : P = 27 := by rw [hP]; exact pt_far (by omega)
         refine cw_region ?_
         refine rs_op rfl (ow_assign rfl ?_)
         refine rs_nil ?_
         refine ew_set 8 (.int .i64 ((P : Nat) : Int)) rfl ((by rw [e]; rfl : (.int .i64 27 : Value) = _)) ?_
         exact ew_mid () ⟨rfl, rfl, rfl, rfl, rfl, rfl, rfl, trivial⟩ ⟨M15.step E XM15, (by exact Ba), trivial⟩
        ·
         rw [hgg] at h5
         have h5 := of_decide_eq_false h5
         have OY : ∀ q9, (Mut (outM [])) q9 → q9 < (World.drew w13).heap.size → (Mut [(some ga)]) q9 := fun k h _ => (Mut.none_) k h
         refine cw_drawn (Mut [(some ga)]) (Mut.grow Mut.none_ (some_lt Ba.lt)) [] [] (fxAt [Fx.of (.slice (some ⟨bp, op, none⟩) 9 cp),
          Fx.of (.pointer (some ⟨ga, 0, none⟩)),
          Fx.of (.pointer (some ⟨ga, 0, none⟩)),
          Fx.of (.pointer (some ⟨ga, 801, none⟩)),
          Fx.of (.int .i64 s.t.dp),
          Fx.of (.pointer (some ⟨bp, op + s.t.dp.toNat * 1, none⟩)),
          Fx.of (.int .i64 ((pt s.t.dp.toNat : Nat) : Int)),
          Fx.of (.int .i64 ((pt s.t.dp.toNat : Nat) : Int))]) mixed rfl trivial (fun _ h => by cases h) ?_ ?_
         · refine ⟨?_, ?_, ?_, ?_, ?_, ?_, ?_, ?_, trivial⟩
           · intro vs X wq K
             have LE := K.1
             have XN := K.2.1
             have SQ := Nat.le_trans LW.size (Nat.le_trans E.size LE.size)
             exact ow_load1 Tryz.underlying71 rfl rfl (HF.on (E.drew.trans (LE.mono OY))).here.1.1.1.2.powtab.head ⟨Below.refl _ _, Left.of rfl⟩
           · intro vs X wq K
             have LE := K.1
             have XN := K.2.1
             have SQ := Nat.le_trans LW.size (Nat.le_trans E.size LE.size)
             exact ow_move rfl ⟨Below.refl _ _, Left.of rfl⟩
           · intro vs X wq K
             have LE := K.1
             have XN := K.2.1
             have SQ := Nat.le_trans LW.size (Nat.le_trans E.size LE.size)
             obtain ⟨_, e1, k1⟩ := K.dep 1 rfl rfl rfl
             refine ow_set 48 (.pointer (some ⟨ga, 0, none⟩)) rfl e1 ?_
             exact ow_nilCheck rfl ⟨Below.refl _ _, Left.of rfl⟩
           · intro vs X wq K
             have LE := K.1
             have XN := K.2.1
             have SQ := Nat.le_trans LW.size (Nat.le_trans E.size LE.size)
             obtain ⟨_, e2, k2⟩ := K.dep 2 rfl rfl rfl
             refine ow_set 49 (.pointer (some ⟨ga, 0, none⟩)) rfl e2 ?_
             exact ow_fieldAddr Tryz.underlying193 rfl sz3 (by decide) rfl ⟨Below.refl _ _, Left.of rfl⟩
           · intro vs X wq K
             have LE := K.1
             have XN := K.2.1
             have SQ := Nat.le_trans LW.size (Nat.le_trans E.size LE.size)
             obtain ⟨_, e3, k3⟩ := K.dep 3 rfl rfl rfl
             refine ow_set 50 (.pointer (some ⟨ga, 801, none⟩)) rfl e3 ?_
             exact ow_loadF Tryz.underlying3 rfl rfl (Ba.drew.extN LE NotIn.nil) (dpAt hls s.t.dp rfl) ⟨Below.refl _ _, Left.of rfl⟩
           · intro vs X wq K
             have LE := K.1
             have XN := K.2.1
             have SQ := Nat.le_trans LW.size (Nat.le_trans E.size LE.size)
             obtain ⟨_, e0, k0⟩ := K.dep 0 rfl rfl rfl
             refine ow_set 47 (.slice (some ⟨bp, op, none⟩) 9 cp) rfl e0 ?_
             obtain ⟨_, e4, k4⟩ := K.dep 4 rfl rfl rfl
             refine ow_set 51 (.int .i64 s.t.dp) rfl e4 ?_
             exact ow_indexAddr (j := s.t.dp.toNat) Tryz.underlying71 sz3 rfl rfl (by omega) (by omega) ⟨Below.refl _ _, Left.of rfl⟩
           · intro vs X wq K
             have LE := K.1
             have XN := K.2.1
             have SQ := Nat.le_trans LW.size (Nat.le_trans E.size LE.size)
             obtain ⟨_, e5, k5⟩ := K.dep 5 rfl rfl rfl
             refine ow_set 52 (.pointer (some ⟨bp, op + s.t.dp.toNat * 1, none⟩)) rfl e5 ?_
             exact ow_load1 Tryz.underlying3 rfl rfl (by rw [Nat.mul_one]; exact (HF.on (E.drew.trans (LE.mono OY))).here.1.1.1.2.powtab.cells _ _ (powtab_at (by omega))) ⟨Below.refl _ _, Left.of rfl⟩
           · intro vs X wq K
             have LE := K.1
             have XN := K.2.1
             have SQ := Nat.le_trans LW.size (Nat.le_trans E.size LE.size)
             obtain ⟨_, e6, k6⟩ := K.dep 6 rfl rfl rfl
             refine ow_set 53 (.int .i64 ((pt s.t.dp.toNat : Nat) : Int)) rfl e6 ?_
             exact ow_assign rfl ⟨Below.refl _ _, Left.of rfl⟩
         intro vs w17 LE AO AL AF AA
         have LBa := Ba
         replace Ba := Ba.drew.extN LE NotIn.nil
         replace E := E.drew.trans (LE.mono OY)
         obtain ⟨_, e7, k7⟩ := AL.2.2.2.2.2.2.2.1
         refine ew_sub (τ := [(0, _), (1, _), (4, _), (5, _), (6, _), (7, _), (8, .int .i64 ((pt s.t.dp.toNat : Nat) : Int))]) ⟨rfl, rfl, rfl, rfl, rfl, rfl, congrArg some e7, trivial⟩ ?_
         clear AL AF AA LE AO OY e7 k7 LBa
         refine ew_set 8 (.int .i64 ((P : Nat) : Int)) rfl ((by rw [hP] : (.int .i64 ((pt s.t.dp.toNat : Nat) : Int) : Value) = _)) ?_
         exact ew_mid () ⟨rfl, rfl, rfl, rfl, rfl, rfl, rfl, trivial⟩ ⟨M15.step E XM15, (by exact Ba), trivial⟩
       ·
        have LTa := (some_lt Ba.lt)
        clear Ba
        rintro _ w16 ⟨M15, Ba, _⟩
        have XM15 : ∀ q9, (Mut [(some ga)]) q9 → (Mut [(some ga)]) q9 ∨ w13.heap.size ≤ q9 := (Mut.grow Mut.none_ (fun k e => Or.inl (Mut.head k e)))
        replace E := E.trans M15
        replace HF := HF.on E
        replace LW := LW.step E XLW
        replace M8 := M8.step E XM8
        replace M10 := M10.step E XM10
        replace E := Ext.refl (Mut [(some ga)]) w16
        clear LTa
        refine cw_seq ?_
        refine cw_region ?_
        refine rs_op rfl (ow_move rfl ?_)
        refine rs_op rfl (ow_move rfl ?_)
        refine rs_op rfl (ow_neg rfl (wrap_i64 (by omega)) ?_)
        refine rs_set 56 (.int .i64 (-((P : Nat) : Int))) rfl ((by congr 1; omega : (.int .i64 (0 - ((P : Nat) : Int)) : Value) = _)) ?_
        refine rs_op rfl (ow_enter en162 rfl ((shiftR_any _ ga P s.t ⟨hI.dec, hsp, by show 1 ≤ P ∧ P ≤ 300000; omega, by show -10000000 + 15 * ((P : Nat) : Int) ≤ s.t.dp ∧ s.t.dp ≤ 1000000; omega⟩ Ba).mono ?_))
        rintro e w18 ⟨rfl, hB, hE⟩
        refine ⟨_, rfl, ?_⟩
        replace Ba := hB
        clear hB
        replace E := E.step1 hE Mut.head
        clear hE
        replace Ba : Blk w18 ga 193 (decC (rshift s.t P)) := by rw [← shrD_one (by omega)]; exact Ba
        refine rs_nil ?_
        refine ew_next ?_
        refine cw_region ?_
        refine rs_op rfl (ow_move rfl ?_)
        refine rs_op rfl (ow_move rfl ?_)
        refine rs_op rfl (ow_add rfl rfl (wrap_i64 (by omega)) ?_)
        refine rs_op rfl (ow_assign rfl ?_)
        refine rs_nil ?_
        refine ew_block_normal ?_
        exact ew_round (ι := FbS) (s := fun s => [(0, .pointer (some ⟨ga, 0, none⟩)), (1, .pointer (some ⟨8, 0, none⟩)), (4, .int .u64 0), (5, .bool false), (6, .int .i64 s.e), (7, .int .u64 0)]) (R := fun s w' => Ext (Mut [(some ga)]) w w' ∧ Blk w' ga 193 (decC s.t) ∧ (FbRI s ∧ until_ fbDoneR fbStepR s = fbR t)) (m := fun s => msR s.t) (i := s) (⟨rshift s.t P, s.e + ((P : Nat) : Int)⟩) (hms) ⟨rfl, rfl, rfl, rfl, rfl, rfl, trivial⟩ ⟨M10.step E XM10, (by exact Ba), hkeep, hu⟩
     ·
      have h4 := of_decide_eq_false h4
      have hdone : fbDoneR s = true := decide_eq_true (by omega)
      rw [until_stop hdone] at hu
      refine cw_exit ?_
      refine ew_then_exit ?_
      refine ew_then_exit ?_
      refine ew_block_here ?_
      exact ew_mid s ⟨rfl, rfl, rfl, rfl, rfl, rfl, trivial⟩ ⟨M8.step E XM8, (by exact Ba), hu⟩
    ·
     have LTa := (some_lt Ba.lt)
     clear Ba
     rintro s w9 ⟨M8, Ba, hs⟩
     have XM8 : ∀ q9, (Mut [(some ga)]) q9 → (Mut [(some ga)]) q9 ∨ w.heap.size ≤ q9 := (Mut.grow Mut.none_ (fun k e => Or.inl (Mut.head k e)))
     replace E := E.trans M8
     replace HF := HF.on E
     replace LW := LW.step E XLW
     replace E := Ext.refl (Mut [(some ga)]) w9
     clear LTa
     obtain ⟨hR1, hR2⟩ := fbR_ends ht hpos (by omega)
     have hLs := fbL_start hR1 hR2
     refine cw_seq ?_
     replace HF := HF.on E
     replace LW := LW.step E XLW
     replace E := Ext.refl (Mut [(some ga)]) w9
     refine cw_join (ι := FbS) (fun s => [(0, .pointer (some ⟨ga, 0, none⟩)), (1, .pointer (some ⟨8, 0, none⟩)), (4, .int .u64 0), (5, .bool false), (6, .int .i64 s.e), (7, .int .u64 0)]) (fun s w' => Ext (Mut [(some ga)]) w9 w' ∧ Blk w' ga 193 (decC s.t) ∧ (s = fbL t)) ?_ ?_
     ·
      have M19 := Ext.refl (Mut [(some ga)]) w9
      have XM19 : ∀ q9, (Mut [(some ga)]) q9 → (Mut [(some ga)]) q9 ∨ w9.heap.size ≤ q9 := fun _ h => Or.inl h
      refine cw_block ?_
      replace HF := HF.on E
      replace LW := LW.step E XLW
      replace M19 := M19.step E XM19
      replace E := Ext.refl (Mut [(some ga)]) w9
      refine cw_loop (ι := FbS) (fun s => [(0, .pointer (some ⟨ga, 0, none⟩)), (1, .pointer (some ⟨8, 0, none⟩)), (4, .int .u64 0), (5, .bool false), (6, .int .i64 s.e), (7, .int .u64 0)]) (fun s w' => Ext (Mut [(some ga)]) w9 w' ∧ Blk w' ga 193 (decC s.t) ∧ (FbLI s ∧ until_ fbDoneL fbStepL s = fbL t)) (fun s => msL s.t) s ⟨rfl, rfl, rfl, rfl, rfl, rfl, trivial⟩ ⟨Ext.refl _ _, (by exact Ba), by rw [hs]; exact hLs, by rw [hs]; rfl⟩ ?_
      have LTa := (some_lt Ba.lt)
      clear Ba
      rintro s w22 ⟨M21, Ba, ⟨hI, hu⟩⟩
      have XM21 : ∀ q9, (Mut [(some ga)]) q9 → (Mut [(some ga)]) q9 ∨ w9.heap.size ≤ q9 := (Mut.grow Mut.none_ (fun k e => Or.inl (Mut.head k e)))
      replace E := E.trans M21
      replace HF := HF.on E
      replace LW := LW.step E XLW
      replace M19 := M19.step E XM19
      replace E := Ext.refl (Mut [(some ga)]) w22
      clear LTa
      have hls := hI.dec.len
      have hsd := hI.dp
      have hse := hI.e
      have hsp := hI.pos
      have hsg := hI.dec.dig 0 hsp
      refine cw_seq ?_
      refine cw_seq ?_
      replace HF := HF.on E
      replace LW := LW.step E XLW
      replace M19 := M19.step E XM19
      replace M21 := M21.step E XM21
      replace E := Ext.refl (Mut [(some ga)]) w22
      refine cw_join (ι := Bool) (fun g => [(0, .pointer (some ⟨ga, 0, none⟩)), (1, .pointer (some ⟨8, 0, none⟩)), (4, .int .u64 0), (5, .bool false), (6, .int .i64 s.e), (7, .int .u64 0), (80, .bool g)]) (fun g w' => Ext (Mut [(some ga)]) w22 w' ∧ Blk w' ga 193 (decC s.t) ∧ (g = decide (s.t.dp < 0 ∨ (s.t.dp = 0 ∧ dg s.t.d 0 < 53)))) ?_ ?_
      ·
       have M23 := Ext.refl (Mut [(some ga)]) w22
       have XM23 : ∀ q9, (Mut [(some ga)]) q9 → (Mut [(some ga)]) q9 ∨ w22.heap.size ≤ q9 := fun _ h => Or.inl h
       refine cw_region ?_
       refine rs_op rfl (ow_move rfl ?_)
       refine rs_op rfl (ow_nilCheck rfl ?_)
       refine rs_op rfl (ow_fieldAddr Tryz.underlying193 rfl sz3 (by decide) rfl ?_)
       refine rs_op rfl (ow_loadF Tryz.underlying3 rfl rfl Ba (dpAt hls s.t.dp rfl) ?_)
       refine rs_op rfl (ow_lss rfl rfl ?_)
       refine rs_op rfl (ow_move rfl ?_)
       refine rs_split 66 rfl (fun h4 => ?_) (fun h4 => ?_)
       ·
        have h4 := of_decide_eq_true h4
        refine rs_op rfl (ow_off rfl ?_)
        refine rs_op rfl (ow_off rfl ?_)
        refine rs_op rfl (ow_off rfl ?_)
        refine rs_op rfl (ow_off rfl ?_)
        refine rs_op rfl (ow_off rfl ?_)
        refine rs_op rfl (ow_off rfl ?_)
        refine rs_op rfl (ow_offU rfl rfl ?_)
        refine rs_op rfl (ow_offU rfl rfl ?_)
        refine rs_op rfl (ow_offU rfl rfl ?_)
        refine rs_op rfl (ow_offU rfl rfl ?_)
        refine rs_op rfl (ow_offU rfl rfl ?_)
        refine rs_op rfl (ow_offU rfl rfl ?_)
        refine rs_op rfl (ow_off rfl ?_)
        refine rs_op rfl (ow_pickT rfl rfl ?_)
        refine rs_nil ?_
        exact ew_mid true ⟨rfl, rfl, rfl, rfl, rfl, rfl, rfl, trivial⟩ ⟨M23.step E XM23, (by exact Ba), (decide_eq_true (.inl h4)).symm⟩
       ·
        have h4 := of_decide_eq_false h4
        refine rs_op rfl (ow_on rfl (ow_move rfl ?_))
        refine rs_op rfl (ow_on rfl (ow_nilCheck rfl ?_))
        refine rs_op rfl (ow_on rfl (ow_fieldAddr Tryz.underlying193 rfl sz3 (by decide) rfl ?_))
        refine rs_op rfl (ow_on rfl (ow_loadF Tryz.underlying3 rfl rfl Ba (dpAt hls s.t.dp rfl) ?_))
        refine rs_op rfl (ow_on rfl (ow_eql rfl rfl ?_))
        refine rs_op rfl (ow_on rfl (ow_move rfl ?_))
        refine rs_split 72 rfl (fun h5 => ?_) (fun h5 => ?_)
        ·
         have h5 := eq_of_beq h5
         refine rs_op rfl (ow_on rfl (ow_move rfl ?_))
         refine rs_op rfl (ow_on rfl (ow_nilCheck rfl ?_))
         refine rs_op rfl (ow_on rfl (ow_fieldAddr Tryz.underlying193 rfl sz191 (by decide) rfl ?_))
         refine rs_op rfl (ow_on rfl (ow_indexAddrG (j := 0) Tryz.underlying191 sz5 rfl rfl rfl (by decide) ?_))
         refine rs_op rfl (ow_on rfl (ow_loadF Tryz.underlying5 rfl rfl Ba (dAt hls (dg s.t.d 0) 0 rfl (by decide)) ?_))
         refine rs_op rfl (ow_on rfl (ow_lss rfl rfl ?_))
         refine rs_op rfl (ow_on rfl (ow_pickT rfl rfl ?_))
         refine rs_op rfl (ow_pickF rfl rfl ?_)
         refine rs_nil ?_
         refine ew_set 80 (.bool (decide (s.t.dp < 0 ∨ (s.t.dp = 0 ∧ dg s.t.d 0 < 53)))) rfl (bool_dec (by omega)) ?_
         exact ew_mid (decide (s.t.dp < 0 ∨ (s.t.dp = 0 ∧ dg s.t.d 0 < 53))) ⟨rfl, rfl, rfl, rfl, rfl, rfl, rfl, trivial⟩ ⟨M23.step E XM23, (by exact Ba), rfl⟩
        ·
         have h5 : ¬ s.t.dp = 0 := fun e => absurd h5 (by rw [e]; decide)
         refine rs_op rfl (ow_off rfl ?_)
         refine rs_op rfl (ow_off rfl ?_)
         refine rs_op rfl (ow_off rfl ?_)
         refine rs_op rfl (ow_off rfl ?_)
         refine rs_op rfl (ow_off rfl ?_)
         refine rs_op rfl (ow_off rfl ?_)
         refine rs_op rfl (ow_on rfl (ow_pickF rfl rfl ?_))
         refine rs_op rfl (ow_pickF rfl rfl ?_)
         refine rs_nil ?_
         exact ew_mid false ⟨rfl, rfl, rfl, rfl, rfl, rfl, rfl, trivial⟩ ⟨M23.step E XM23, (by exact Ba), (decide_eq_false (by omega)).symm⟩
      ·
       have LTa := (some_lt Ba.lt)
       clear Ba
       rintro g w24 ⟨M23, Ba, hgg⟩
       have XM23 : ∀ q9, (Mut [(some ga)]) q9 → (Mut [(some ga)]) q9 ∨ w22.heap.size ≤ q9 := (Mut.grow Mut.none_ (fun k e => Or.inl (Mut.head k e)))
       replace E := E.trans M23
       replace HF := HF.on E
       replace LW := LW.step E XLW
       replace M19 := M19.step E XM19
       replace M21 := M21.step E XM21
       replace E := Ext.refl (Mut [(some ga)]) w24
       clear LTa
       refine cw_cond rfl (fun h4 => ?_) (fun h4 => ?_)
       ·
        rw [hgg] at h4
        have h4 := of_decide_eq_true h4
        have hdone : fbDoneL s = false := decide_eq_false (fun h => h h4)
        obtain ⟨hkeep, hms⟩ := fbL_keeps hI hdone
        obtain ⟨P, hP⟩ : ∃ P, P = pt (-s.t.dp).toNat := ⟨_, rfl⟩
        have hP1 := pt_le (-s.t.dp).toNat
        have hP2 := pt_shl (-s.t.dp).toNat
        have hst : fbStepL s = ⟨lshift s.t P, s.e - ((P : Nat) : Int)⟩ := by rw [hP]; rfl
        rw [← hP] at hP1 hP2
        rw [until_next hdone] at hu
        rw [hst] at hu hkeep hms
        refine cw_skip ?_
        refine ew_next ?_
        refine cw_block ?_
        refine cw_seq ?_
        refine cw_region ?_
        refine rs_op rfl (ow_assign rfl ?_)
        refine rs_nil ?_
        refine ew_next ?_
        refine cw_seq ?_
        refine cw_seq ?_
        replace HF := HF.on E
        replace LW := LW.step E XLW
        replace M19 := M19.step E XM19
        replace M21 := M21.step E XM21
        replace E := Ext.refl (Mut [(some ga)]) w24
        refine cw_join (ι := Bool) (fun g => [(0, .pointer (some ⟨ga, 0, none⟩)), (1, .pointer (some ⟨8, 0, none⟩)), (4, .int .u64 0), (5, .bool false), (6, .int .i64 s.e), (7, .int .u64 0), (9, .int .i64 0), (88, .bool g)]) (fun g w' => Ext (Mut [(some ga)]) w24 w' ∧ Blk w' ga 193 (decC s.t) ∧ (g = decide (9 ≤ 0 - s.t.dp))) ?_ ?_
        ·
         have M25 := Ext.refl (Mut [(some ga)]) w24
         have XM25 : ∀ q9, (Mut [(some ga)]) q9 → (Mut [(some ga)]) q9 ∨ w24.heap.size ≤ q9 := fun _ h => Or.inl h
         have OY : ∀ q9, (Mut (outM [])) q9 → q9 < (World.drew w24).heap.size → (Mut [(some ga)]) q9 := fun k h _ => (Mut.none_) k h
         refine cw_drawn (Mut [(some ga)]) (Mut.grow Mut.none_ (some_lt Ba.lt)) [] [] (fxAt [Fx.of (.pointer (some ⟨ga, 0, none⟩)),
          Fx.of (.pointer (some ⟨ga, 0, none⟩)),
          Fx.of (.pointer (some ⟨ga, 801, none⟩)),
          Fx.of (.int .i64 s.t.dp),
          Fx.of (.int .i64 (0 - s.t.dp)),
          Fx.of (.slice (some ⟨bp, op, none⟩) 9 cp),
          Fx.of (.int .i64 9),
          Fx.of (.bool (decide (9 ≤ (0 - s.t.dp))))]) mixed rfl trivial (fun _ h => by cases h) ?_ ?_
         · refine ⟨?_, ?_, ?_, ?_, ?_, ?_, ?_, ?_, trivial⟩
           · intro vs X wq K
             have LE := K.1
             have XN := K.2.1
             have SQ := Nat.le_trans LW.size (Nat.le_trans E.size LE.size)
             exact ow_move rfl ⟨Below.refl _ _, Left.of rfl⟩
           · intro vs X wq K
             have LE := K.1
             have XN := K.2.1
             have SQ := Nat.le_trans LW.size (Nat.le_trans E.size LE.size)
             obtain ⟨_, e0, k0⟩ := K.dep 0 rfl rfl rfl
             refine ow_set 81 (.pointer (some ⟨ga, 0, none⟩)) rfl e0 ?_
             exact ow_nilCheck rfl ⟨Below.refl _ _, Left.of rfl⟩
           · intro vs X wq K
             have LE := K.1
             have XN := K.2.1
             have SQ := Nat.le_trans LW.size (Nat.le_trans E.size LE.size)
             obtain ⟨_, e1, k1⟩ := K.dep 1 rfl rfl rfl
             refine ow_set 82 (.pointer (some ⟨ga, 0, none⟩)) rfl e1 ?_
             exact ow_fieldAddr Tryz.underlying193 rfl sz3 (by decide) rfl ⟨Below.refl _ _, Left.of rfl⟩
           · intro vs X wq K
             have LE := K.1
             have XN := K.2.1
             have SQ := Nat.le_trans LW.size (Nat.le_trans E.size LE.size)
             obtain ⟨_, e2, k2⟩ := K.dep 2 rfl rfl rfl
             refine ow_set 83 (.pointer (some ⟨ga, 801, none⟩)) rfl e2 ?_
             exact ow_loadF Tryz.underlying3 rfl rfl (Ba.drew.extN LE NotIn.nil) (dpAt hls s.t.dp rfl) ⟨Below.refl _ _, Left.of rfl⟩
           · intro vs X wq K
             have LE := K.1
             have XN := K.2.1
             have SQ := Nat.le_trans LW.size (Nat.le_trans E.size LE.size)
             obtain ⟨_, e3, k3⟩ := K.dep 3 rfl rfl rfl
             refine ow_set 84 (.int .i64 s.t.dp) rfl e3 ?_
             exact ow_neg rfl (wrap_i64 (by omega)) ⟨Below.refl _ _, Left.of rfl⟩
           · intro vs X wq K
             have LE := K.1
             have XN := K.2.1
             have SQ := Nat.le_trans LW.size (Nat.le_trans E.size LE.size)
             exact ow_load1 Tryz.underlying71 rfl rfl (HF.on (E.drew.trans (LE.mono OY))).here.1.1.1.2.powtab.head ⟨Below.refl _ _, Left.of rfl⟩
           · intro vs X wq K
             have LE := K.1
             have XN := K.2.1
             have SQ := Nat.le_trans LW.size (Nat.le_trans E.size LE.size)
             obtain ⟨_, e5, k5⟩ := K.dep 5 rfl rfl rfl
             refine ow_set 86 (.slice (some ⟨bp, op, none⟩) 9 cp) rfl e5 ?_
             exact ow_len Tryz.underlying71 rfl ⟨Below.refl _ _, Left.of rfl⟩
           · intro vs X wq K
             have LE := K.1
             have XN := K.2.1
             have SQ := Nat.le_trans LW.size (Nat.le_trans E.size LE.size)
             obtain ⟨_, e4, k4⟩ := K.dep 4 rfl rfl rfl
             refine ow_set 85 (.int .i64 (0 - s.t.dp)) rfl e4 ?_
             obtain ⟨_, e6, k6⟩ := K.dep 6 rfl rfl rfl
             refine ow_set 87 (.int .i64 9) rfl e6 ?_
             exact ow_geq rfl rfl ⟨Below.refl _ _, Left.of rfl⟩
         intro vs w27 LE AO AL AF AA
         have LBa := Ba
         replace Ba := Ba.drew.extN LE NotIn.nil
         replace E := E.drew.trans (LE.mono OY)
         obtain ⟨_, e7, k7⟩ := AL.2.2.2.2.2.2.2.1
         refine ew_sub (τ := [(0, _), (1, _), (4, _), (5, _), (6, _), (7, _), (9, _), (88, .bool (decide (9 ≤ (0 - s.t.dp))))]) ⟨rfl, rfl, rfl, rfl, rfl, rfl, rfl, congrArg some e7, trivial⟩ ?_
         clear AL AF AA LE AO OY e7 k7 LBa
         exact ew_mid (decide (9 ≤ 0 - s.t.dp)) ⟨rfl, rfl, rfl, rfl, rfl, rfl, rfl, rfl, trivial⟩ ⟨M25.step E XM25, (by exact Ba), rfl⟩
        ·
         have LTa := (some_lt Ba.lt)
         clear Ba
         rintro g w26 ⟨M25, Ba, hg2⟩
         have XM25 : ∀ q9, (Mut [(some ga)]) q9 → (Mut [(some ga)]) q9 ∨ w24.heap.size ≤ q9 := (Mut.grow Mut.none_ (fun k e => Or.inl (Mut.head k e)))
         replace E := E.trans M25
         replace HF := HF.on E
         replace LW := LW.step E XLW
         replace M19 := M19.step E XM19
         replace M21 := M21.step E XM21
         replace E := Ext.refl (Mut [(some ga)]) w26
         clear LTa
         replace HF := HF.on E
         replace LW := LW.step E XLW
         replace M19 := M19.step E XM19
         replace M21 := M21.step E XM21
         replace E := Ext.refl (Mut [(some ga)]) w26
         refine cw_join (ι := Unit) (fun _ => [(0, .pointer (some ⟨ga, 0, none⟩)), (1, .pointer (some ⟨8, 0, none⟩)), (4, .int .u64 0), (5, .bool false), (6, .int .i64 s.e), (7, .int .u64 0), (9, .int .i64 ((P : Nat) : Int))]) (fun _ w' => Ext (Mut [(some ga)]) w26 w' ∧ Blk w' ga 193 (decC s.t) ∧ (True)) ?_ ?_
         ·
          have M28 := Ext.refl (Mut [(some ga)]) w26
          have XM28 : ∀ q9, (Mut [(some ga)]) q9 → (Mut [(some ga)]) q9 ∨ w26.heap.size ≤ q9 := fun _ h => Or.inl h
          refine cw_cond rfl (fun h5 => ?_) (fun h5 => ?_)
          ·
           rw [hg2] at h5
           have h5 := of_decide_eq_true h5
           have e : P = 27 := by rw [hP]; exact pt_far (by omega)
           refine cw_region ?_
           refine rs_op rfl (ow_assign rfl ?_)
           refine rs_nil ?_
           refine ew_set 9 (.int .i64 ((P : Nat) : Int)) rfl ((by rw [e]; rfl : (.int .i64 27 : Value) = _)) ?_
           exact ew_mid () ⟨rfl, rfl, rfl, rfl, rfl, rfl, rfl, trivial⟩ ⟨M28.step E XM28, (by exact Ba), trivial⟩
          ·
           rw [hg2] at h5
           have h5 := of_decide_eq_false h5
           have OY : ∀ q9, (Mut (outM [])) q9 → q9 < (World.drew w26).heap.size → (Mut [(some ga)]) q9 := fun k h _ => (Mut.none_) k h
           refine cw_drawn (Mut [(some ga)]) (Mut.grow Mut.none_ (some_lt Ba.lt)) [] [] (fxAt [Fx.of (.slice (some ⟨bp, op, none⟩) 9 cp),
            Fx.of (.pointer (some ⟨ga, 0, none⟩)),
            Fx.of (.pointer (some ⟨ga, 0, none⟩)),
            Fx.of (.pointer (some ⟨ga, 801, none⟩)),
            Fx.of (.int .i64 s.t.dp),
            Fx.of (.int .i64 (0 - s.t.dp)),
            Fx.of (.pointer (some ⟨bp, op + (-s.t.dp).toNat * 1, none⟩)),
            Fx.of (.int .i64 ((pt (-s.t.dp).toNat : Nat) : Int)),
            Fx.of (.int .i64 ((pt (-s.t.dp).toNat : Nat) : Int))]) mixed rfl trivial (fun _ h => by cases h) ?_ ?_
           · refine ⟨?_, ?_, ?_, ?_, ?_, ?_, ?_, ?_, ?_, trivial⟩
             · intro vs X wq K
               have LE := K.1
               have XN := K.2.1
               have SQ := Nat.le_trans LW.size (Nat.le_trans E.size LE.size)
               exact ow_load1 Tryz.underlying71 rfl rfl (HF.on (E.drew.trans (LE.mono OY))).here.1.1.1.2.powtab.head ⟨Below.refl _ _, Left.of rfl⟩
             · intro vs X wq K
               have LE := K.1
               have XN := K.2.1
               have SQ := Nat.le_trans LW.size (Nat.le_trans E.size LE.size)
               exact ow_move rfl ⟨Below.refl _ _, Left.of rfl⟩
             · intro vs X wq K
               have LE := K.1
               have XN := K.2.1
               have SQ := Nat.le_trans LW.size (Nat.le_trans E.size LE.size)
               obtain ⟨_, e1, k1⟩ := K.dep 1 rfl rfl rfl
               refine ow_set 90 (.pointer (some ⟨ga, 0, none⟩)) rfl e1 ?_
               exact ow_nilCheck rfl ⟨Below.refl _ _, Left.of rfl⟩
             · intro vs X wq K
               have LE := K.1
               have XN := K.2.1
               have SQ := Nat.le_trans LW.size (Nat.le_trans E.size LE.size)
               obtain ⟨_, e2, k2⟩ := K.dep 2 rfl rfl rfl
               refine ow_set 91 (.pointer (some ⟨ga, 0, none⟩)) rfl e2 ?_
               exact ow_fieldAddr Tryz.underlying193 rfl sz3 (by decide) rfl ⟨Below.refl _ _, Left.of rfl⟩
             · intro vs X wq K
               have LE := K.1
               have XN := K.2.1
               have SQ := Nat.le_trans LW.size (Nat.le_trans E.size LE.size)
               obtain ⟨_, e3, k3⟩ := K.dep 3 rfl rfl rfl
               refine ow_set 92 (.pointer (some ⟨ga, 801, none⟩)) rfl e3 ?_
               exact ow_loadF Tryz.underlying3 rfl rfl (Ba.drew.extN LE NotIn.nil) (dpAt hls s.t.dp rfl) ⟨Below.refl _ _, Left.of rfl⟩
             · intro vs X wq K
               have LE := K.1
               have XN := K.2.1
               have SQ := Nat.le_trans LW.size (Nat.le_trans E.size LE.size)
               obtain ⟨_, e4, k4⟩ := K.dep 4 rfl rfl rfl
               refine ow_set 93 (.int .i64 s.t.dp) rfl e4 ?_
               exact ow_neg rfl (wrap_i64 (by omega)) ⟨Below.refl _ _, Left.of rfl⟩
             · intro vs X wq K
               have LE := K.1
               have XN := K.2.1
               have SQ := Nat.le_trans LW.size (Nat.le_trans E.size LE.size)
               obtain ⟨_, e0, k0⟩ := K.dep 0 rfl rfl rfl
               refine ow_set 89 (.slice (some ⟨bp, op, none⟩) 9 cp) rfl e0 ?_
               obtain ⟨_, e5, k5⟩ := K.dep 5 rfl rfl rfl
               refine ow_set 94 (.int .i64 (0 - s.t.dp)) rfl e5 ?_
               exact ow_indexAddr (j := (-s.t.dp).toNat) Tryz.underlying71 sz3 rfl rfl (by omega) (by omega) ⟨Below.refl _ _, Left.of rfl⟩
             · intro vs X wq K
               have LE := K.1
               have XN := K.2.1
               have SQ := Nat.le_trans LW.size (Nat.le_trans E.size LE.size)
               obtain ⟨_, e6, k6⟩ := K.dep 6 rfl rfl rfl
               refine ow_set 95 (.pointer (some ⟨bp, op + (-s.t.dp).toNat * 1, none⟩)) rfl e6 ?_
               exact ow_load1 Tryz.underlying3 rfl rfl (by rw [Nat.mul_one]; exact (HF.on (E.drew.trans (LE.mono OY))).here.1.1.1.2.powtab.cells _ _ (powtab_at (by omega))) ⟨Below.refl _ _, Left.of rfl⟩
             · intro vs X wq K
               have LE := K.1
               have XN := K.2.1
               have SQ := Nat.le_trans LW.size (Nat.le_trans E.size LE.size)
               obtain ⟨_, e7, k7⟩ := K.dep 7 rfl rfl rfl
               refine ow_set 96 (.int .i64 ((pt (-s.t.dp).toNat : Nat) : Int)) rfl e7 ?_
               exact ow_assign rfl ⟨Below.refl _ _, Left.of rfl⟩
           intro vs w30 LE AO AL AF AA
           have LBa := Ba
           replace Ba := Ba.drew.extN LE NotIn.nil
           replace E := E.drew.trans (LE.mono OY)
           obtain ⟨_, e8, k8⟩ := AL.2.2.2.2.2.2.2.2.1
           refine ew_sub (τ := [(0, _), (1, _), (4, _), (5, _), (6, _), (7, _), (9, .int .i64 ((pt (-s.t.dp).toNat : Nat) : Int))]) ⟨rfl, rfl, rfl, rfl, rfl, rfl, congrArg some e8, trivial⟩ ?_
           clear AL AF AA LE AO OY e8 k8 LBa
           refine ew_set 9 (.int .i64 ((P : Nat) : Int)) rfl ((by rw [hP] : (.int .i64 ((pt (-s.t.dp).toNat : Nat) : Int) : Value) = _)) ?_
           exact ew_mid () ⟨rfl, rfl, rfl, rfl, rfl, rfl, rfl, trivial⟩ ⟨M28.step E XM28, (by exact Ba), trivial⟩
         ·
          have LTa := (some_lt Ba.lt)
          clear Ba
          rintro _ w29 ⟨M28, Ba, _⟩
          have XM28 : ∀ q9, (Mut [(some ga)]) q9 → (Mut [(some ga)]) q9 ∨ w26.heap.size ≤ q9 := (Mut.grow Mut.none_ (fun k e => Or.inl (Mut.head k e)))
          replace E := E.trans M28
          replace HF := HF.on E
          replace LW := LW.step E XLW
          replace M19 := M19.step E XM19
          replace M21 := M21.step E XM21
          replace E := Ext.refl (Mut [(some ga)]) w29
          clear LTa
          refine cw_seq ?_
          refine cw_region ?_
          refine rs_op rfl (ow_move rfl ?_)
          refine rs_op rfl (ow_move rfl ?_)
          refine rs_op rfl (ow_enter en162 rfl ((shiftL_any _ ga P s.t hP2 hI.dec hsp (by omega) Ba (HF.on E).here.1.1.1.2 hg).mono ?_))
          rintro e w31 ⟨rfl, hB, hE⟩
          refine ⟨_, rfl, ?_⟩
          replace Ba := hB
          clear hB
          replace E := E.step1 hE Mut.head
          clear hE
          refine rs_nil ?_
          refine ew_next ?_
          refine cw_region ?_
          refine rs_op rfl (ow_move rfl ?_)
          refine rs_op rfl (ow_move rfl ?_)
          refine rs_op rfl (ow_sub rfl rfl (wrap_i64 (by omega)) ?_)
          refine rs_op rfl (ow_assign rfl ?_)
          refine rs_nil ?_
          refine ew_block_normal ?_
          exact ew_round (ι := FbS) (s := fun s => [(0, .pointer (some ⟨ga, 0, none⟩)), (1, .pointer (some ⟨8, 0, none⟩)), (4, .int .u64 0), (5, .bool false), (6, .int .i64 s.e), (7, .int .u64 0)]) (R := fun s w' => Ext (Mut [(some ga)]) w9 w' ∧ Blk w' ga 193 (decC s.t) ∧ (FbLI s ∧ until_ fbDoneL fbStepL s = fbL t)) (m := fun s => msL s.t) (i := s) (⟨lshift s.t P, s.e - ((P : Nat) : Int)⟩) (hms) ⟨rfl, rfl, rfl, rfl, rfl, rfl, trivial⟩ ⟨M21.step E XM21, (by exact Ba), hkeep, hu⟩
       ·
        rw [hgg] at h4
        have h4 := of_decide_eq_false h4
        have hdone : fbDoneL s = true := decide_eq_true h4
        rw [until_stop hdone] at hu
        refine cw_exit ?_
        refine ew_then_exit ?_
        refine ew_then_exit ?_
        refine ew_block_here ?_
        exact ew_mid s ⟨rfl, rfl, rfl, rfl, rfl, rfl, trivial⟩ ⟨M19.step E XM19, (by exact Ba), hu⟩
     ·
      have LTa := (some_lt Ba.lt)
      clear Ba
      rintro s w20 ⟨M19, Ba, hs2⟩
      have XM19 : ∀ q9, (Mut [(some ga)]) q9 → (Mut [(some ga)]) q9 ∨ w9.heap.size ≤ q9 := (Mut.grow Mut.none_ (fun k e => Or.inl (Mut.head k e)))
      replace E := E.trans M19
      replace HF := HF.on E
      replace LW := LW.step E XLW
      replace E := Ext.refl (Mut [(some ga)]) w20
      clear LTa
      clear hs
      obtain ⟨hL1, _⟩ := fbL_ends ht hpos (by omega)
      rw [← hs2] at hL1 hfb0
      have hls := hL1.dec.len
      have hsd := hL1.dp
      have hse := hL1.e
      have hsp := hL1.pos
      have hms : 0 ≤ ((msL s.t : Nat) : Int) := by omega
      have hng0 : s.t.neg = t.neg := by rw [hs2]; exact fbL_neg ht hpos (by omega)
      refine cw_seq ?_
      refine cw_region ?_
      refine rs_op rfl (ow_move rfl ?_)
      refine rs_op rfl (ow_sub rfl rfl (wrap_i64 (by omega)) ?_)
      refine rs_op rfl (ow_assign rfl ?_)
      refine rs_nil ?_
      refine ew_next ?_
      refine cw_seq ?_
      refine cw_seq ?_
      refine cw_region ?_
      refine rs_op rfl (ow_move rfl ?_)
      refine rs_op rfl (ow_move rfl ?_)
      refine rs_op rfl (ow_nilCheck rfl ?_)
      refine rs_op rfl (ow_fieldAddr Tryz.underlying206 rfl sz3 (by decide) rfl ?_)
      refine rs_op rfl (ow_load1 Tryz.underlying3 rfl rfl (HF.on E).here.2 ?_)
      refine rs_op rfl (ow_add (z := (-1022)) rfl rfl (by kernel_rfl) ?_)
      refine rs_op rfl (ow_lss rfl rfl ?_)
      refine rs_nil ?_
      refine ew_next ?_
      replace HF := HF.on E
      replace LW := LW.step E XLW
      replace E := Ext.refl (Mut [(some ga)]) w20
      refine cw_join (ι := Dec × Int) (fun (t3, e3) => [(0, .pointer (some ⟨ga, 0, none⟩)), (1, .pointer (some ⟨8, 0, none⟩)), (4, .int .u64 0), (5, .bool false), (6, .int .i64 e3), (7, .int .u64 0)]) (fun (t3, e3) w' => Ext (Mut [(some ga)]) w20 w' ∧ Blk w' ga 193 (decC t3) ∧ (fbAll t = (if 1024 ≤ e3 then (0, 2047, true) else fbEnd (lshift t3 53) e3) ∧ DecI t3 ∧ 0 < t3.nd ∧ (-11000000 ≤ t3.dp ∧ t3.dp ≤ 1000000) ∧ (-1022 ≤ e3 ∧ e3 ≤ 90000) ∧ t3.neg = t.neg)) ?_ ?_
      ·
       have M32 := Ext.refl (Mut [(some ga)]) w20
       have XM32 : ∀ q9, (Mut [(some ga)]) q9 → (Mut [(some ga)]) q9 ∨ w20.heap.size ≤ q9 := fun _ h => Or.inl h
       refine cw_cond rfl (fun h4 => ?_) (fun h4 => ?_)
       ·
        have h4 := of_decide_eq_true h4
        have hSh : ShI ⟨s.t, (-1022 - (s.e - 1)).toNat⟩ := ⟨hL1.dec, hsp, by show 1 ≤ (-1022 - (s.e - 1)).toNat ∧ (-1022 - (s.e - 1)).toNat ≤ 300000; omega, by show -10000000 + 15 * (((-1022 - (s.e - 1)).toNat : Nat) : Int) ≤ s.t.dp ∧ s.t.dp ≤ 1000000; omega⟩
        obtain ⟨hq1, hq2, hq3, hq4⟩ := shrD_keeps hSh
        have hq5 : (shrD s.t (-1022 - (s.e - 1)).toNat).neg = t.neg := by rw [shrD_neg hSh]; exact hng0
        have hfe : fbAll t = fbEnd (lshift (shrD s.t (-1022 - (s.e - 1)).toNat) 53) (-1022) := by rw [hfb0]; unfold fbMid; rw [if_pos (by omega)]
        refine cw_seq ?_
        refine cw_region ?_
        refine rs_op rfl (ow_move rfl ?_)
        refine rs_op rfl (ow_nilCheck rfl ?_)
        refine rs_op rfl (ow_fieldAddr Tryz.underlying206 rfl sz3 (by decide) rfl ?_)
        refine rs_op rfl (ow_load1 Tryz.underlying3 rfl rfl (HF.on E).here.2 ?_)
        refine rs_op rfl (ow_add (z := (-1022)) rfl rfl (by kernel_rfl) ?_)
        refine rs_op rfl (ow_move rfl ?_)
        refine rs_op rfl (ow_sub rfl rfl (wrap_i64 (by omega)) ?_)
        refine rs_op rfl (ow_assign rfl ?_)
        refine rs_nil ?_
        refine ew_next ?_
        refine cw_seq ?_
        refine cw_region ?_
        refine rs_op rfl (ow_move rfl ?_)
        refine rs_op rfl (ow_move rfl ?_)
        refine rs_op rfl (ow_neg rfl (wrap_i64 (by omega)) ?_)
        refine rs_set 121 (.int .i64 (-(((-1022 - (s.e - 1)).toNat : Nat) : Int))) rfl ((by congr 1; omega : (.int .i64 (0 - ((-1022) - (s.e - 1))) : Value) = _)) ?_
        refine rs_op rfl (ow_enter en162 rfl ((shiftR_any _ ga (-1022 - (s.e - 1)).toNat s.t hSh Ba).mono ?_))
        rintro e w34 ⟨rfl, hB, hE⟩
        refine ⟨_, rfl, ?_⟩
        replace Ba := hB
        clear hB
        replace E := E.step1 hE Mut.head
        clear hE
        refine rs_nil ?_
        refine ew_next ?_
        refine cw_region ?_
        refine rs_op rfl (ow_move rfl ?_)
        refine rs_op rfl (ow_move rfl ?_)
        refine rs_op rfl (ow_add rfl rfl (wrap_i64 (by omega)) ?_)
        refine rs_op rfl (ow_assign rfl ?_)
        refine rs_nil ?_
        refine ew_set 6 (.int .i64 (-1022)) rfl ((by congr 1; omega : (.int .i64 ((s.e - 1) + ((-1022) - (s.e - 1))) : Value) = _)) ?_
        exact ew_mid (shrD s.t (-1022 - (s.e - 1)).toNat, -1022) ⟨rfl, rfl, rfl, rfl, rfl, rfl, trivial⟩ ⟨M32.step E XM32, (by exact Ba), by rw [if_neg (by decide)]; exact hfe, hq1, hq2, ⟨hq3, hq4⟩, by decide, hq5⟩
       ·
        have h4 := of_decide_eq_false h4
        have hfe : fbAll t = (if 1024 ≤ s.e - 1 then (0, 2047, true) else fbEnd (lshift s.t 53) (s.e - 1)) := by rw [hfb0]; unfold fbMid; rw [if_neg (by omega)]
        refine cw_skip ?_
        exact ew_mid (s.t, s.e - 1) ⟨rfl, rfl, rfl, rfl, rfl, rfl, trivial⟩ ⟨M32.step E XM32, (by exact Ba), hfe, hL1.dec, hsp, by omega, by omega, hng0⟩
      ·
       have LTa := (some_lt Ba.lt)
       clear Ba
       rintro ⟨t3, e3⟩ w33 ⟨M32, Ba, ⟨hfb, ht3, hp3, hd3, he3, hn3⟩⟩
       have XM32 : ∀ q9, (Mut [(some ga)]) q9 → (Mut [(some ga)]) q9 ∨ w20.heap.size ≤ q9 := (Mut.grow Mut.none_ (fun k e => Or.inl (Mut.head k e)))
       replace E := E.trans M32
       replace HF := HF.on E
       replace LW := LW.step E XLW
       replace E := Ext.refl (Mut [(some ga)]) w33
       clear LTa
       have hl3 := ht3.len
       refine cw_seq ?_
       refine cw_seq ?_
       replace HF := HF.on E
       replace LW := LW.step E XLW
       replace E := Ext.refl (Mut [(some ga)]) w33
       refine cw_join (ι := Bool) (fun g => [(0, .pointer (some ⟨ga, 0, none⟩)), (1, .pointer (some ⟨8, 0, none⟩)), (4, .int .u64 0), (5, .bool false), (6, .int .i64 e3), (7, .int .u64 0), (138, .bool g)]) (fun g w' => Ext (Mut [(some ga)]) w33 w' ∧ Blk w' ga 193 (decC t3) ∧ (g = decide (1024 ≤ e3))) ?_ ?_
       ·
        have M35 := Ext.refl (Mut [(some ga)]) w33
        have XM35 : ∀ q9, (Mut [(some ga)]) q9 → (Mut [(some ga)]) q9 ∨ w33.heap.size ≤ q9 := fun _ h => Or.inl h
        have OY : ∀ q9, (Mut (outM [])) q9 → q9 < (World.drew w33).heap.size → (Mut [(some ga)]) q9 := fun k h _ => (Mut.none_) k h
        refine cw_drawn (Mut [(some ga)]) (Mut.grow Mut.none_ (some_lt Ba.lt)) [] [] (fxAt [Fx.of (.int .i64 e3),
         Fx.of (.pointer (some ⟨8, 0, none⟩)),
         Fx.of (.pointer (some ⟨8, 0, none⟩)),
         Fx.of (.pointer (some ⟨8, 2, none⟩)),
         Fx.of (.int .i64 (-1023)),
         Fx.of (.int .i64 (e3 - (-1023))),
         Fx.of (.pointer (some ⟨8, 0, none⟩)),
         Fx.of (.pointer (some ⟨8, 0, none⟩)),
         Fx.of (.pointer (some ⟨8, 1, none⟩)),
         Fx.of (.int .u64 11),
         Fx.of (.int .i64 2048),
         Fx.of (.int .i64 2047),
         Fx.of (.bool (decide (1024 ≤ e3)))]) mixed rfl trivial (fun _ h => by cases h) ?_ ?_
        · refine ⟨?_, ?_, ?_, ?_, ?_, ?_, ?_, ?_, ?_, ?_, ?_, ?_, ?_, trivial⟩
          · intro vs X wq K
            have LE := K.1
            have XN := K.2.1
            have SQ := Nat.le_trans LW.size (Nat.le_trans E.size LE.size)
            exact ow_move rfl ⟨Below.refl _ _, Left.of rfl⟩
          · intro vs X wq K
            have LE := K.1
            have XN := K.2.1
            have SQ := Nat.le_trans LW.size (Nat.le_trans E.size LE.size)
            exact ow_move rfl ⟨Below.refl _ _, Left.of rfl⟩
          · intro vs X wq K
            have LE := K.1
            have XN := K.2.1
            have SQ := Nat.le_trans LW.size (Nat.le_trans E.size LE.size)
            obtain ⟨_, e1, k1⟩ := K.dep 1 rfl rfl rfl
            refine ow_set 127 (.pointer (some ⟨8, 0, none⟩)) rfl e1 ?_
            exact ow_nilCheck rfl ⟨Below.refl _ _, Left.of rfl⟩
          · intro vs X wq K
            have LE := K.1
            have XN := K.2.1
            have SQ := Nat.le_trans LW.size (Nat.le_trans E.size LE.size)
            obtain ⟨_, e2, k2⟩ := K.dep 2 rfl rfl rfl
            refine ow_set 128 (.pointer (some ⟨8, 0, none⟩)) rfl e2 ?_
            exact ow_fieldAddr Tryz.underlying206 rfl sz3 (by decide) rfl ⟨Below.refl _ _, Left.of rfl⟩
          · intro vs X wq K
            have LE := K.1
            have XN := K.2.1
            have SQ := Nat.le_trans LW.size (Nat.le_trans E.size LE.size)
            obtain ⟨_, e3, k3⟩ := K.dep 3 rfl rfl rfl
            refine ow_set 129 (.pointer (some ⟨8, 2, none⟩)) rfl e3 ?_
            exact ow_load1 Tryz.underlying3 rfl rfl (HF.on (E.drew.trans (LE.mono OY))).here.2 ⟨Below.refl _ _, Left.of rfl⟩
          · intro vs X wq K
            have LE := K.1
            have XN := K.2.1
            have SQ := Nat.le_trans LW.size (Nat.le_trans E.size LE.size)
            obtain ⟨_, e0, k0⟩ := K.dep 0 rfl rfl rfl
            refine ow_set 126 (.int .i64 e3) rfl e0 ?_
            obtain ⟨_, e4, k4⟩ := K.dep 4 rfl rfl rfl
            refine ow_set 130 (.int .i64 (-1023)) rfl e4 ?_
            exact ow_sub rfl rfl (wrap_i64 (by omega)) ⟨Below.refl _ _, Left.of rfl⟩
          · intro vs X wq K
            have LE := K.1
            have XN := K.2.1
            have SQ := Nat.le_trans LW.size (Nat.le_trans E.size LE.size)
            exact ow_move rfl ⟨Below.refl _ _, Left.of rfl⟩
          · intro vs X wq K
            have LE := K.1
            have XN := K.2.1
            have SQ := Nat.le_trans LW.size (Nat.le_trans E.size LE.size)
            obtain ⟨_, e6, k6⟩ := K.dep 6 rfl rfl rfl
            refine ow_set 132 (.pointer (some ⟨8, 0, none⟩)) rfl e6 ?_
            exact ow_nilCheck rfl ⟨Below.refl _ _, Left.of rfl⟩
          · intro vs X wq K
            have LE := K.1
            have XN := K.2.1
            have SQ := Nat.le_trans LW.size (Nat.le_trans E.size LE.size)
            obtain ⟨_, e7, k7⟩ := K.dep 7 rfl rfl rfl
            refine ow_set 133 (.pointer (some ⟨8, 0, none⟩)) rfl e7 ?_
            exact ow_fieldAddr Tryz.underlying206 rfl sz144 (by decide) rfl ⟨Below.refl _ _, Left.of rfl⟩
          · intro vs X wq K
            have LE := K.1
            have XN := K.2.1
            have SQ := Nat.le_trans LW.size (Nat.le_trans E.size LE.size)
            obtain ⟨_, e8, k8⟩ := K.dep 8 rfl rfl rfl
            refine ow_set 134 (.pointer (some ⟨8, 1, none⟩)) rfl e8 ?_
            exact ow_load1 Tryz.underlying144 rfl rfl (HF.on (E.drew.trans (LE.mono OY))).here.1.2 ⟨Below.refl _ _, Left.of rfl⟩
          · intro vs X wq K
            have LE := K.1
            have XN := K.2.1
            have SQ := Nat.le_trans LW.size (Nat.le_trans E.size LE.size)
            obtain ⟨_, e9, k9⟩ := K.dep 9 rfl rfl rfl
            refine ow_set 135 (.int .u64 11) rfl e9 ?_
            exact ow_shl (z := 2048) rfl rfl (by decide) (by kernel_rfl) ⟨Below.refl _ _, Left.of rfl⟩
          · intro vs X wq K
            have LE := K.1
            have XN := K.2.1
            have SQ := Nat.le_trans LW.size (Nat.le_trans E.size LE.size)
            obtain ⟨_, e10, k10⟩ := K.dep 10 rfl rfl rfl
            refine ow_set 136 (.int .i64 2048) rfl e10 ?_
            exact ow_sub (z := 2047) rfl rfl (by kernel_rfl) ⟨Below.refl _ _, Left.of rfl⟩
          · intro vs X wq K
            have LE := K.1
            have XN := K.2.1
            have SQ := Nat.le_trans LW.size (Nat.le_trans E.size LE.size)
            obtain ⟨_, e5, k5⟩ := K.dep 5 rfl rfl rfl
            refine ow_set 131 (.int .i64 (e3 - (-1023))) rfl e5 ?_
            obtain ⟨_, e11, k11⟩ := K.dep 11 rfl rfl rfl
            refine ow_set 137 (.int .i64 2047) rfl e11 ?_
            exact ow_geq rfl rfl ⟨Below.refl _ _, Left.of (bool_dec (by omega))⟩
        intro vs w37 LE AO AL AF AA
        have LBa := Ba
        replace Ba := Ba.drew.extN LE NotIn.nil
        replace E := E.drew.trans (LE.mono OY)
        obtain ⟨_, e12, k12⟩ := AL.2.2.2.2.2.2.2.2.2.2.2.2.1
        refine ew_sub (τ := [(0, _), (1, _), (4, _), (5, _), (6, _), (7, _), (138, .bool (decide (1024 ≤ e3)))]) ⟨rfl, rfl, rfl, rfl, rfl, rfl, congrArg some e12, trivial⟩ ?_
        clear AL AF AA LE AO OY e12 k12 LBa
        exact ew_mid (decide (1024 ≤ e3)) ⟨rfl, rfl, rfl, rfl, rfl, rfl, rfl, trivial⟩ ⟨M35.step E XM35, (by exact Ba), rfl⟩
       ·
        have LTa := (some_lt Ba.lt)
        clear Ba
        rintro g w36 ⟨M35, Ba, hgg⟩
        have XM35 : ∀ q9, (Mut [(some ga)]) q9 → (Mut [(some ga)]) q9 ∨ w33.heap.size ≤ q9 := (Mut.grow Mut.none_ (fun k e => Or.inl (Mut.head k e)))
        replace E := E.trans M35
        replace HF := HF.on E
        replace LW := LW.step E XLW
        replace E := Ext.refl (Mut [(some ga)]) w36
        clear LTa
        refine cw_cond rfl (fun h4 => ?_) (fun h4 => ?_)
        ·
         rw [hgg] at h4
         have h4 := of_decide_eq_true h4
         rw [if_pos h4] at hfb
         refine cw_goto ?_
         refine ew_then_goto ?_
         refine ew_scope_goto rfl ?_
         refine cw_seq ?_
         refine cw_skip ?_
         refine ew_next ?_
         refine cw_seq ?_
         refine cw_region ?_
         refine rs_op rfl (ow_assign rfl ?_)
         refine rs_nil ?_
         refine ew_next ?_
         refine cw_seq ?_
         have OY : ∀ q9, (Mut (outM [])) q9 → q9 < (World.drew w36).heap.size → (Mut [(some ga)]) q9 := fun k h _ => (Mut.none_) k h
         refine cw_drawn (Mut [(some ga)]) (Mut.grow Mut.none_ (some_lt Ba.lt)) [] [] (fxAt [Fx.of (.pointer (some ⟨8, 0, none⟩)),
          Fx.of (.pointer (some ⟨8, 0, none⟩)),
          Fx.of (.pointer (some ⟨8, 1, none⟩)),
          Fx.of (.int .u64 11),
          Fx.of (.int .i64 2048),
          Fx.of (.int .i64 2047),
          Fx.of (.pointer (some ⟨8, 0, none⟩)),
          Fx.of (.pointer (some ⟨8, 0, none⟩)),
          Fx.of (.pointer (some ⟨8, 2, none⟩)),
          Fx.of (.int .i64 (-1023)),
          Fx.of (.int .i64 1024),
          Fx.of (.int .i64 1024)]) mixed rfl trivial (fun _ h => by cases h) ?_ ?_
         · refine ⟨?_, ?_, ?_, ?_, ?_, ?_, ?_, ?_, ?_, ?_, ?_, ?_, trivial⟩
           · intro vs X wq K
             have LE := K.1
             have XN := K.2.1
             have SQ := Nat.le_trans LW.size (Nat.le_trans E.size LE.size)
             exact ow_move rfl ⟨Below.refl _ _, Left.of rfl⟩
           · intro vs X wq K
             have LE := K.1
             have XN := K.2.1
             have SQ := Nat.le_trans LW.size (Nat.le_trans E.size LE.size)
             obtain ⟨_, e0, k0⟩ := K.dep 0 rfl rfl rfl
             refine ow_set 185 (.pointer (some ⟨8, 0, none⟩)) rfl e0 ?_
             exact ow_nilCheck rfl ⟨Below.refl _ _, Left.of rfl⟩
           · intro vs X wq K
             have LE := K.1
             have XN := K.2.1
             have SQ := Nat.le_trans LW.size (Nat.le_trans E.size LE.size)
             obtain ⟨_, e1, k1⟩ := K.dep 1 rfl rfl rfl
             refine ow_set 186 (.pointer (some ⟨8, 0, none⟩)) rfl e1 ?_
             exact ow_fieldAddr Tryz.underlying206 rfl sz144 (by decide) rfl ⟨Below.refl _ _, Left.of rfl⟩
           · intro vs X wq K
             have LE := K.1
             have XN := K.2.1
             have SQ := Nat.le_trans LW.size (Nat.le_trans E.size LE.size)
             obtain ⟨_, e2, k2⟩ := K.dep 2 rfl rfl rfl
             refine ow_set 187 (.pointer (some ⟨8, 1, none⟩)) rfl e2 ?_
             exact ow_load1 Tryz.underlying144 rfl rfl (HF.on (E.drew.trans (LE.mono OY))).here.1.2 ⟨Below.refl _ _, Left.of rfl⟩
           · intro vs X wq K
             have LE := K.1
             have XN := K.2.1
             have SQ := Nat.le_trans LW.size (Nat.le_trans E.size LE.size)
             obtain ⟨_, e3, k3⟩ := K.dep 3 rfl rfl rfl
             refine ow_set 188 (.int .u64 11) rfl e3 ?_
             exact ow_shl (z := 2048) rfl rfl (by decide) (by kernel_rfl) ⟨Below.refl _ _, Left.of rfl⟩
           · intro vs X wq K
             have LE := K.1
             have XN := K.2.1
             have SQ := Nat.le_trans LW.size (Nat.le_trans E.size LE.size)
             obtain ⟨_, e4, k4⟩ := K.dep 4 rfl rfl rfl
             refine ow_set 189 (.int .i64 2048) rfl e4 ?_
             exact ow_sub (z := 2047) rfl rfl (by kernel_rfl) ⟨Below.refl _ _, Left.of rfl⟩
           · intro vs X wq K
             have LE := K.1
             have XN := K.2.1
             have SQ := Nat.le_trans LW.size (Nat.le_trans E.size LE.size)
             exact ow_move rfl ⟨Below.refl _ _, Left.of rfl⟩
           · intro vs X wq K
             have LE := K.1
             have XN := K.2.1
             have SQ := Nat.le_trans LW.size (Nat.le_trans E.size LE.size)
             obtain ⟨_, e6, k6⟩ := K.dep 6 rfl rfl rfl
             refine ow_set 191 (.pointer (some ⟨8, 0, none⟩)) rfl e6 ?_
             exact ow_nilCheck rfl ⟨Below.refl _ _, Left.of rfl⟩
           · intro vs X wq K
             have LE := K.1
             have XN := K.2.1
             have SQ := Nat.le_trans LW.size (Nat.le_trans E.size LE.size)
             obtain ⟨_, e7, k7⟩ := K.dep 7 rfl rfl rfl
             refine ow_set 192 (.pointer (some ⟨8, 0, none⟩)) rfl e7 ?_
             exact ow_fieldAddr Tryz.underlying206 rfl sz3 (by decide) rfl ⟨Below.refl _ _, Left.of rfl⟩
           · intro vs X wq K
             have LE := K.1
             have XN := K.2.1
             have SQ := Nat.le_trans LW.size (Nat.le_trans E.size LE.size)
             obtain ⟨_, e8, k8⟩ := K.dep 8 rfl rfl rfl
             refine ow_set 193 (.pointer (some ⟨8, 2, none⟩)) rfl e8 ?_
             exact ow_load1 Tryz.underlying3 rfl rfl (HF.on (E.drew.trans (LE.mono OY))).here.2 ⟨Below.refl _ _, Left.of rfl⟩
           · intro vs X wq K
             have LE := K.1
             have XN := K.2.1
             have SQ := Nat.le_trans LW.size (Nat.le_trans E.size LE.size)
             obtain ⟨_, e5, k5⟩ := K.dep 5 rfl rfl rfl
             refine ow_set 190 (.int .i64 2047) rfl e5 ?_
             obtain ⟨_, e9, k9⟩ := K.dep 9 rfl rfl rfl
             refine ow_set 194 (.int .i64 (-1023)) rfl e9 ?_
             exact ow_add (z := 1024) rfl rfl (by kernel_rfl) ⟨Below.refl _ _, Left.of rfl⟩
           · intro vs X wq K
             have LE := K.1
             have XN := K.2.1
             have SQ := Nat.le_trans LW.size (Nat.le_trans E.size LE.size)
             obtain ⟨_, e10, k10⟩ := K.dep 10 rfl rfl rfl
             refine ow_set 195 (.int .i64 1024) rfl e10 ?_
             exact ow_assign rfl ⟨Below.refl _ _, Left.of rfl⟩
         intro vs w38 LE AO AL AF AA
         have LBa := Ba
         replace Ba := Ba.drew.extN LE NotIn.nil
         replace E := E.drew.trans (LE.mono OY)
         obtain ⟨_, e11, k11⟩ := AL.2.2.2.2.2.2.2.2.2.2.2.1
         refine ew_sub (τ := [(0, _), (1, _), (4, _), (5, _), (6, .int .i64 1024), (7, _)]) ⟨rfl, rfl, rfl, rfl, congrArg some e11, rfl, trivial⟩ ?_
         clear AL AF AA LE AO OY e11 k11 LBa
         refine ew_next ?_
         refine cw_seq ?_
         refine cw_region ?_
         refine rs_op rfl (ow_assign rfl ?_)
         refine rs_nil ?_
         refine ew_next ?_
         refine cw_seq ?_
         refine cw_label ?_
         refine ew_next ?_
         refine cw_seq ?_
         refine cw_region ?_
         refine rs_op rfl (ow_move rfl ?_)
         refine rs_op rfl (ow_move rfl ?_)
         refine rs_op rfl (ow_nilCheck rfl ?_)
         refine rs_op rfl (ow_fieldAddr Tryz.underlying206 rfl sz144 (by decide) rfl ?_)
         refine rs_op rfl (ow_load1 Tryz.underlying144 rfl rfl (HF.on E).here.1.1.2 ?_)
         refine rs_op rfl (ow_shl (z := 4503599627370496) rfl rfl (by decide) (by kernel_rfl) ?_)
         refine rs_op rfl (ow_sub (z := 4503599627370495) rfl rfl (by kernel_rfl) ?_)
         refine rs_op rfl (ow_and (z := 0) rfl rfl (by kernel_rfl) ?_)
         refine rs_op rfl (ow_assign rfl ?_)
         refine rs_nil ?_
         refine ew_next ?_
         refine cw_seq ?_
         have OY : ∀ q9, (Mut (outM [])) q9 → q9 < (World.drew w38).heap.size → (Mut [(some ga)]) q9 := fun k h _ => (Mut.none_) k h
         refine cw_drawn (Mut [(some ga)]) (Mut.grow Mut.none_ (some_lt Ba.lt)) [] [] (fxAt [Fx.of (.int .u64 0),
          Fx.of (.int .i64 1024),
          Fx.of (.pointer (some ⟨8, 0, none⟩)),
          Fx.of (.pointer (some ⟨8, 0, none⟩)),
          Fx.of (.pointer (some ⟨8, 2, none⟩)),
          Fx.of (.int .i64 (-1023)),
          Fx.of (.int .i64 2047),
          Fx.of (.pointer (some ⟨8, 0, none⟩)),
          Fx.of (.pointer (some ⟨8, 0, none⟩)),
          Fx.of (.pointer (some ⟨8, 1, none⟩)),
          Fx.of (.int .u64 11),
          Fx.of (.int .i64 2048),
          Fx.of (.int .i64 2047),
          Fx.of (.int .i64 2047),
          Fx.of (.int .u64 2047),
          Fx.of (.pointer (some ⟨8, 0, none⟩)),
          Fx.of (.pointer (some ⟨8, 0, none⟩)),
          Fx.of (.pointer (some ⟨8, 0, none⟩)),
          Fx.of (.int .u64 52),
          Fx.of (.int .u64 9218868437227405312),
          Fx.of (.int .u64 9218868437227405312),
          Fx.of (.int .u64 9218868437227405312)]) mixed rfl trivial (fun _ h => by cases h) ?_ ?_
         · refine ⟨?_, ?_, ?_, ?_, ?_, ?_, ?_, ?_, ?_, ?_, ?_, ?_, ?_, ?_, ?_, ?_, ?_, ?_, ?_, ?_, ?_, ?_, trivial⟩
           · intro vs X wq K
             have LE := K.1
             have XN := K.2.1
             have SQ := Nat.le_trans LW.size (Nat.le_trans E.size LE.size)
             exact ow_move rfl ⟨Below.refl _ _, Left.of rfl⟩
           · intro vs X wq K
             have LE := K.1
             have XN := K.2.1
             have SQ := Nat.le_trans LW.size (Nat.le_trans E.size LE.size)
             exact ow_move rfl ⟨Below.refl _ _, Left.of rfl⟩
           · intro vs X wq K
             have LE := K.1
             have XN := K.2.1
             have SQ := Nat.le_trans LW.size (Nat.le_trans E.size LE.size)
             exact ow_move rfl ⟨Below.refl _ _, Left.of rfl⟩
           · intro vs X wq K
             have LE := K.1
             have XN := K.2.1
             have SQ := Nat.le_trans LW.size (Nat.le_trans E.size LE.size)
             obtain ⟨_, e2, k2⟩ := K.dep 2 rfl rfl rfl
             refine ow_set 206 (.pointer (some ⟨8, 0, none⟩)) rfl e2 ?_
             exact ow_nilCheck rfl ⟨Below.refl _ _, Left.of rfl⟩
           · intro vs X wq K
             have LE := K.1
             have XN := K.2.1
             have SQ := Nat.le_trans LW.size (Nat.le_trans E.size LE.size)
             obtain ⟨_, e3, k3⟩ := K.dep 3 rfl rfl rfl
             refine ow_set 207 (.pointer (some ⟨8, 0, none⟩)) rfl e3 ?_
             exact ow_fieldAddr Tryz.underlying206 rfl sz3 (by decide) rfl ⟨Below.refl _ _, Left.of rfl⟩
           · intro vs X wq K
             have LE := K.1
             have XN := K.2.1
             have SQ := Nat.le_trans LW.size (Nat.le_trans E.size LE.size)
             obtain ⟨_, e4, k4⟩ := K.dep 4 rfl rfl rfl
             refine ow_set 208 (.pointer (some ⟨8, 2, none⟩)) rfl e4 ?_
             exact ow_load1 Tryz.underlying3 rfl rfl (HF.on (E.drew.trans (LE.mono OY))).here.2 ⟨Below.refl _ _, Left.of rfl⟩
           · intro vs X wq K
             have LE := K.1
             have XN := K.2.1
             have SQ := Nat.le_trans LW.size (Nat.le_trans E.size LE.size)
             obtain ⟨_, e1, k1⟩ := K.dep 1 rfl rfl rfl
             refine ow_set 205 (.int .i64 1024) rfl e1 ?_
             obtain ⟨_, e5, k5⟩ := K.dep 5 rfl rfl rfl
             refine ow_set 209 (.int .i64 (-1023)) rfl e5 ?_
             exact ow_sub (z := 2047) rfl rfl (by kernel_rfl) ⟨Below.refl _ _, Left.of rfl⟩
           · intro vs X wq K
             have LE := K.1
             have XN := K.2.1
             have SQ := Nat.le_trans LW.size (Nat.le_trans E.size LE.size)
             exact ow_move rfl ⟨Below.refl _ _, Left.of rfl⟩
           · intro vs X wq K
             have LE := K.1
             have XN := K.2.1
             have SQ := Nat.le_trans LW.size (Nat.le_trans E.size LE.size)
             obtain ⟨_, e7, k7⟩ := K.dep 7 rfl rfl rfl
             refine ow_set 211 (.pointer (some ⟨8, 0, none⟩)) rfl e7 ?_
             exact ow_nilCheck rfl ⟨Below.refl _ _, Left.of rfl⟩
           · intro vs X wq K
             have LE := K.1
             have XN := K.2.1
             have SQ := Nat.le_trans LW.size (Nat.le_trans E.size LE.size)
             obtain ⟨_, e8, k8⟩ := K.dep 8 rfl rfl rfl
             refine ow_set 212 (.pointer (some ⟨8, 0, none⟩)) rfl e8 ?_
             exact ow_fieldAddr Tryz.underlying206 rfl sz144 (by decide) rfl ⟨Below.refl _ _, Left.of rfl⟩
           · intro vs X wq K
             have LE := K.1
             have XN := K.2.1
             have SQ := Nat.le_trans LW.size (Nat.le_trans E.size LE.size)
             obtain ⟨_, e9, k9⟩ := K.dep 9 rfl rfl rfl
             refine ow_set 213 (.pointer (some ⟨8, 1, none⟩)) rfl e9 ?_
             exact ow_load1 Tryz.underlying144 rfl rfl (HF.on (E.drew.trans (LE.mono OY))).here.1.2 ⟨Below.refl _ _, Left.of rfl⟩
           · intro vs X wq K
             have LE := K.1
             have XN := K.2.1
             have SQ := Nat.le_trans LW.size (Nat.le_trans E.size LE.size)
             obtain ⟨_, e10, k10⟩ := K.dep 10 rfl rfl rfl
             refine ow_set 214 (.int .u64 11) rfl e10 ?_
             exact ow_shl (z := 2048) rfl rfl (by decide) (by kernel_rfl) ⟨Below.refl _ _, Left.of rfl⟩
           · intro vs X wq K
             have LE := K.1
             have XN := K.2.1
             have SQ := Nat.le_trans LW.size (Nat.le_trans E.size LE.size)
             obtain ⟨_, e11, k11⟩ := K.dep 11 rfl rfl rfl
             refine ow_set 215 (.int .i64 2048) rfl e11 ?_
             exact ow_sub (z := 2047) rfl rfl (by kernel_rfl) ⟨Below.refl _ _, Left.of rfl⟩
           · intro vs X wq K
             have LE := K.1
             have XN := K.2.1
             have SQ := Nat.le_trans LW.size (Nat.le_trans E.size LE.size)
             obtain ⟨_, e6, k6⟩ := K.dep 6 rfl rfl rfl
             refine ow_set 210 (.int .i64 2047) rfl e6 ?_
             obtain ⟨_, e12, k12⟩ := K.dep 12 rfl rfl rfl
             refine ow_set 216 (.int .i64 2047) rfl e12 ?_
             exact ow_and (z := 2047) rfl rfl (by kernel_rfl) ⟨Below.refl _ _, Left.of rfl⟩
           · intro vs X wq K
             have LE := K.1
             have XN := K.2.1
             have SQ := Nat.le_trans LW.size (Nat.le_trans E.size LE.size)
             obtain ⟨_, e13, k13⟩ := K.dep 13 rfl rfl rfl
             refine ow_set 217 (.int .i64 2047) rfl e13 ?_
             exact ow_conv (z := 2047) Tryz.underlying32 Tryz.underlying3 rfl (by kernel_rfl) ⟨Below.refl _ _, Left.of rfl⟩
           · intro vs X wq K
             have LE := K.1
             have XN := K.2.1
             have SQ := Nat.le_trans LW.size (Nat.le_trans E.size LE.size)
             exact ow_move rfl ⟨Below.refl _ _, Left.of rfl⟩
           · intro vs X wq K
             have LE := K.1
             have XN := K.2.1
             have SQ := Nat.le_trans LW.size (Nat.le_trans E.size LE.size)
             obtain ⟨_, e15, k15⟩ := K.dep 15 rfl rfl rfl
             refine ow_set 219 (.pointer (some ⟨8, 0, none⟩)) rfl e15 ?_
             exact ow_nilCheck rfl ⟨Below.refl _ _, Left.of rfl⟩
           · intro vs X wq K
             have LE := K.1
             have XN := K.2.1
             have SQ := Nat.le_trans LW.size (Nat.le_trans E.size LE.size)
             obtain ⟨_, e16, k16⟩ := K.dep 16 rfl rfl rfl
             refine ow_set 220 (.pointer (some ⟨8, 0, none⟩)) rfl e16 ?_
             exact ow_fieldAddr Tryz.underlying206 rfl sz144 (by decide) rfl ⟨Below.refl _ _, Left.of rfl⟩
           · intro vs X wq K
             have LE := K.1
             have XN := K.2.1
             have SQ := Nat.le_trans LW.size (Nat.le_trans E.size LE.size)
             obtain ⟨_, e17, k17⟩ := K.dep 17 rfl rfl rfl
             refine ow_set 221 (.pointer (some ⟨8, 0, none⟩)) rfl e17 ?_
             exact ow_load1 Tryz.underlying144 rfl rfl (HF.on (E.drew.trans (LE.mono OY))).here.1.1.2 ⟨Below.refl _ _, Left.of rfl⟩
           · intro vs X wq K
             have LE := K.1
             have XN := K.2.1
             have SQ := Nat.le_trans LW.size (Nat.le_trans E.size LE.size)
             obtain ⟨_, e14, k14⟩ := K.dep 14 rfl rfl rfl
             refine ow_set 218 (.int .u64 2047) rfl e14 ?_
             obtain ⟨_, e18, k18⟩ := K.dep 18 rfl rfl rfl
             refine ow_set 222 (.int .u64 52) rfl e18 ?_
             exact ow_shl (z := 9218868437227405312) rfl rfl (by decide) (by kernel_rfl) ⟨Below.refl _ _, Left.of rfl⟩
           · intro vs X wq K
             have LE := K.1
             have XN := K.2.1
             have SQ := Nat.le_trans LW.size (Nat.le_trans E.size LE.size)
             obtain ⟨_, e0, k0⟩ := K.dep 0 rfl rfl rfl
             refine ow_set 204 (.int .u64 0) rfl e0 ?_
             obtain ⟨_, e19, k19⟩ := K.dep 19 rfl rfl rfl
             refine ow_set 223 (.int .u64 9218868437227405312) rfl e19 ?_
             exact ow_or (z := 9218868437227405312) rfl rfl (by kernel_rfl) ⟨Below.refl _ _, Left.of rfl⟩
           · intro vs X wq K
             have LE := K.1
             have XN := K.2.1
             have SQ := Nat.le_trans LW.size (Nat.le_trans E.size LE.size)
             obtain ⟨_, e20, k20⟩ := K.dep 20 rfl rfl rfl
             refine ow_set 224 (.int .u64 9218868437227405312) rfl e20 ?_
             exact ow_assign rfl ⟨Below.refl _ _, Left.of rfl⟩
         intro vs w39 LE AO AL AF AA
         have LBa := Ba
         replace Ba := Ba.drew.extN LE NotIn.nil
         replace E := E.drew.trans (LE.mono OY)
         obtain ⟨_, e21, k21⟩ := AL.2.2.2.2.2.2.2.2.2.2.2.2.2.2.2.2.2.2.2.2.2.1
         refine ew_sub (τ := [(0, _), (1, _), (4, _), (5, _), (11, .int .u64 9218868437227405312)]) ⟨rfl, rfl, rfl, rfl, congrArg some e21, trivial⟩ ?_
         clear AL AF AA LE AO OY e21 k21 LBa
         refine ew_next ?_
         refine cw_seq ?_
         refine cw_seq ?_
         refine cw_region ?_
         refine rs_op rfl (ow_move rfl ?_)
         refine rs_op rfl (ow_nilCheck rfl ?_)
         refine rs_op rfl (ow_fieldAddr Tryz.underlying193 rfl sz4 (by decide) rfl ?_)
         refine rs_op rfl (ow_loadF Tryz.underlying4 rfl rfl Ba (ngAt hl3 t.neg hn3) ?_)
         refine rs_nil ?_
         refine ew_next ?_
         refine cw_cond rfl (fun hng => ?_) (fun hng => ?_)
         ·
          have OY : ∀ q9, (Mut (outM [])) q9 → q9 < (World.drew w39).heap.size → (Mut [(some ga)]) q9 := fun k h _ => (Mut.none_) k h
          refine cw_drawn (Mut [(some ga)]) (Mut.grow Mut.none_ (some_lt Ba.lt)) [] [] (fxAt [Fx.of (.int .u64 9218868437227405312),
           Fx.of (.pointer (some ⟨8, 0, none⟩)),
           Fx.of (.pointer (some ⟨8, 0, none⟩)),
           Fx.of (.pointer (some ⟨8, 0, none⟩)),
           Fx.of (.int .u64 52),
           Fx.of (.int .u64 4503599627370496),
           Fx.of (.pointer (some ⟨8, 0, none⟩)),
           Fx.of (.pointer (some ⟨8, 0, none⟩)),
           Fx.of (.pointer (some ⟨8, 1, none⟩)),
           Fx.of (.int .u64 11),
           Fx.of (.int .u64 9223372036854775808),
           Fx.of (.int .u64 18442240474082181120),
           Fx.of (.int .u64 18442240474082181120)]) mixed rfl trivial (fun _ h => by cases h) ?_ ?_
          · refine ⟨?_, ?_, ?_, ?_, ?_, ?_, ?_, ?_, ?_, ?_, ?_, ?_, ?_, trivial⟩
            · intro vs X wq K
              have LE := K.1
              have XN := K.2.1
              have SQ := Nat.le_trans LW.size (Nat.le_trans E.size LE.size)
              exact ow_move rfl ⟨Below.refl _ _, Left.of rfl⟩
            · intro vs X wq K
              have LE := K.1
              have XN := K.2.1
              have SQ := Nat.le_trans LW.size (Nat.le_trans E.size LE.size)
              exact ow_move rfl ⟨Below.refl _ _, Left.of rfl⟩
            · intro vs X wq K
              have LE := K.1
              have XN := K.2.1
              have SQ := Nat.le_trans LW.size (Nat.le_trans E.size LE.size)
              obtain ⟨_, e1, k1⟩ := K.dep 1 rfl rfl rfl
              refine ow_set 230 (.pointer (some ⟨8, 0, none⟩)) rfl e1 ?_
              exact ow_nilCheck rfl ⟨Below.refl _ _, Left.of rfl⟩
            · intro vs X wq K
              have LE := K.1
              have XN := K.2.1
              have SQ := Nat.le_trans LW.size (Nat.le_trans E.size LE.size)
              obtain ⟨_, e2, k2⟩ := K.dep 2 rfl rfl rfl
              refine ow_set 231 (.pointer (some ⟨8, 0, none⟩)) rfl e2 ?_
              exact ow_fieldAddr Tryz.underlying206 rfl sz144 (by decide) rfl ⟨Below.refl _ _, Left.of rfl⟩
            · intro vs X wq K
              have LE := K.1
              have XN := K.2.1
              have SQ := Nat.le_trans LW.size (Nat.le_trans E.size LE.size)
              obtain ⟨_, e3, k3⟩ := K.dep 3 rfl rfl rfl
              refine ow_set 232 (.pointer (some ⟨8, 0, none⟩)) rfl e3 ?_
              exact ow_load1 Tryz.underlying144 rfl rfl (HF.on (E.drew.trans (LE.mono OY))).here.1.1.2 ⟨Below.refl _ _, Left.of rfl⟩
            · intro vs X wq K
              have LE := K.1
              have XN := K.2.1
              have SQ := Nat.le_trans LW.size (Nat.le_trans E.size LE.size)
              obtain ⟨_, e4, k4⟩ := K.dep 4 rfl rfl rfl
              refine ow_set 233 (.int .u64 52) rfl e4 ?_
              exact ow_shl (z := 4503599627370496) rfl rfl (by decide) (by kernel_rfl) ⟨Below.refl _ _, Left.of rfl⟩
            · intro vs X wq K
              have LE := K.1
              have XN := K.2.1
              have SQ := Nat.le_trans LW.size (Nat.le_trans E.size LE.size)
              exact ow_move rfl ⟨Below.refl _ _, Left.of rfl⟩
            · intro vs X wq K
              have LE := K.1
              have XN := K.2.1
              have SQ := Nat.le_trans LW.size (Nat.le_trans E.size LE.size)
              obtain ⟨_, e6, k6⟩ := K.dep 6 rfl rfl rfl
              refine ow_set 235 (.pointer (some ⟨8, 0, none⟩)) rfl e6 ?_
              exact ow_nilCheck rfl ⟨Below.refl _ _, Left.of rfl⟩
            · intro vs X wq K
              have LE := K.1
              have XN := K.2.1
              have SQ := Nat.le_trans LW.size (Nat.le_trans E.size LE.size)
              obtain ⟨_, e7, k7⟩ := K.dep 7 rfl rfl rfl
              refine ow_set 236 (.pointer (some ⟨8, 0, none⟩)) rfl e7 ?_
              exact ow_fieldAddr Tryz.underlying206 rfl sz144 (by decide) rfl ⟨Below.refl _ _, Left.of rfl⟩
            · intro vs X wq K
              have LE := K.1
              have XN := K.2.1
              have SQ := Nat.le_trans LW.size (Nat.le_trans E.size LE.size)
              obtain ⟨_, e8, k8⟩ := K.dep 8 rfl rfl rfl
              refine ow_set 237 (.pointer (some ⟨8, 1, none⟩)) rfl e8 ?_
              exact ow_load1 Tryz.underlying144 rfl rfl (HF.on (E.drew.trans (LE.mono OY))).here.1.2 ⟨Below.refl _ _, Left.of rfl⟩
            · intro vs X wq K
              have LE := K.1
              have XN := K.2.1
              have SQ := Nat.le_trans LW.size (Nat.le_trans E.size LE.size)
              obtain ⟨_, e5, k5⟩ := K.dep 5 rfl rfl rfl
              refine ow_set 234 (.int .u64 4503599627370496) rfl e5 ?_
              obtain ⟨_, e9, k9⟩ := K.dep 9 rfl rfl rfl
              refine ow_set 238 (.int .u64 11) rfl e9 ?_
              exact ow_shl (z := 9223372036854775808) rfl rfl (by decide) (by kernel_rfl) ⟨Below.refl _ _, Left.of rfl⟩
            · intro vs X wq K
              have LE := K.1
              have XN := K.2.1
              have SQ := Nat.le_trans LW.size (Nat.le_trans E.size LE.size)
              obtain ⟨_, e0, k0⟩ := K.dep 0 rfl rfl rfl
              refine ow_set 229 (.int .u64 9218868437227405312) rfl e0 ?_
              obtain ⟨_, e10, k10⟩ := K.dep 10 rfl rfl rfl
              refine ow_set 239 (.int .u64 9223372036854775808) rfl e10 ?_
              exact ow_or (z := 18442240474082181120) rfl rfl (by kernel_rfl) ⟨Below.refl _ _, Left.of rfl⟩
            · intro vs X wq K
              have LE := K.1
              have XN := K.2.1
              have SQ := Nat.le_trans LW.size (Nat.le_trans E.size LE.size)
              obtain ⟨_, e11, k11⟩ := K.dep 11 rfl rfl rfl
              refine ow_set 240 (.int .u64 18442240474082181120) rfl e11 ?_
              exact ow_assign rfl ⟨Below.refl _ _, Left.of rfl⟩
          intro vs w40 LE AO AL AF AA
          have LBa := Ba
          replace Ba := Ba.drew.extN LE NotIn.nil
          replace E := E.drew.trans (LE.mono OY)
          obtain ⟨_, e12, k12⟩ := AL.2.2.2.2.2.2.2.2.2.2.2.2.1
          refine ew_sub (τ := [(4, _), (5, _), (11, .int .u64 18442240474082181120)]) ⟨rfl, rfl, congrArg some e12, trivial⟩ ?_
          clear AL AF AA LE AO OY e12 k12 LBa
          refine ew_next ?_
          refine cw_seq ?_
          refine cw_region ?_
          refine rs_op rfl (ow_move rfl ?_)
          refine rs_op rfl (ow_move rfl ?_)
          refine rs_op rfl (ow_assign rfl ?_)
          refine rs_op rfl (ow_assign rfl ?_)
          refine rs_nil ?_
          refine ew_next ?_
          refine cw_ret ?_
          refine ew_scope_ret ?_
          have e : slowF t = 18442240474082181120 := by unfold slowF; rw [hfb, hng]; decide +kernel
          refine ew_ret (rs := [.tmp 4, .tmp 5]) (vs := [_, _]) rfl ⟨rfl, rfl, trivial⟩ ?_
          exact ⟨by rw [e, hfb]; rfl, ⟨_, Ba⟩, (LW.step E XLW)⟩
         ·
          refine cw_skip ?_
          refine ew_next ?_
          refine cw_seq ?_
          refine cw_region ?_
          refine rs_op rfl (ow_move rfl ?_)
          refine rs_op rfl (ow_move rfl ?_)
          refine rs_op rfl (ow_assign rfl ?_)
          refine rs_op rfl (ow_assign rfl ?_)
          refine rs_nil ?_
          refine ew_next ?_
          refine cw_ret ?_
          refine ew_scope_ret ?_
          have e : slowF t = 9218868437227405312 := by unfold slowF; rw [hfb, hng]; decide +kernel
          refine ew_ret (rs := [.tmp 4, .tmp 5]) (vs := [_, _]) rfl ⟨rfl, rfl, trivial⟩ ?_
          exact ⟨by rw [e, hfb]; rfl, ⟨_, Ba⟩, (LW.step E XLW)⟩
        ·
         rw [hgg] at h4
         have h4 := of_decide_eq_false h4
         rw [if_neg h4] at hfb
         obtain ⟨hq1, hq2, hq3, hq4, _, hq5⟩ := lshift_keeps ht3 hp3 (.inr (.inr (.inr (.inr (.inr (.inr (.inr (.inr (.inr (.inr rfl))))))))) : Shl 53)
         have hl5 := hq1.len
         have hn5 : (lshift t3 53).neg = t.neg := hq5.trans hn3
         obtain ⟨M, hM⟩ : ∃ M, M = roundD (lshift t3 53) := ⟨_, rfl⟩
         have hM64 : M < 18446744073709551616 := by rw [hM]; exact roundD_lt _
         unfold fbEnd at hfb
         rw [← hM] at hfb
         refine cw_skip ?_
         refine ew_next ?_
         refine cw_seq ?_
         refine cw_region ?_
         refine rs_op rfl (ow_move rfl ?_)
         refine rs_op rfl (ow_move rfl ?_)
         refine rs_op rfl (ow_nilCheck rfl ?_)
         refine rs_op rfl (ow_fieldAddr Tryz.underlying206 rfl sz144 (by decide) rfl ?_)
         refine rs_op rfl (ow_load1 Tryz.underlying144 rfl rfl (HF.on E).here.1.1.2 ?_)
         refine rs_op rfl (ow_add (z := 53) rfl rfl (by kernel_rfl) ?_)
         refine rs_op rfl (ow_conv (z := 53) Tryz.underlying3 Tryz.underlying144 rfl (by kernel_rfl) ?_)
         refine rs_op rfl (ow_enter en162 rfl ((shiftL_any _ ga 53 t3 (.inr (.inr (.inr (.inr (.inr (.inr (.inr (.inr (.inr (.inr rfl)))))))))) ht3 hp3 (by omega) Ba (HF.on E).here.1.1.1.2 hg).mono ?_))
         rintro e w41 ⟨rfl, hB, hE⟩
         refine ⟨_, rfl, ?_⟩
         replace Ba := hB
         clear hB
         replace E := E.step1 hE Mut.head
         clear hE
         refine rs_nil ?_
         refine ew_next ?_
         refine cw_seq ?_
         refine cw_region ?_
         refine rs_op rfl (ow_move rfl ?_)
         refine rs_op rfl (ow_enter en216 rfl ((rint_any _ ga (lshift t3 53) hq1 (by omega) Ba).mono ?_))
         rintro e w42 ⟨rfl, hb⟩
         refine ⟨_, rfl, ?_⟩
         have Ec := Ext.of_below hb No
         replace Ba := Ba.extN Ec NotIn.nil
         replace E := E.trans Ec.no
         clear hb Ec
         refine rs_set 148 (.int .u64 ((M : Nat) : Int)) rfl ((by rw [hM] : (.int .u64 ((roundD (lshift t3 53) : Nat) : Int) : Value) = _)) ?_
         refine rs_op rfl (ow_assign rfl ?_)
         refine rs_nil ?_
         refine ew_next ?_
         refine cw_seq ?_
         refine cw_seq ?_
         refine cw_region ?_
         refine rs_op rfl (ow_move rfl ?_)
         refine rs_op rfl (ow_move rfl ?_)
         refine rs_op rfl (ow_nilCheck rfl ?_)
         refine rs_op rfl (ow_fieldAddr Tryz.underlying206 rfl sz144 (by decide) rfl ?_)
         refine rs_op rfl (ow_load1 Tryz.underlying144 rfl rfl (HF.on E).here.1.1.2 ?_)
         refine rs_op rfl (ow_shl (z := 9007199254740992) rfl rfl (by decide) (by kernel_rfl) ?_)
         refine rs_op rfl (ow_eql rfl rfl ?_)
         refine rs_nil ?_
         refine ew_next ?_
         refine cw_cond rfl (fun h5 => ?_) (fun h5 => ?_)
         ·
          have h5 : M = 9007199254740992 := by have h5 := eq_of_beq h5; omega
          rw [if_pos h5] at hfb
          refine cw_set 7 (.int .u64 9007199254740992) rfl ((by rw [h5]; rfl : (.int .u64 ((M : Nat) : Int) : Value) = _)) ?_
          refine cw_seq ?_
          refine cw_region ?_
          refine rs_op rfl (ow_move rfl ?_)
          refine rs_op rfl (ow_shr (z := 4503599627370496) rfl rfl (by decide) (by kernel_rfl) ?_)
          refine rs_op rfl (ow_assign rfl ?_)
          refine rs_nil ?_
          refine ew_next ?_
          refine cw_seq ?_
          refine cw_region ?_
          refine rs_op rfl (ow_move rfl ?_)
          refine rs_op rfl (ow_add rfl rfl (wrap_i64 (by omega)) ?_)
          refine rs_op rfl (ow_assign rfl ?_)
          refine rs_nil ?_
          refine ew_next ?_
          refine cw_seq ?_
          replace HF := HF.on E
          replace LW := LW.step E XLW
          replace E := Ext.refl (Mut [(some ga)]) w42
          refine cw_join (ι := Bool) (fun g => [(0, .pointer (some ⟨ga, 0, none⟩)), (1, .pointer (some ⟨8, 0, none⟩)), (4, .int .u64 0), (5, .bool false), (6, .int .i64 (e3 + 1)), (7, .int .u64 4503599627370496), (172, .bool g)]) (fun g w' => Ext (Mut [(some ga)]) w42 w' ∧ Blk w' ga 193 (decC (lshift t3 53)) ∧ (g = decide (1023 ≤ e3))) ?_ ?_
          ·
           have M43 := Ext.refl (Mut [(some ga)]) w42
           have XM43 : ∀ q9, (Mut [(some ga)]) q9 → (Mut [(some ga)]) q9 ∨ w42.heap.size ≤ q9 := fun _ h => Or.inl h
           have OY : ∀ q9, (Mut (outM [])) q9 → q9 < (World.drew w42).heap.size → (Mut [(some ga)]) q9 := fun k h _ => (Mut.none_) k h
           refine cw_drawn (Mut [(some ga)]) (Mut.grow Mut.none_ (some_lt Ba.lt)) [] [] (fxAt [Fx.of (.int .i64 (e3 + 1)),
            Fx.of (.pointer (some ⟨8, 0, none⟩)),
            Fx.of (.pointer (some ⟨8, 0, none⟩)),
            Fx.of (.pointer (some ⟨8, 2, none⟩)),
            Fx.of (.int .i64 (-1023)),
            Fx.of (.int .i64 ((e3 + 1) - (-1023))),
            Fx.of (.pointer (some ⟨8, 0, none⟩)),
            Fx.of (.pointer (some ⟨8, 0, none⟩)),
            Fx.of (.pointer (some ⟨8, 1, none⟩)),
            Fx.of (.int .u64 11),
            Fx.of (.int .i64 2048),
            Fx.of (.int .i64 2047),
            Fx.of (.bool (decide (1023 ≤ e3)))]) mixed rfl trivial (fun _ h => by cases h) ?_ ?_
           · refine ⟨?_, ?_, ?_, ?_, ?_, ?_, ?_, ?_, ?_, ?_, ?_, ?_, ?_, trivial⟩
             · intro vs X wq K
               have LE := K.1
               have XN := K.2.1
               have SQ := Nat.le_trans LW.size (Nat.le_trans E.size LE.size)
               exact ow_move rfl ⟨Below.refl _ _, Left.of rfl⟩
             · intro vs X wq K
               have LE := K.1
               have XN := K.2.1
               have SQ := Nat.le_trans LW.size (Nat.le_trans E.size LE.size)
               exact ow_move rfl ⟨Below.refl _ _, Left.of rfl⟩
             · intro vs X wq K
               have LE := K.1
               have XN := K.2.1
               have SQ := Nat.le_trans LW.size (Nat.le_trans E.size LE.size)
               obtain ⟨_, e1, k1⟩ := K.dep 1 rfl rfl rfl
               refine ow_set 161 (.pointer (some ⟨8, 0, none⟩)) rfl e1 ?_
               exact ow_nilCheck rfl ⟨Below.refl _ _, Left.of rfl⟩
             · intro vs X wq K
               have LE := K.1
               have XN := K.2.1
               have SQ := Nat.le_trans LW.size (Nat.le_trans E.size LE.size)
               obtain ⟨_, e2, k2⟩ := K.dep 2 rfl rfl rfl
               refine ow_set 162 (.pointer (some ⟨8, 0, none⟩)) rfl e2 ?_
               exact ow_fieldAddr Tryz.underlying206 rfl sz3 (by decide) rfl ⟨Below.refl _ _, Left.of rfl⟩
             · intro vs X wq K
               have LE := K.1
               have XN := K.2.1
               have SQ := Nat.le_trans LW.size (Nat.le_trans E.size LE.size)
               obtain ⟨_, e3, k3⟩ := K.dep 3 rfl rfl rfl
               refine ow_set 163 (.pointer (some ⟨8, 2, none⟩)) rfl e3 ?_
               exact ow_load1 Tryz.underlying3 rfl rfl (HF.on (E.drew.trans (LE.mono OY))).here.2 ⟨Below.refl _ _, Left.of rfl⟩
             · intro vs X wq K
               have LE := K.1
               have XN := K.2.1
               have SQ := Nat.le_trans LW.size (Nat.le_trans E.size LE.size)
               obtain ⟨_, e0, k0⟩ := K.dep 0 rfl rfl rfl
               refine ow_set 160 (.int .i64 (e3 + 1)) rfl e0 ?_
               obtain ⟨_, e4, k4⟩ := K.dep 4 rfl rfl rfl
               refine ow_set 164 (.int .i64 (-1023)) rfl e4 ?_
               exact ow_sub rfl rfl (wrap_i64 (by omega)) ⟨Below.refl _ _, Left.of rfl⟩
             · intro vs X wq K
               have LE := K.1
               have XN := K.2.1
               have SQ := Nat.le_trans LW.size (Nat.le_trans E.size LE.size)
               exact ow_move rfl ⟨Below.refl _ _, Left.of rfl⟩
             · intro vs X wq K
               have LE := K.1
               have XN := K.2.1
               have SQ := Nat.le_trans LW.size (Nat.le_trans E.size LE.size)
               obtain ⟨_, e6, k6⟩ := K.dep 6 rfl rfl rfl
               refine ow_set 166 (.pointer (some ⟨8, 0, none⟩)) rfl e6 ?_
               exact ow_nilCheck rfl ⟨Below.refl _ _, Left.of rfl⟩
             · intro vs X wq K
               have LE := K.1
               have XN := K.2.1
               have SQ := Nat.le_trans LW.size (Nat.le_trans E.size LE.size)
               obtain ⟨_, e7, k7⟩ := K.dep 7 rfl rfl rfl
               refine ow_set 167 (.pointer (some ⟨8, 0, none⟩)) rfl e7 ?_
               exact ow_fieldAddr Tryz.underlying206 rfl sz144 (by decide) rfl ⟨Below.refl _ _, Left.of rfl⟩
             · intro vs X wq K
               have LE := K.1
               have XN := K.2.1
               have SQ := Nat.le_trans LW.size (Nat.le_trans E.size LE.size)
               obtain ⟨_, e8, k8⟩ := K.dep 8 rfl rfl rfl
               refine ow_set 168 (.pointer (some ⟨8, 1, none⟩)) rfl e8 ?_
               exact ow_load1 Tryz.underlying144 rfl rfl (HF.on (E.drew.trans (LE.mono OY))).here.1.2 ⟨Below.refl _ _, Left.of rfl⟩
             · intro vs X wq K
               have LE := K.1
               have XN := K.2.1
               have SQ := Nat.le_trans LW.size (Nat.le_trans E.size LE.size)
               obtain ⟨_, e9, k9⟩ := K.dep 9 rfl rfl rfl
               refine ow_set 169 (.int .u64 11) rfl e9 ?_
               exact ow_shl (z := 2048) rfl rfl (by decide) (by kernel_rfl) ⟨Below.refl _ _, Left.of rfl⟩
             · intro vs X wq K
               have LE := K.1
               have XN := K.2.1
               have SQ := Nat.le_trans LW.size (Nat.le_trans E.size LE.size)
               obtain ⟨_, e10, k10⟩ := K.dep 10 rfl rfl rfl
               refine ow_set 170 (.int .i64 2048) rfl e10 ?_
               exact ow_sub (z := 2047) rfl rfl (by kernel_rfl) ⟨Below.refl _ _, Left.of rfl⟩
             · intro vs X wq K
               have LE := K.1
               have XN := K.2.1
               have SQ := Nat.le_trans LW.size (Nat.le_trans E.size LE.size)
               obtain ⟨_, e5, k5⟩ := K.dep 5 rfl rfl rfl
               refine ow_set 165 (.int .i64 ((e3 + 1) - (-1023))) rfl e5 ?_
               obtain ⟨_, e11, k11⟩ := K.dep 11 rfl rfl rfl
               refine ow_set 171 (.int .i64 2047) rfl e11 ?_
               exact ow_geq rfl rfl ⟨Below.refl _ _, Left.of (bool_dec (by omega))⟩
           intro vs w45 LE AO AL AF AA
           have LBa := Ba
           replace Ba := Ba.drew.extN LE NotIn.nil
           replace E := E.drew.trans (LE.mono OY)
           obtain ⟨_, e12, k12⟩ := AL.2.2.2.2.2.2.2.2.2.2.2.2.1
           refine ew_sub (τ := [(0, _), (1, _), (4, _), (5, _), (6, _), (7, _), (172, .bool (decide (1023 ≤ e3)))]) ⟨rfl, rfl, rfl, rfl, rfl, rfl, congrArg some e12, trivial⟩ ?_
           clear AL AF AA LE AO OY e12 k12 LBa
           exact ew_mid (decide (1023 ≤ e3)) ⟨rfl, rfl, rfl, rfl, rfl, rfl, rfl, trivial⟩ ⟨M43.step E XM43, (by exact Ba), rfl⟩
          ·
           have LTa := (some_lt Ba.lt)
           clear Ba
           rintro g w44 ⟨M43, Ba, hg3⟩
           have XM43 : ∀ q9, (Mut [(some ga)]) q9 → (Mut [(some ga)]) q9 ∨ w42.heap.size ≤ q9 := (Mut.grow Mut.none_ (fun k e => Or.inl (Mut.head k e)))
           replace E := E.trans M43
           replace HF := HF.on E
           replace LW := LW.step E XLW
           replace E := Ext.refl (Mut [(some ga)]) w44
           clear LTa
           refine cw_cond rfl (fun h6 => ?_) (fun h6 => ?_)
           ·
            rw [hg3] at h6
            have h6 := of_decide_eq_true h6
            rw [if_pos h6] at hfb
            refine cw_goto ?_
            refine ew_then_goto ?_
            refine ew_scope_goto rfl ?_
            refine cw_seq ?_
            refine cw_skip ?_
            refine ew_next ?_
            refine cw_seq ?_
            refine cw_region ?_
            refine rs_op rfl (ow_assign rfl ?_)
            refine rs_nil ?_
            refine ew_next ?_
            refine cw_seq ?_
            have OY : ∀ q9, (Mut (outM [])) q9 → q9 < (World.drew w44).heap.size → (Mut [(some ga)]) q9 := fun k h _ => (Mut.none_) k h
            refine cw_drawn (Mut [(some ga)]) (Mut.grow Mut.none_ (some_lt Ba.lt)) [] [] (fxAt [Fx.of (.pointer (some ⟨8, 0, none⟩)),
             Fx.of (.pointer (some ⟨8, 0, none⟩)),
             Fx.of (.pointer (some ⟨8, 1, none⟩)),
             Fx.of (.int .u64 11),
             Fx.of (.int .i64 2048),
             Fx.of (.int .i64 2047),
             Fx.of (.pointer (some ⟨8, 0, none⟩)),
             Fx.of (.pointer (some ⟨8, 0, none⟩)),
             Fx.of (.pointer (some ⟨8, 2, none⟩)),
             Fx.of (.int .i64 (-1023)),
             Fx.of (.int .i64 1024),
             Fx.of (.int .i64 1024)]) mixed rfl trivial (fun _ h => by cases h) ?_ ?_
            · refine ⟨?_, ?_, ?_, ?_, ?_, ?_, ?_, ?_, ?_, ?_, ?_, ?_, trivial⟩
              · intro vs X wq K
                have LE := K.1
                have XN := K.2.1
                have SQ := Nat.le_trans LW.size (Nat.le_trans E.size LE.size)
                exact ow_move rfl ⟨Below.refl _ _, Left.of rfl⟩
              · intro vs X wq K
                have LE := K.1
                have XN := K.2.1
                have SQ := Nat.le_trans LW.size (Nat.le_trans E.size LE.size)
                obtain ⟨_, e0, k0⟩ := K.dep 0 rfl rfl rfl
                refine ow_set 185 (.pointer (some ⟨8, 0, none⟩)) rfl e0 ?_
                exact ow_nilCheck rfl ⟨Below.refl _ _, Left.of rfl⟩
              · intro vs X wq K
                have LE := K.1
                have XN := K.2.1
                have SQ := Nat.le_trans LW.size (Nat.le_trans E.size LE.size)
                obtain ⟨_, e1, k1⟩ := K.dep 1 rfl rfl rfl
                refine ow_set 186 (.pointer (some ⟨8, 0, none⟩)) rfl e1 ?_
                exact ow_fieldAddr Tryz.underlying206 rfl sz144 (by decide) rfl ⟨Below.refl _ _, Left.of rfl⟩
              · intro vs X wq K
                have LE := K.1
                have XN := K.2.1
                have SQ := Nat.le_trans LW.size (Nat.le_trans E.size LE.size)
                obtain ⟨_, e2, k2⟩ := K.dep 2 rfl rfl rfl
                refine ow_set 187 (.pointer (some ⟨8, 1, none⟩)) rfl e2 ?_
                exact ow_load1 Tryz.underlying144 rfl rfl (HF.on (E.drew.trans (LE.mono OY))).here.1.2 ⟨Below.refl _ _, Left.of rfl⟩
              · intro vs X wq K
                have LE := K.1
                have XN := K.2.1
                have SQ := Nat.le_trans LW.size (Nat.le_trans E.size LE.size)
                obtain ⟨_, e3, k3⟩ := K.dep 3 rfl rfl rfl
                refine ow_set 188 (.int .u64 11) rfl e3 ?_
                exact ow_shl (z := 2048) rfl rfl (by decide) (by kernel_rfl) ⟨Below.refl _ _, Left.of rfl⟩
              · intro vs X wq K
                have LE := K.1
                have XN := K.2.1
                have SQ := Nat.le_trans LW.size (Nat.le_trans E.size LE.size)
                obtain ⟨_, e4, k4⟩ := K.dep 4 rfl rfl rfl
                refine ow_set 189 (.int .i64 2048) rfl e4 ?_
                exact ow_sub (z := 2047) rfl rfl (by kernel_rfl) ⟨Below.refl _ _, Left.of rfl⟩
              · intro vs X wq K
                have LE := K.1
                have XN := K.2.1
                have SQ := Nat.le_trans LW.size (Nat.le_trans E.size LE.size)
                exact ow_move rfl ⟨Below.refl _ _, Left.of rfl⟩
              · intro vs X wq K
                have LE := K.1
                have XN := K.2.1
                have SQ := Nat.le_trans LW.size (Nat.le_trans E.size LE.size)
                obtain ⟨_, e6, k6⟩ := K.dep 6 rfl rfl rfl
                refine ow_set 191 (.pointer (some ⟨8, 0, none⟩)) rfl e6 ?_
                exact ow_nilCheck rfl ⟨Below.refl _ _, Left.of rfl⟩
              · intro vs X wq K
                have LE := K.1
                have XN := K.2.1
                have SQ := Nat.le_trans LW.size (Nat.le_trans E.size LE.size)
                obtain ⟨_, e7, k7⟩ := K.dep 7 rfl rfl rfl
                refine ow_set 192 (.pointer (some ⟨8, 0, none⟩)) rfl e7 ?_
                exact ow_fieldAddr Tryz.underlying206 rfl sz3 (by decide) rfl ⟨Below.refl _ _, Left.of rfl⟩
              · intro vs X wq K
                have LE := K.1
                have XN := K.2.1
                have SQ := Nat.le_trans LW.size (Nat.le_trans E.size LE.size)
                obtain ⟨_, e8, k8⟩ := K.dep 8 rfl rfl rfl
                refine ow_set 193 (.pointer (some ⟨8, 2, none⟩)) rfl e8 ?_
                exact ow_load1 Tryz.underlying3 rfl rfl (HF.on (E.drew.trans (LE.mono OY))).here.2 ⟨Below.refl _ _, Left.of rfl⟩
              · intro vs X wq K
                have LE := K.1
                have XN := K.2.1
                have SQ := Nat.le_trans LW.size (Nat.le_trans E.size LE.size)
                obtain ⟨_, e5, k5⟩ := K.dep 5 rfl rfl rfl
                refine ow_set 190 (.int .i64 2047) rfl e5 ?_
                obtain ⟨_, e9, k9⟩ := K.dep 9 rfl rfl rfl
                refine ow_set 194 (.int .i64 (-1023)) rfl e9 ?_
                exact ow_add (z := 1024) rfl rfl (by kernel_rfl) ⟨Below.refl _ _, Left.of rfl⟩
              · intro vs X wq K
                have LE := K.1
                have XN := K.2.1
                have SQ := Nat.le_trans LW.size (Nat.le_trans E.size LE.size)
                obtain ⟨_, e10, k10⟩ := K.dep 10 rfl rfl rfl
                refine ow_set 195 (.int .i64 1024) rfl e10 ?_
                exact ow_assign rfl ⟨Below.refl _ _, Left.of rfl⟩
            intro vs w46 LE AO AL AF AA
            have LBa := Ba
            replace Ba := Ba.drew.extN LE NotIn.nil
            replace E := E.drew.trans (LE.mono OY)
            obtain ⟨_, e11, k11⟩ := AL.2.2.2.2.2.2.2.2.2.2.2.1
            refine ew_sub (τ := [(0, _), (1, _), (4, _), (5, _), (6, .int .i64 1024), (7, _)]) ⟨rfl, rfl, rfl, rfl, congrArg some e11, rfl, trivial⟩ ?_
            clear AL AF AA LE AO OY e11 k11 LBa
            refine ew_next ?_
            refine cw_seq ?_
            refine cw_region ?_
            refine rs_op rfl (ow_assign rfl ?_)
            refine rs_nil ?_
            refine ew_next ?_
            refine cw_seq ?_
            refine cw_label ?_
            refine ew_next ?_
            refine cw_seq ?_
            refine cw_region ?_
            refine rs_op rfl (ow_move rfl ?_)
            refine rs_op rfl (ow_move rfl ?_)
            refine rs_op rfl (ow_nilCheck rfl ?_)
            refine rs_op rfl (ow_fieldAddr Tryz.underlying206 rfl sz144 (by decide) rfl ?_)
            refine rs_op rfl (ow_load1 Tryz.underlying144 rfl rfl (HF.on E).here.1.1.2 ?_)
            refine rs_op rfl (ow_shl (z := 4503599627370496) rfl rfl (by decide) (by kernel_rfl) ?_)
            refine rs_op rfl (ow_sub (z := 4503599627370495) rfl rfl (by kernel_rfl) ?_)
            refine rs_op rfl (ow_and (z := 0) rfl rfl (by kernel_rfl) ?_)
            refine rs_op rfl (ow_assign rfl ?_)
            refine rs_nil ?_
            refine ew_next ?_
            refine cw_seq ?_
            have OY : ∀ q9, (Mut (outM [])) q9 → q9 < (World.drew w46).heap.size → (Mut [(some ga)]) q9 := fun k h _ => (Mut.none_) k h
            refine cw_drawn (Mut [(some ga)]) (Mut.grow Mut.none_ (some_lt Ba.lt)) [] [] (fxAt [Fx.of (.int .u64 0),
             Fx.of (.int .i64 1024),
             Fx.of (.pointer (some ⟨8, 0, none⟩)),
             Fx.of (.pointer (some ⟨8, 0, none⟩)),
             Fx.of (.pointer (some ⟨8, 2, none⟩)),
             Fx.of (.int .i64 (-1023)),
             Fx.of (.int .i64 2047),
             Fx.of (.pointer (some ⟨8, 0, none⟩)),
             Fx.of (.pointer (some ⟨8, 0, none⟩)),
             Fx.of (.pointer (some ⟨8, 1, none⟩)),
             Fx.of (.int .u64 11),
             Fx.of (.int .i64 2048),
             Fx.of (.int .i64 2047),
             Fx.of (.int .i64 2047),
             Fx.of (.int .u64 2047),
             Fx.of (.pointer (some ⟨8, 0, none⟩)),
             Fx.of (.pointer (some ⟨8, 0, none⟩)),
             Fx.of (.pointer (some ⟨8, 0, none⟩)),
             Fx.of (.int .u64 52),
             Fx.of (.int .u64 9218868437227405312),
             Fx.of (.int .u64 9218868437227405312),
             Fx.of (.int .u64 9218868437227405312)]) mixed rfl trivial (fun _ h => by cases h) ?_ ?_
            · refine ⟨?_, ?_, ?_, ?_, ?_, ?_, ?_, ?_, ?_, ?_, ?_, ?_, ?_, ?_, ?_, ?_, ?_, ?_, ?_, ?_, ?_, ?_, trivial⟩
              · intro vs X wq K
                have LE := K.1
                have XN := K.2.1
                have SQ := Nat.le_trans LW.size (Nat.le_trans E.size LE.size)
                exact ow_move rfl ⟨Below.refl _ _, Left.of rfl⟩
              · intro vs X wq K
                have LE := K.1
                have XN := K.2.1
                have SQ := Nat.le_trans LW.size (Nat.le_trans E.size LE.size)
                exact ow_move rfl ⟨Below.refl _ _, Left.of rfl⟩
              · intro vs X wq K
                have LE := K.1
                have XN := K.2.1
                have SQ := Nat.le_trans LW.size (Nat.le_trans E.size LE.size)
                exact ow_move rfl ⟨Below.refl _ _, Left.of rfl⟩
              · intro vs X wq K
                have LE := K.1
                have XN := K.2.1
                have SQ := Nat.le_trans LW.size (Nat.le_trans E.size LE.size)
                obtain ⟨_, e2, k2⟩ := K.dep 2 rfl rfl rfl
                refine ow_set 206 (.pointer (some ⟨8, 0, none⟩)) rfl e2 ?_
                exact ow_nilCheck rfl ⟨Below.refl _ _, Left.of rfl⟩
              · intro vs X wq K
                have LE := K.1
                have XN := K.2.1
                have SQ := Nat.le_trans LW.size (Nat.le_trans E.size LE.size)
                obtain ⟨_, e3, k3⟩ := K.dep 3 rfl rfl rfl
                refine ow_set 207 (.pointer (some ⟨8, 0, none⟩)) rfl e3 ?_
                exact ow_fieldAddr Tryz.underlying206 rfl sz3 (by decide) rfl ⟨Below.refl _ _, Left.of rfl⟩
              · intro vs X wq K
                have LE := K.1
                have XN := K.2.1
                have SQ := Nat.le_trans LW.size (Nat.le_trans E.size LE.size)
                obtain ⟨_, e4, k4⟩ := K.dep 4 rfl rfl rfl
                refine ow_set 208 (.pointer (some ⟨8, 2, none⟩)) rfl e4 ?_
                exact ow_load1 Tryz.underlying3 rfl rfl (HF.on (E.drew.trans (LE.mono OY))).here.2 ⟨Below.refl _ _, Left.of rfl⟩
              · intro vs X wq K
                have LE := K.1
                have XN := K.2.1
                have SQ := Nat.le_trans LW.size (Nat.le_trans E.size LE.size)
                obtain ⟨_, e1, k1⟩ := K.dep 1 rfl rfl rfl
                refine ow_set 205 (.int .i64 1024) rfl e1 ?_
                obtain ⟨_, e5, k5⟩ := K.dep 5 rfl rfl rfl
                refine ow_set 209 (.int .i64 (-1023)) rfl e5 ?_
                exact ow_sub (z := 2047) rfl rfl (by kernel_rfl) ⟨Below.refl _ _, Left.of rfl⟩
              · intro vs X wq K
                have LE := K.1
                have XN := K.2.1
                have SQ := Nat.le_trans LW.size (Nat.le_trans E.size LE.size)
                exact ow_move rfl ⟨Below.refl _ _, Left.of rfl⟩
              · intro vs X wq K
                have LE := K.1
                have XN := K.2.1
                have SQ := Nat.le_trans LW.size (Nat.le_trans E.size LE.size)
                obtain ⟨_, e7, k7⟩ := K.dep 7 rfl rfl rfl
                refine ow_set 211 (.pointer (some ⟨8, 0, none⟩)) rfl e7 ?_
                exact ow_nilCheck rfl ⟨Below.refl _ _, Left.of rfl⟩
              · intro vs X wq K
                have LE := K.1
                have XN := K.2.1
                have SQ := Nat.le_trans LW.size (Nat.le_trans E.size LE.size)
                obtain ⟨_, e8, k8⟩ := K.dep 8 rfl rfl rfl
                refine ow_set 212 (.pointer (some ⟨8, 0, none⟩)) rfl e8 ?_
                exact ow_fieldAddr Tryz.underlying206 rfl sz144 (by decide) rfl ⟨Below.refl _ _, Left.of rfl⟩
              · intro vs X wq K
                have LE := K.1
                have XN := K.2.1
                have SQ := Nat.le_trans LW.size (Nat.le_trans E.size LE.size)
                obtain ⟨_, e9, k9⟩ := K.dep 9 rfl rfl rfl
                refine ow_set 213 (.pointer (some ⟨8, 1, none⟩)) rfl e9 ?_
                exact ow_load1 Tryz.underlying144 rfl rfl (HF.on (E.drew.trans (LE.mono OY))).here.1.2 ⟨Below.refl _ _, Left.of rfl⟩
              · intro vs X wq K
                have LE := K.1
                have XN := K.2.1
                have SQ := Nat.le_trans LW.size (Nat.le_trans E.size LE.size)
                obtain ⟨_, e10, k10⟩ := K.dep 10 rfl rfl rfl
                refine ow_set 214 (.int .u64 11) rfl e10 ?_
                exact ow_shl (z := 2048) rfl rfl (by decide) (by kernel_rfl) ⟨Below.refl _ _, Left.of rfl⟩
              · intro vs X wq K
                have LE := K.1
                have XN := K.2.1
                have SQ := Nat.le_trans LW.size (Nat.le_trans E.size LE.size)
                obtain ⟨_, e11, k11⟩ := K.dep 11 rfl rfl rfl
                refine ow_set 215 (.int .i64 2048) rfl e11 ?_
                exact ow_sub (z := 2047) rfl rfl (by kernel_rfl) ⟨Below.refl _ _, Left.of rfl⟩
              · intro vs X wq K
                have LE := K.1
                have XN := K.2.1
                have SQ := Nat.le_trans LW.size (Nat.le_trans E.size LE.size)
                obtain ⟨_, e6, k6⟩ := K.dep 6 rfl rfl rfl
                refine ow_set 210 (.int .i64 2047) rfl e6 ?_
                obtain ⟨_, e12, k12⟩ := K.dep 12 rfl rfl rfl
                refine ow_set 216 (.int .i64 2047) rfl e12 ?_
                exact ow_and (z := 2047) rfl rfl (by kernel_rfl) ⟨Below.refl _ _, Left.of rfl⟩
              · intro vs X wq K
                have LE := K.1
                have XN := K.2.1
                have SQ := Nat.le_trans LW.size (Nat.le_trans E.size LE.size)
                obtain ⟨_, e13, k13⟩ := K.dep 13 rfl rfl rfl
                refine ow_set 217 (.int .i64 2047) rfl e13 ?_
                exact ow_conv (z := 2047) Tryz.underlying32 Tryz.underlying3 rfl (by kernel_rfl) ⟨Below.refl _ _, Left.of rfl⟩
              · intro vs X wq K
                have LE := K.1
                have XN := K.2.1
                have SQ := Nat.le_trans LW.size (Nat.le_trans E.size LE.size)
                exact ow_move rfl ⟨Below.refl _ _, Left.of rfl⟩
              · intro vs X wq K
                have LE := K.1
                have XN := K.2.1
                have SQ := Nat.le_trans LW.size (Nat.le_trans E.size LE.size)
                obtain ⟨_, e15, k15⟩ := K.dep 15 rfl rfl rfl
                refine ow_set 219 (.pointer (some ⟨8, 0, none⟩)) rfl e15 ?_
                exact ow_nilCheck rfl ⟨Below.refl _ _, Left.of rfl⟩
              · intro vs X wq K
                have LE := K.1
                have XN := K.2.1
                have SQ := Nat.le_trans LW.size (Nat.le_trans E.size LE.size)
                obtain ⟨_, e16, k16⟩ := K.dep 16 rfl rfl rfl
                refine ow_set 220 (.pointer (some ⟨8, 0, none⟩)) rfl e16 ?_
                exact ow_fieldAddr Tryz.underlying206 rfl sz144 (by decide) rfl ⟨Below.refl _ _, Left.of rfl⟩
              · intro vs X wq K
                have LE := K.1
                have XN := K.2.1
                have SQ := Nat.le_trans LW.size (Nat.le_trans E.size LE.size)
                obtain ⟨_, e17, k17⟩ := K.dep 17 rfl rfl rfl
                refine ow_set 221 (.pointer (some ⟨8, 0, none⟩)) rfl e17 ?_
                exact ow_load1 Tryz.underlying144 rfl rfl (HF.on (E.drew.trans (LE.mono OY))).here.1.1.2 ⟨Below.refl _ _, Left.of rfl⟩
              · intro vs X wq K
                have LE := K.1
                have XN := K.2.1
                have SQ := Nat.le_trans LW.size (Nat.le_trans E.size LE.size)
                obtain ⟨_, e14, k14⟩ := K.dep 14 rfl rfl rfl
                refine ow_set 218 (.int .u64 2047) rfl e14 ?_
                obtain ⟨_, e18, k18⟩ := K.dep 18 rfl rfl rfl
                refine ow_set 222 (.int .u64 52) rfl e18 ?_
                exact ow_shl (z := 9218868437227405312) rfl rfl (by decide) (by kernel_rfl) ⟨Below.refl _ _, Left.of rfl⟩
              · intro vs X wq K
                have LE := K.1
                have XN := K.2.1
                have SQ := Nat.le_trans LW.size (Nat.le_trans E.size LE.size)
                obtain ⟨_, e0, k0⟩ := K.dep 0 rfl rfl rfl
                refine ow_set 204 (.int .u64 0) rfl e0 ?_
                obtain ⟨_, e19, k19⟩ := K.dep 19 rfl rfl rfl
                refine ow_set 223 (.int .u64 9218868437227405312) rfl e19 ?_
                exact ow_or (z := 9218868437227405312) rfl rfl (by kernel_rfl) ⟨Below.refl _ _, Left.of rfl⟩
              · intro vs X wq K
                have LE := K.1
                have XN := K.2.1
                have SQ := Nat.le_trans LW.size (Nat.le_trans E.size LE.size)
                obtain ⟨_, e20, k20⟩ := K.dep 20 rfl rfl rfl
                refine ow_set 224 (.int .u64 9218868437227405312) rfl e20 ?_
                exact ow_assign rfl ⟨Below.refl _ _, Left.of rfl⟩
            intro vs w47 LE AO AL AF AA
            have LBa := Ba
            replace Ba := Ba.drew.extN LE NotIn.nil
            replace E := E.drew.trans (LE.mono OY)
            obtain ⟨_, e21, k21⟩ := AL.2.2.2.2.2.2.2.2.2.2.2.2.2.2.2.2.2.2.2.2.2.1
            refine ew_sub (τ := [(0, _), (1, _), (4, _), (5, _), (11, .int .u64 9218868437227405312)]) ⟨rfl, rfl, rfl, rfl, congrArg some e21, trivial⟩ ?_
            clear AL AF AA LE AO OY e21 k21 LBa
            refine ew_next ?_
            refine cw_seq ?_
            refine cw_seq ?_
            refine cw_region ?_
            refine rs_op rfl (ow_move rfl ?_)
            refine rs_op rfl (ow_nilCheck rfl ?_)
            refine rs_op rfl (ow_fieldAddr Tryz.underlying193 rfl sz4 (by decide) rfl ?_)
            refine rs_op rfl (ow_loadF Tryz.underlying4 rfl rfl Ba (ngAt hl5 t.neg hn5) ?_)
            refine rs_nil ?_
            refine ew_next ?_
            refine cw_cond rfl (fun hng => ?_) (fun hng => ?_)
            ·
             have OY : ∀ q9, (Mut (outM [])) q9 → q9 < (World.drew w47).heap.size → (Mut [(some ga)]) q9 := fun k h _ => (Mut.none_) k h
             refine cw_drawn (Mut [(some ga)]) (Mut.grow Mut.none_ (some_lt Ba.lt)) [] [] (fxAt [Fx.of (.int .u64 9218868437227405312),
              Fx.of (.pointer (some ⟨8, 0, none⟩)),
              Fx.of (.pointer (some ⟨8, 0, none⟩)),
              Fx.of (.pointer (some ⟨8, 0, none⟩)),
              Fx.of (.int .u64 52),
              Fx.of (.int .u64 4503599627370496),
              Fx.of (.pointer (some ⟨8, 0, none⟩)),
              Fx.of (.pointer (some ⟨8, 0, none⟩)),
              Fx.of (.pointer (some ⟨8, 1, none⟩)),
              Fx.of (.int .u64 11),
              Fx.of (.int .u64 9223372036854775808),
              Fx.of (.int .u64 18442240474082181120),
              Fx.of (.int .u64 18442240474082181120)]) mixed rfl trivial (fun _ h => by cases h) ?_ ?_
             · refine ⟨?_, ?_, ?_, ?_, ?_, ?_, ?_, ?_, ?_, ?_, ?_, ?_, ?_, trivial⟩
               · intro vs X wq K
                 have LE := K.1
                 have XN := K.2.1
                 have SQ := Nat.le_trans LW.size (Nat.le_trans E.size LE.size)
                 exact ow_move rfl ⟨Below.refl _ _, Left.of rfl⟩
               · intro vs X wq K
                 have LE := K.1
                 have XN := K.2.1
                 have SQ := Nat.le_trans LW.size (Nat.le_trans E.size LE.size)
                 exact ow_move rfl ⟨Below.refl _ _, Left.of rfl⟩
               · intro vs X wq K
                 have LE := K.1
                 have XN := K.2.1
                 have SQ := Nat.le_trans LW.size (Nat.le_trans E.size LE.size)
                 obtain ⟨_, e1, k1⟩ := K.dep 1 rfl rfl rfl
                 refine ow_set 230 (.pointer (some ⟨8, 0, none⟩)) rfl e1 ?_
                 exact ow_nilCheck rfl ⟨Below.refl _ _, Left.of rfl⟩
               · intro vs X wq K
                 have LE := K.1
                 have XN := K.2.1
                 have SQ := Nat.le_trans LW.size (Nat.le_trans E.size LE.size)
                 obtain ⟨_, e2, k2⟩ := K.dep 2 rfl rfl rfl
                 refine ow_set 231 (.pointer (some ⟨8, 0, none⟩)) rfl e2 ?_
                 exact ow_fieldAddr Tryz.underlying206 rfl sz144 (by decide) rfl ⟨Below.refl _ _, Left.of rfl⟩
               · intro vs X wq K
                 have LE := K.1
                 have XN := K.2.1
                 have SQ := Nat.le_trans LW.size (Nat.le_trans E.size LE.size)
                 obtain ⟨_, e3, k3⟩ := K.dep 3 rfl rfl rfl
                 refine ow_set 232 (.pointer (some ⟨8, 0, none⟩)) rfl e3 ?_
                 exact ow_load1 Tryz.underlying144 rfl rfl (HF.on (E.drew.trans (LE.mono OY))).here.1.1.2 ⟨Below.refl _ _, Left.of rfl⟩
               · intro vs X wq K
                 have LE := K.1
                 have XN := K.2.1
                 have SQ := Nat.le_trans LW.size (Nat.le_trans E.size LE.size)
                 obtain ⟨_, e4, k4⟩ := K.dep 4 rfl rfl rfl
                 refine ow_set 233 (.int .u64 52) rfl e4 ?_
                 exact ow_shl (z := 4503599627370496) rfl rfl (by decide) (by kernel_rfl) ⟨Below.refl _ _, Left.of rfl⟩
               · intro vs X wq K
                 have LE := K.1
                 have XN := K.2.1
                 have SQ := Nat.le_trans LW.size (Nat.le_trans E.size LE.size)
                 exact ow_move rfl ⟨Below.refl _ _, Left.of rfl⟩
               · intro vs X wq K
                 have LE := K.1
                 have XN := K.2.1
                 have SQ := Nat.le_trans LW.size (Nat.le_trans E.size LE.size)
                 obtain ⟨_, e6, k6⟩ := K.dep 6 rfl rfl rfl
                 refine ow_set 235 (.pointer (some ⟨8, 0, none⟩)) rfl e6 ?_
                 exact ow_nilCheck rfl ⟨Below.refl _ _, Left.of rfl⟩
               · intro vs X wq K
                 have LE := K.1
                 have XN := K.2.1
                 have SQ := Nat.le_trans LW.size (Nat.le_trans E.size LE.size)
                 obtain ⟨_, e7, k7⟩ := K.dep 7 rfl rfl rfl
                 refine ow_set 236 (.pointer (some ⟨8, 0, none⟩)) rfl e7 ?_
                 exact ow_fieldAddr Tryz.underlying206 rfl sz144 (by decide) rfl ⟨Below.refl _ _, Left.of rfl⟩
               · intro vs X wq K
                 have LE := K.1
                 have XN := K.2.1
                 have SQ := Nat.le_trans LW.size (Nat.le_trans E.size LE.size)
                 obtain ⟨_, e8, k8⟩ := K.dep 8 rfl rfl rfl
                 refine ow_set 237 (.pointer (some ⟨8, 1, none⟩)) rfl e8 ?_
                 exact ow_load1 Tryz.underlying144 rfl rfl (HF.on (E.drew.trans (LE.mono OY))).here.1.2 ⟨Below.refl _ _, Left.of rfl⟩
               · intro vs X wq K
                 have LE := K.1
                 have XN := K.2.1
                 have SQ := Nat.le_trans LW.size (Nat.le_trans E.size LE.size)
                 obtain ⟨_, e5, k5⟩ := K.dep 5 rfl rfl rfl
                 refine ow_set 234 (.int .u64 4503599627370496) rfl e5 ?_
                 obtain ⟨_, e9, k9⟩ := K.dep 9 rfl rfl rfl
                 refine ow_set 238 (.int .u64 11) rfl e9 ?_
                 exact ow_shl (z := 9223372036854775808) rfl rfl (by decide) (by kernel_rfl) ⟨Below.refl _ _, Left.of rfl⟩
               · intro vs X wq K
                 have LE := K.1
                 have XN := K.2.1
                 have SQ := Nat.le_trans LW.size (Nat.le_trans E.size LE.size)
                 obtain ⟨_, e0, k0⟩ := K.dep 0 rfl rfl rfl
                 refine ow_set 229 (.int .u64 9218868437227405312) rfl e0 ?_
                 obtain ⟨_, e10, k10⟩ := K.dep 10 rfl rfl rfl
                 refine ow_set 239 (.int .u64 9223372036854775808) rfl e10 ?_
                 exact ow_or (z := 18442240474082181120) rfl rfl (by kernel_rfl) ⟨Below.refl _ _, Left.of rfl⟩
               · intro vs X wq K
                 have LE := K.1
                 have XN := K.2.1
                 have SQ := Nat.le_trans LW.size (Nat.le_trans E.size LE.size)
                 obtain ⟨_, e11, k11⟩ := K.dep 11 rfl rfl rfl
                 refine ow_set 240 (.int .u64 18442240474082181120) rfl e11 ?_
                 exact ow_assign rfl ⟨Below.refl _ _, Left.of rfl⟩
             intro vs w48 LE AO AL AF AA
             have LBa := Ba
             replace Ba := Ba.drew.extN LE NotIn.nil
             replace E := E.drew.trans (LE.mono OY)
             obtain ⟨_, e12, k12⟩ := AL.2.2.2.2.2.2.2.2.2.2.2.2.1
             refine ew_sub (τ := [(4, _), (5, _), (11, .int .u64 18442240474082181120)]) ⟨rfl, rfl, congrArg some e12, trivial⟩ ?_
             clear AL AF AA LE AO OY e12 k12 LBa
             refine ew_next ?_
             refine cw_seq ?_
             refine cw_region ?_
             refine rs_op rfl (ow_move rfl ?_)
             refine rs_op rfl (ow_move rfl ?_)
             refine rs_op rfl (ow_assign rfl ?_)
             refine rs_op rfl (ow_assign rfl ?_)
             refine rs_nil ?_
             refine ew_next ?_
             refine cw_ret ?_
             refine ew_scope_ret ?_
             have e : slowF t = 18442240474082181120 := by unfold slowF; rw [hfb, hng]; decide +kernel
             refine ew_ret (rs := [.tmp 4, .tmp 5]) (vs := [_, _]) rfl ⟨rfl, rfl, trivial⟩ ?_
             exact ⟨by rw [e, hfb]; rfl, ⟨_, Ba⟩, (LW.step E XLW)⟩
            ·
             refine cw_skip ?_
             refine ew_next ?_
             refine cw_seq ?_
             refine cw_region ?_
             refine rs_op rfl (ow_move rfl ?_)
             refine rs_op rfl (ow_move rfl ?_)
             refine rs_op rfl (ow_assign rfl ?_)
             refine rs_op rfl (ow_assign rfl ?_)
             refine rs_nil ?_
             refine ew_next ?_
             refine cw_ret ?_
             refine ew_scope_ret ?_
             have e : slowF t = 9218868437227405312 := by unfold slowF; rw [hfb, hng]; decide +kernel
             refine ew_ret (rs := [.tmp 4, .tmp 5]) (vs := [_, _]) rfl ⟨rfl, rfl, trivial⟩ ?_
             exact ⟨by rw [e, hfb]; rfl, ⟨_, Ba⟩, (LW.step E XLW)⟩
           ·
            rw [hg3] at h6
            have h6 := of_decide_eq_false h6
            rw [if_neg h6] at hfb
            obtain ⟨Kx, hK⟩ : ∃ Kx, Kx = (e3 + 1 + 1023).toNat := ⟨_, rfl⟩
            rw [← hK] at hfb
            refine cw_skip ?_
            refine ew_next ?_
            refine cw_seq ?_
            refine cw_seq ?_
            refine cw_set 7 (.int .u64 ((4503599627370496 : Nat) : Int)) rfl (rfl) ?_
            refine cw_region ?_
            refine rs_op rfl (ow_move rfl ?_)
            refine rs_op rfl (ow_move rfl ?_)
            refine rs_op rfl (ow_nilCheck rfl ?_)
            refine rs_op rfl (ow_fieldAddr Tryz.underlying206 rfl sz144 (by decide) rfl ?_)
            refine rs_op rfl (ow_load1 Tryz.underlying144 rfl rfl (HF.on E).here.1.1.2 ?_)
            refine rs_op rfl (ow_shl (z := 4503599627370496) rfl rfl (by decide) (by kernel_rfl) ?_)
            refine rs_op rfl (ow_and rfl rfl (and_hi (m := 4503599627370496) (by decide)) ?_)
            refine rs_op rfl (ow_eql rfl rfl ?_)
            refine rs_nil ?_
            refine ew_next ?_
            refine cw_set 180 (.bool false) rfl ((by rw [beq_no (by decide +kernel)] : (.bool (((4503599627370496 &&& 4503599627370496 : Nat) : Int) == 0) : Value) = _)) ?_
            have hmm : 4503599627370496 < 18446744073709551616 := by decide
            have hee : Kx ≤ 2047 := by omega
            refine cw_else rfl ?_
            refine cw_skip ?_
            refine ew_next ?_
            refine cw_seq ?_
            refine cw_goto ?_
            refine ew_then_goto ?_
            refine ew_scope_goto rfl ?_
            refine cw_seq ?_
            refine cw_skip ?_
            refine ew_next ?_
            refine cw_seq ?_
            refine cw_region ?_
            refine rs_op rfl (ow_move rfl ?_)
            refine rs_op rfl (ow_move rfl ?_)
            refine rs_op rfl (ow_nilCheck rfl ?_)
            refine rs_op rfl (ow_fieldAddr Tryz.underlying206 rfl sz144 (by decide) rfl ?_)
            refine rs_op rfl (ow_load1 Tryz.underlying144 rfl rfl (HF.on E).here.1.1.2 ?_)
            refine rs_op rfl (ow_shl (z := 4503599627370496) rfl rfl (by decide) (by kernel_rfl) ?_)
            refine rs_op rfl (ow_sub (z := 4503599627370495) rfl rfl (by kernel_rfl) ?_)
            refine rs_op rfl (ow_and rfl rfl (and_lo hmm) ?_)
            refine rs_op rfl (ow_assign rfl ?_)
            refine rs_nil ?_
            refine ew_next ?_
            refine cw_seq ?_
            have OY : ∀ q9, (Mut (outM [])) q9 → q9 < (World.drew w44).heap.size → (Mut [(some ga)]) q9 := fun k h _ => (Mut.none_) k h
            refine cw_drawn (Mut [(some ga)]) (Mut.grow Mut.none_ (some_lt Ba.lt)) [] [] (fxAt [Fx.of (.int .u64 ((4503599627370496 &&& 4503599627370495 : Nat) : Int)),
             Fx.of (.int .i64 (e3 + 1)),
             Fx.of (.pointer (some ⟨8, 0, none⟩)),
             Fx.of (.pointer (some ⟨8, 0, none⟩)),
             Fx.of (.pointer (some ⟨8, 2, none⟩)),
             Fx.of (.int .i64 (-1023)),
             Fx.of (.int .i64 ((Kx : Nat) : Int)),
             Fx.of (.pointer (some ⟨8, 0, none⟩)),
             Fx.of (.pointer (some ⟨8, 0, none⟩)),
             Fx.of (.pointer (some ⟨8, 1, none⟩)),
             Fx.of (.int .u64 11),
             Fx.of (.int .i64 2048),
             Fx.of (.int .i64 2047),
             Fx.of (.int .i64 ((Kx : Nat) : Int)),
             Fx.of (.int .u64 ((Kx : Nat) : Int)),
             Fx.of (.pointer (some ⟨8, 0, none⟩)),
             Fx.of (.pointer (some ⟨8, 0, none⟩)),
             Fx.of (.pointer (some ⟨8, 0, none⟩)),
             Fx.of (.int .u64 52),
             Fx.of (.int .u64 ((Kx * 4503599627370496 : Nat) : Int)),
             Fx.of (.int .u64 ((slowC 4503599627370496 (Kx) : Nat) : Int)),
             Fx.of (.int .u64 ((slowC 4503599627370496 (Kx) : Nat) : Int))]) mixed rfl trivial (fun _ h => by cases h) ?_ ?_
            · refine ⟨?_, ?_, ?_, ?_, ?_, ?_, ?_, ?_, ?_, ?_, ?_, ?_, ?_, ?_, ?_, ?_, ?_, ?_, ?_, ?_, ?_, ?_, trivial⟩
              · intro vs X wq K
                have LE := K.1
                have XN := K.2.1
                have SQ := Nat.le_trans LW.size (Nat.le_trans E.size LE.size)
                exact ow_move rfl ⟨Below.refl _ _, Left.of rfl⟩
              · intro vs X wq K
                have LE := K.1
                have XN := K.2.1
                have SQ := Nat.le_trans LW.size (Nat.le_trans E.size LE.size)
                exact ow_move rfl ⟨Below.refl _ _, Left.of rfl⟩
              · intro vs X wq K
                have LE := K.1
                have XN := K.2.1
                have SQ := Nat.le_trans LW.size (Nat.le_trans E.size LE.size)
                exact ow_move rfl ⟨Below.refl _ _, Left.of rfl⟩
              · intro vs X wq K
                have LE := K.1
                have XN := K.2.1
                have SQ := Nat.le_trans LW.size (Nat.le_trans E.size LE.size)
                obtain ⟨_, e2, k2⟩ := K.dep 2 rfl rfl rfl
                refine ow_set 206 (.pointer (some ⟨8, 0, none⟩)) rfl e2 ?_
                exact ow_nilCheck rfl ⟨Below.refl _ _, Left.of rfl⟩
              · intro vs X wq K
                have LE := K.1
                have XN := K.2.1
                have SQ := Nat.le_trans LW.size (Nat.le_trans E.size LE.size)
                obtain ⟨_, e3, k3⟩ := K.dep 3 rfl rfl rfl
                refine ow_set 207 (.pointer (some ⟨8, 0, none⟩)) rfl e3 ?_
                exact ow_fieldAddr Tryz.underlying206 rfl sz3 (by decide) rfl ⟨Below.refl _ _, Left.of rfl⟩
              · intro vs X wq K
                have LE := K.1
                have XN := K.2.1
                have SQ := Nat.le_trans LW.size (Nat.le_trans E.size LE.size)
                obtain ⟨_, e4, k4⟩ := K.dep 4 rfl rfl rfl
                refine ow_set 208 (.pointer (some ⟨8, 2, none⟩)) rfl e4 ?_
                exact ow_load1 Tryz.underlying3 rfl rfl (HF.on (E.drew.trans (LE.mono OY))).here.2 ⟨Below.refl _ _, Left.of rfl⟩
              · intro vs X wq K
                have LE := K.1
                have XN := K.2.1
                have SQ := Nat.le_trans LW.size (Nat.le_trans E.size LE.size)
                obtain ⟨_, e1, k1⟩ := K.dep 1 rfl rfl rfl
                refine ow_set 205 (.int .i64 (e3 + 1)) rfl e1 ?_
                obtain ⟨_, e5, k5⟩ := K.dep 5 rfl rfl rfl
                refine ow_set 209 (.int .i64 (-1023)) rfl e5 ?_
                exact ow_sub rfl rfl (wrap_i64 (by omega)) ⟨Below.refl _ _, Left.of ((by congr 1; omega : (.int .i64 ((e3 + 1) - (-1023)) : Value) = _))⟩
              · intro vs X wq K
                have LE := K.1
                have XN := K.2.1
                have SQ := Nat.le_trans LW.size (Nat.le_trans E.size LE.size)
                exact ow_move rfl ⟨Below.refl _ _, Left.of rfl⟩
              · intro vs X wq K
                have LE := K.1
                have XN := K.2.1
                have SQ := Nat.le_trans LW.size (Nat.le_trans E.size LE.size)
                obtain ⟨_, e7, k7⟩ := K.dep 7 rfl rfl rfl
                refine ow_set 211 (.pointer (some ⟨8, 0, none⟩)) rfl e7 ?_
                exact ow_nilCheck rfl ⟨Below.refl _ _, Left.of rfl⟩
              · intro vs X wq K
                have LE := K.1
                have XN := K.2.1
                have SQ := Nat.le_trans LW.size (Nat.le_trans E.size LE.size)
                obtain ⟨_, e8, k8⟩ := K.dep 8 rfl rfl rfl
                refine ow_set 212 (.pointer (some ⟨8, 0, none⟩)) rfl e8 ?_
                exact ow_fieldAddr Tryz.underlying206 rfl sz144 (by decide) rfl ⟨Below.refl _ _, Left.of rfl⟩
              · intro vs X wq K
                have LE := K.1
                have XN := K.2.1
                have SQ := Nat.le_trans LW.size (Nat.le_trans E.size LE.size)
                obtain ⟨_, e9, k9⟩ := K.dep 9 rfl rfl rfl
                refine ow_set 213 (.pointer (some ⟨8, 1, none⟩)) rfl e9 ?_
                exact ow_load1 Tryz.underlying144 rfl rfl (HF.on (E.drew.trans (LE.mono OY))).here.1.2 ⟨Below.refl _ _, Left.of rfl⟩
              · intro vs X wq K
                have LE := K.1
                have XN := K.2.1
                have SQ := Nat.le_trans LW.size (Nat.le_trans E.size LE.size)
                obtain ⟨_, e10, k10⟩ := K.dep 10 rfl rfl rfl
                refine ow_set 214 (.int .u64 11) rfl e10 ?_
                exact ow_shl (z := 2048) rfl rfl (by decide) (by kernel_rfl) ⟨Below.refl _ _, Left.of rfl⟩
              · intro vs X wq K
                have LE := K.1
                have XN := K.2.1
                have SQ := Nat.le_trans LW.size (Nat.le_trans E.size LE.size)
                obtain ⟨_, e11, k11⟩ := K.dep 11 rfl rfl rfl
                refine ow_set 215 (.int .i64 2048) rfl e11 ?_
                exact ow_sub (z := 2047) rfl rfl (by kernel_rfl) ⟨Below.refl _ _, Left.of rfl⟩
              · intro vs X wq K
                have LE := K.1
                have XN := K.2.1
                have SQ := Nat.le_trans LW.size (Nat.le_trans E.size LE.size)
                obtain ⟨_, e6, k6⟩ := K.dep 6 rfl rfl rfl
                refine ow_set 210 (.int .i64 ((Kx : Nat) : Int)) rfl e6 ?_
                obtain ⟨_, e12, k12⟩ := K.dep 12 rfl rfl rfl
                refine ow_set 216 (.int .i64 2047) rfl e12 ?_
                exact ow_and rfl rfl (and_i2047 hee) ⟨Below.refl _ _, Left.of rfl⟩
              · intro vs X wq K
                have LE := K.1
                have XN := K.2.1
                have SQ := Nat.le_trans LW.size (Nat.le_trans E.size LE.size)
                obtain ⟨_, e13, k13⟩ := K.dep 13 rfl rfl rfl
                refine ow_set 217 (.int .i64 ((Kx : Nat) : Int)) rfl e13 ?_
                exact ow_conv Tryz.underlying32 Tryz.underlying3 rfl (wrap_u64 (by omega)) ⟨Below.refl _ _, Left.of rfl⟩
              · intro vs X wq K
                have LE := K.1
                have XN := K.2.1
                have SQ := Nat.le_trans LW.size (Nat.le_trans E.size LE.size)
                exact ow_move rfl ⟨Below.refl _ _, Left.of rfl⟩
              · intro vs X wq K
                have LE := K.1
                have XN := K.2.1
                have SQ := Nat.le_trans LW.size (Nat.le_trans E.size LE.size)
                obtain ⟨_, e15, k15⟩ := K.dep 15 rfl rfl rfl
                refine ow_set 219 (.pointer (some ⟨8, 0, none⟩)) rfl e15 ?_
                exact ow_nilCheck rfl ⟨Below.refl _ _, Left.of rfl⟩
              · intro vs X wq K
                have LE := K.1
                have XN := K.2.1
                have SQ := Nat.le_trans LW.size (Nat.le_trans E.size LE.size)
                obtain ⟨_, e16, k16⟩ := K.dep 16 rfl rfl rfl
                refine ow_set 220 (.pointer (some ⟨8, 0, none⟩)) rfl e16 ?_
                exact ow_fieldAddr Tryz.underlying206 rfl sz144 (by decide) rfl ⟨Below.refl _ _, Left.of rfl⟩
              · intro vs X wq K
                have LE := K.1
                have XN := K.2.1
                have SQ := Nat.le_trans LW.size (Nat.le_trans E.size LE.size)
                obtain ⟨_, e17, k17⟩ := K.dep 17 rfl rfl rfl
                refine ow_set 221 (.pointer (some ⟨8, 0, none⟩)) rfl e17 ?_
                exact ow_load1 Tryz.underlying144 rfl rfl (HF.on (E.drew.trans (LE.mono OY))).here.1.1.2 ⟨Below.refl _ _, Left.of rfl⟩
              · intro vs X wq K
                have LE := K.1
                have XN := K.2.1
                have SQ := Nat.le_trans LW.size (Nat.le_trans E.size LE.size)
                obtain ⟨_, e14, k14⟩ := K.dep 14 rfl rfl rfl
                refine ow_set 218 (.int .u64 ((Kx : Nat) : Int)) rfl e14 ?_
                obtain ⟨_, e18, k18⟩ := K.dep 18 rfl rfl rfl
                refine ow_set 222 (.int .u64 52) rfl e18 ?_
                exact ow_shl rfl rfl (by decide) (shl_52 hee) ⟨Below.refl _ _, Left.of rfl⟩
              · intro vs X wq K
                have LE := K.1
                have XN := K.2.1
                have SQ := Nat.le_trans LW.size (Nat.le_trans E.size LE.size)
                obtain ⟨_, e0, k0⟩ := K.dep 0 rfl rfl rfl
                refine ow_set 204 (.int .u64 ((4503599627370496 &&& 4503599627370495 : Nat) : Int)) rfl e0 ?_
                obtain ⟨_, e19, k19⟩ := K.dep 19 rfl rfl rfl
                refine ow_set 223 (.int .u64 ((Kx * 4503599627370496 : Nat) : Int)) rfl e19 ?_
                exact ow_or rfl rfl (slowC_or hee) ⟨Below.refl _ _, Left.of rfl⟩
              · intro vs X wq K
                have LE := K.1
                have XN := K.2.1
                have SQ := Nat.le_trans LW.size (Nat.le_trans E.size LE.size)
                obtain ⟨_, e20, k20⟩ := K.dep 20 rfl rfl rfl
                refine ow_set 224 (.int .u64 ((slowC 4503599627370496 (Kx) : Nat) : Int)) rfl e20 ?_
                exact ow_assign rfl ⟨Below.refl _ _, Left.of rfl⟩
            intro vs w49 LE AO AL AF AA
            have LBa := Ba
            replace Ba := Ba.drew.extN LE NotIn.nil
            replace E := E.drew.trans (LE.mono OY)
            obtain ⟨_, e21, k21⟩ := AL.2.2.2.2.2.2.2.2.2.2.2.2.2.2.2.2.2.2.2.2.2.1
            refine ew_sub (τ := [(0, _), (1, _), (4, _), (5, _), (11, .int .u64 ((slowC 4503599627370496 (Kx) : Nat) : Int))]) ⟨rfl, rfl, rfl, rfl, congrArg some e21, trivial⟩ ?_
            clear AL AF AA LE AO OY e21 k21 LBa
            refine ew_next ?_
            refine cw_seq ?_
            refine cw_seq ?_
            refine cw_region ?_
            refine rs_op rfl (ow_move rfl ?_)
            refine rs_op rfl (ow_nilCheck rfl ?_)
            refine rs_op rfl (ow_fieldAddr Tryz.underlying193 rfl sz4 (by decide) rfl ?_)
            refine rs_op rfl (ow_loadF Tryz.underlying4 rfl rfl Ba (ngAt hl5 t.neg hn5) ?_)
            refine rs_nil ?_
            refine ew_next ?_
            refine cw_cond rfl (fun hng => ?_) (fun hng => ?_)
            ·
             have OY : ∀ q9, (Mut (outM [])) q9 → q9 < (World.drew w49).heap.size → (Mut [(some ga)]) q9 := fun k h _ => (Mut.none_) k h
             refine cw_drawn (Mut [(some ga)]) (Mut.grow Mut.none_ (some_lt Ba.lt)) [] [] (fxAt [Fx.of (.int .u64 ((slowC 4503599627370496 (Kx) : Nat) : Int)),
              Fx.of (.pointer (some ⟨8, 0, none⟩)),
              Fx.of (.pointer (some ⟨8, 0, none⟩)),
              Fx.of (.pointer (some ⟨8, 0, none⟩)),
              Fx.of (.int .u64 52),
              Fx.of (.int .u64 4503599627370496),
              Fx.of (.pointer (some ⟨8, 0, none⟩)),
              Fx.of (.pointer (some ⟨8, 0, none⟩)),
              Fx.of (.pointer (some ⟨8, 1, none⟩)),
              Fx.of (.int .u64 11),
              Fx.of (.int .u64 9223372036854775808),
              Fx.of (.int .u64 ((slowC 4503599627370496 (Kx) ||| 9223372036854775808 : Nat) : Int)),
              Fx.of (.int .u64 ((slowC 4503599627370496 (Kx) ||| 9223372036854775808 : Nat) : Int))]) mixed rfl trivial (fun _ h => by cases h) ?_ ?_
             · refine ⟨?_, ?_, ?_, ?_, ?_, ?_, ?_, ?_, ?_, ?_, ?_, ?_, ?_, trivial⟩
               · intro vs X wq K
                 have LE := K.1
                 have XN := K.2.1
                 have SQ := Nat.le_trans LW.size (Nat.le_trans E.size LE.size)
                 exact ow_move rfl ⟨Below.refl _ _, Left.of rfl⟩
               · intro vs X wq K
                 have LE := K.1
                 have XN := K.2.1
                 have SQ := Nat.le_trans LW.size (Nat.le_trans E.size LE.size)
                 exact ow_move rfl ⟨Below.refl _ _, Left.of rfl⟩
               · intro vs X wq K
                 have LE := K.1
                 have XN := K.2.1
                 have SQ := Nat.le_trans LW.size (Nat.le_trans E.size LE.size)
                 obtain ⟨_, e1, k1⟩ := K.dep 1 rfl rfl rfl
                 refine ow_set 230 (.pointer (some ⟨8, 0, none⟩)) rfl e1 ?_
                 exact ow_nilCheck rfl ⟨Below.refl _ _, Left.of rfl⟩
               · intro vs X wq K
                 have LE := K.1
                 have XN := K.2.1
                 have SQ := Nat.le_trans LW.size (Nat.le_trans E.size LE.size)
                 obtain ⟨_, e2, k2⟩ := K.dep 2 rfl rfl rfl
                 refine ow_set 231 (.pointer (some ⟨8, 0, none⟩)) rfl e2 ?_
                 exact ow_fieldAddr Tryz.underlying206 rfl sz144 (by decide) rfl ⟨Below.refl _ _, Left.of rfl⟩
               · intro vs X wq K
                 have LE := K.1
                 have XN := K.2.1
                 have SQ := Nat.le_trans LW.size (Nat.le_trans E.size LE.size)
                 obtain ⟨_, e3, k3⟩ := K.dep 3 rfl rfl rfl
                 refine ow_set 232 (.pointer (some ⟨8, 0, none⟩)) rfl e3 ?_
                 exact ow_load1 Tryz.underlying144 rfl rfl (HF.on (E.drew.trans (LE.mono OY))).here.1.1.2 ⟨Below.refl _ _, Left.of rfl⟩
               · intro vs X wq K
                 have LE := K.1
                 have XN := K.2.1
                 have SQ := Nat.le_trans LW.size (Nat.le_trans E.size LE.size)
                 obtain ⟨_, e4, k4⟩ := K.dep 4 rfl rfl rfl
                 refine ow_set 233 (.int .u64 52) rfl e4 ?_
                 exact ow_shl (z := 4503599627370496) rfl rfl (by decide) (by kernel_rfl) ⟨Below.refl _ _, Left.of rfl⟩
               · intro vs X wq K
                 have LE := K.1
                 have XN := K.2.1
                 have SQ := Nat.le_trans LW.size (Nat.le_trans E.size LE.size)
                 exact ow_move rfl ⟨Below.refl _ _, Left.of rfl⟩
               · intro vs X wq K
                 have LE := K.1
                 have XN := K.2.1
                 have SQ := Nat.le_trans LW.size (Nat.le_trans E.size LE.size)
                 obtain ⟨_, e6, k6⟩ := K.dep 6 rfl rfl rfl
                 refine ow_set 235 (.pointer (some ⟨8, 0, none⟩)) rfl e6 ?_
                 exact ow_nilCheck rfl ⟨Below.refl _ _, Left.of rfl⟩
               · intro vs X wq K
                 have LE := K.1
                 have XN := K.2.1
                 have SQ := Nat.le_trans LW.size (Nat.le_trans E.size LE.size)
                 obtain ⟨_, e7, k7⟩ := K.dep 7 rfl rfl rfl
                 refine ow_set 236 (.pointer (some ⟨8, 0, none⟩)) rfl e7 ?_
                 exact ow_fieldAddr Tryz.underlying206 rfl sz144 (by decide) rfl ⟨Below.refl _ _, Left.of rfl⟩
               · intro vs X wq K
                 have LE := K.1
                 have XN := K.2.1
                 have SQ := Nat.le_trans LW.size (Nat.le_trans E.size LE.size)
                 obtain ⟨_, e8, k8⟩ := K.dep 8 rfl rfl rfl
                 refine ow_set 237 (.pointer (some ⟨8, 1, none⟩)) rfl e8 ?_
                 exact ow_load1 Tryz.underlying144 rfl rfl (HF.on (E.drew.trans (LE.mono OY))).here.1.2 ⟨Below.refl _ _, Left.of rfl⟩
               · intro vs X wq K
                 have LE := K.1
                 have XN := K.2.1
                 have SQ := Nat.le_trans LW.size (Nat.le_trans E.size LE.size)
                 obtain ⟨_, e5, k5⟩ := K.dep 5 rfl rfl rfl
                 refine ow_set 234 (.int .u64 4503599627370496) rfl e5 ?_
                 obtain ⟨_, e9, k9⟩ := K.dep 9 rfl rfl rfl
                 refine ow_set 238 (.int .u64 11) rfl e9 ?_
                 exact ow_shl (z := 9223372036854775808) rfl rfl (by decide) (by kernel_rfl) ⟨Below.refl _ _, Left.of rfl⟩
               · intro vs X wq K
                 have LE := K.1
                 have XN := K.2.1
                 have SQ := Nat.le_trans LW.size (Nat.le_trans E.size LE.size)
                 obtain ⟨_, e0, k0⟩ := K.dep 0 rfl rfl rfl
                 refine ow_set 229 (.int .u64 ((slowC 4503599627370496 (Kx) : Nat) : Int)) rfl e0 ?_
                 obtain ⟨_, e10, k10⟩ := K.dep 10 rfl rfl rfl
                 refine ow_set 239 (.int .u64 9223372036854775808) rfl e10 ?_
                 exact ow_or rfl rfl (slowC_neg hee) ⟨Below.refl _ _, Left.of rfl⟩
               · intro vs X wq K
                 have LE := K.1
                 have XN := K.2.1
                 have SQ := Nat.le_trans LW.size (Nat.le_trans E.size LE.size)
                 obtain ⟨_, e11, k11⟩ := K.dep 11 rfl rfl rfl
                 refine ow_set 240 (.int .u64 ((slowC 4503599627370496 (Kx) ||| 9223372036854775808 : Nat) : Int)) rfl e11 ?_
                 exact ow_assign rfl ⟨Below.refl _ _, Left.of rfl⟩
             intro vs w50 LE AO AL AF AA
             have LBa := Ba
             replace Ba := Ba.drew.extN LE NotIn.nil
             replace E := E.drew.trans (LE.mono OY)
             obtain ⟨_, e12, k12⟩ := AL.2.2.2.2.2.2.2.2.2.2.2.2.1
             refine ew_sub (τ := [(4, _), (5, _), (11, .int .u64 ((slowC 4503599627370496 (Kx) ||| 9223372036854775808 : Nat) : Int))]) ⟨rfl, rfl, congrArg some e12, trivial⟩ ?_
             clear AL AF AA LE AO OY e12 k12 LBa
             refine ew_next ?_
             refine cw_seq ?_
             refine cw_region ?_
             refine rs_op rfl (ow_move rfl ?_)
             refine rs_op rfl (ow_move rfl ?_)
             refine rs_op rfl (ow_assign rfl ?_)
             refine rs_op rfl (ow_assign rfl ?_)
             refine rs_nil ?_
             refine ew_next ?_
             refine cw_ret ?_
             refine ew_scope_ret ?_
             have e : slowF t = slowC 4503599627370496 (Kx) ||| 9223372036854775808 := by unfold slowF slowB slowC; rw [hfb, if_pos hng]
             refine ew_ret (rs := [.tmp 4, .tmp 5]) (vs := [_, _]) rfl ⟨rfl, rfl, trivial⟩ ?_
             exact ⟨by rw [e, hfb]; rfl, ⟨_, Ba⟩, (LW.step E XLW)⟩
            ·
             refine cw_skip ?_
             refine ew_next ?_
             refine cw_seq ?_
             refine cw_region ?_
             refine rs_op rfl (ow_move rfl ?_)
             refine rs_op rfl (ow_move rfl ?_)
             refine rs_op rfl (ow_assign rfl ?_)
             refine rs_op rfl (ow_assign rfl ?_)
             refine rs_nil ?_
             refine ew_next ?_
             refine cw_ret ?_
             refine ew_scope_ret ?_
             have e : slowF t = slowC 4503599627370496 (Kx) := by unfold slowF slowB slowC; rw [hfb, if_neg (by rw [hng]; decide)]
             refine ew_ret (rs := [.tmp 4, .tmp 5]) (vs := [_, _]) rfl ⟨rfl, rfl, trivial⟩ ?_
             exact ⟨by rw [e, hfb]; rfl, ⟨_, Ba⟩, (LW.step E XLW)⟩
         ·
          have h5 : ¬ M = 9007199254740992 := fun e => absurd h5 (by rw [e]; decide)
          rw [if_neg h5] at hfb
          refine cw_skip ?_
          refine ew_next ?_
          refine cw_seq ?_
          refine cw_seq ?_
          refine cw_region ?_
          refine rs_op rfl (ow_move rfl ?_)
          refine rs_op rfl (ow_move rfl ?_)
          refine rs_op rfl (ow_nilCheck rfl ?_)
          refine rs_op rfl (ow_fieldAddr Tryz.underlying206 rfl sz144 (by decide) rfl ?_)
          refine rs_op rfl (ow_load1 Tryz.underlying144 rfl rfl (HF.on E).here.1.1.2 ?_)
          refine rs_op rfl (ow_shl (z := 4503599627370496) rfl rfl (by decide) (by kernel_rfl) ?_)
          refine rs_op rfl (ow_and rfl rfl (and_hi hM64) ?_)
          refine rs_op rfl (ow_eql rfl rfl ?_)
          refine rs_nil ?_
          refine ew_next ?_
          refine cw_cond rfl (fun h6 => ?_) (fun h6 => ?_)
          ·
           have h6 : M &&& 4503599627370496 = 0 := by have h6 := eq_of_beq h6; omega
           rw [if_pos h6] at hfb
           obtain ⟨Kx, hK⟩ : ∃ Kx : Nat, Kx = 0 := ⟨_, rfl⟩
           rw [← hK] at hfb
           refine cw_region ?_
           refine rs_op rfl (ow_move rfl ?_)
           refine rs_op rfl (ow_nilCheck rfl ?_)
           refine rs_op rfl (ow_fieldAddr Tryz.underlying206 rfl sz3 (by decide) rfl ?_)
           refine rs_op rfl (ow_load1 Tryz.underlying3 rfl rfl (HF.on E).here.2 ?_)
           refine rs_op rfl (ow_assign rfl ?_)
           refine rs_nil ?_
           refine ew_next ?_
           refine cw_seq ?_
           refine cw_goto ?_
           refine ew_then_goto ?_
           refine ew_scope_goto rfl ?_
           refine cw_seq ?_
           refine cw_skip ?_
           refine ew_next ?_
           refine cw_seq ?_
           refine cw_region ?_
           refine rs_op rfl (ow_move rfl ?_)
           refine rs_op rfl (ow_move rfl ?_)
           refine rs_op rfl (ow_nilCheck rfl ?_)
           refine rs_op rfl (ow_fieldAddr Tryz.underlying206 rfl sz144 (by decide) rfl ?_)
           refine rs_op rfl (ow_load1 Tryz.underlying144 rfl rfl (HF.on E).here.1.1.2 ?_)
           refine rs_op rfl (ow_shl (z := 4503599627370496) rfl rfl (by decide) (by kernel_rfl) ?_)
           refine rs_op rfl (ow_sub (z := 4503599627370495) rfl rfl (by kernel_rfl) ?_)
           refine rs_set 6 (.int .i64 (((Kx : Nat) : Int) - 1023)) rfl ((by rw [hK]; rfl : (.int .i64 (-1023) : Value) = _)) ?_
           have hmm : M < 18446744073709551616 := hM64
           have hee : Kx ≤ 2047 := by omega
           refine rs_op rfl (ow_and rfl rfl (and_lo hmm) ?_)
           refine rs_op rfl (ow_assign rfl ?_)
           refine rs_nil ?_
           refine ew_next ?_
           refine cw_seq ?_
           have OY : ∀ q9, (Mut (outM [])) q9 → q9 < (World.drew w42).heap.size → (Mut [(some ga)]) q9 := fun k h _ => (Mut.none_) k h
           refine cw_drawn (Mut [(some ga)]) (Mut.grow Mut.none_ (some_lt Ba.lt)) [] [] (fxAt [Fx.of (.int .u64 ((M &&& 4503599627370495 : Nat) : Int)),
            Fx.of (.int .i64 (((Kx : Nat) : Int) - 1023)),
            Fx.of (.pointer (some ⟨8, 0, none⟩)),
            Fx.of (.pointer (some ⟨8, 0, none⟩)),
            Fx.of (.pointer (some ⟨8, 2, none⟩)),
            Fx.of (.int .i64 (-1023)),
            Fx.of (.int .i64 ((Kx : Nat) : Int)),
            Fx.of (.pointer (some ⟨8, 0, none⟩)),
            Fx.of (.pointer (some ⟨8, 0, none⟩)),
            Fx.of (.pointer (some ⟨8, 1, none⟩)),
            Fx.of (.int .u64 11),
            Fx.of (.int .i64 2048),
            Fx.of (.int .i64 2047),
            Fx.of (.int .i64 ((Kx : Nat) : Int)),
            Fx.of (.int .u64 ((Kx : Nat) : Int)),
            Fx.of (.pointer (some ⟨8, 0, none⟩)),
            Fx.of (.pointer (some ⟨8, 0, none⟩)),
            Fx.of (.pointer (some ⟨8, 0, none⟩)),
            Fx.of (.int .u64 52),
            Fx.of (.int .u64 ((Kx * 4503599627370496 : Nat) : Int)),
            Fx.of (.int .u64 ((slowC M (Kx) : Nat) : Int)),
            Fx.of (.int .u64 ((slowC M (Kx) : Nat) : Int))]) mixed rfl trivial (fun _ h => by cases h) ?_ ?_
           · refine ⟨?_, ?_, ?_, ?_, ?_, ?_, ?_, ?_, ?_, ?_, ?_, ?_, ?_, ?_, ?_, ?_, ?_, ?_, ?_, ?_, ?_, ?_, trivial⟩
             · intro vs X wq K
               have LE := K.1
               have XN := K.2.1
               have SQ := Nat.le_trans LW.size (Nat.le_trans E.size LE.size)
               exact ow_move rfl ⟨Below.refl _ _, Left.of rfl⟩
             · intro vs X wq K
               have LE := K.1
               have XN := K.2.1
               have SQ := Nat.le_trans LW.size (Nat.le_trans E.size LE.size)
               exact ow_move rfl ⟨Below.refl _ _, Left.of rfl⟩
             · intro vs X wq K
               have LE := K.1
               have XN := K.2.1
               have SQ := Nat.le_trans LW.size (Nat.le_trans E.size LE.size)
               exact ow_move rfl ⟨Below.refl _ _, Left.of rfl⟩
             · intro vs X wq K
               have LE := K.1
               have XN := K.2.1
               have SQ := Nat.le_trans LW.size (Nat.le_trans E.size LE.size)
               obtain ⟨_, e2, k2⟩ := K.dep 2 rfl rfl rfl
               refine ow_set 206 (.pointer (some ⟨8, 0, none⟩)) rfl e2 ?_
               exact ow_nilCheck rfl ⟨Below.refl _ _, Left.of rfl⟩
             · intro vs X wq K
               have LE := K.1
               have XN := K.2.1
               have SQ := Nat.le_trans LW.size (Nat.le_trans E.size LE.size)
               obtain ⟨_, e3, k3⟩ := K.dep 3 rfl rfl rfl
               refine ow_set 207 (.pointer (some ⟨8, 0, none⟩)) rfl e3 ?_
               exact ow_fieldAddr Tryz.underlying206 rfl sz3 (by decide) rfl ⟨Below.refl _ _, Left.of rfl⟩
             · intro vs X wq K
               have LE := K.1
               have XN := K.2.1
               have SQ := Nat.le_trans LW.size (Nat.le_trans E.size LE.size)
               obtain ⟨_, e4, k4⟩ := K.dep 4 rfl rfl rfl
               refine ow_set 208 (.pointer (some ⟨8, 2, none⟩)) rfl e4 ?_
               exact ow_load1 Tryz.underlying3 rfl rfl (HF.on (E.drew.trans (LE.mono OY))).here.2 ⟨Below.refl _ _, Left.of rfl⟩
             · intro vs X wq K
               have LE := K.1
               have XN := K.2.1
               have SQ := Nat.le_trans LW.size (Nat.le_trans E.size LE.size)
               obtain ⟨_, e1, k1⟩ := K.dep 1 rfl rfl rfl
               refine ow_set 205 (.int .i64 (((Kx : Nat) : Int) - 1023)) rfl e1 ?_
               obtain ⟨_, e5, k5⟩ := K.dep 5 rfl rfl rfl
               refine ow_set 209 (.int .i64 (-1023)) rfl e5 ?_
               exact ow_sub rfl rfl (wrap_i64 (by omega)) ⟨Below.refl _ _, Left.of ((by congr 1; omega : (.int .i64 ((((Kx : Nat) : Int) - 1023) - (-1023)) : Value) = _))⟩
             · intro vs X wq K
               have LE := K.1
               have XN := K.2.1
               have SQ := Nat.le_trans LW.size (Nat.le_trans E.size LE.size)
               exact ow_move rfl ⟨Below.refl _ _, Left.of rfl⟩
             · intro vs X wq K
               have LE := K.1
               have XN := K.2.1
               have SQ := Nat.le_trans LW.size (Nat.le_trans E.size LE.size)
               obtain ⟨_, e7, k7⟩ := K.dep 7 rfl rfl rfl
               refine ow_set 211 (.pointer (some ⟨8, 0, none⟩)) rfl e7 ?_
               exact ow_nilCheck rfl ⟨Below.refl _ _, Left.of rfl⟩
             · intro vs X wq K
               have LE := K.1
               have XN := K.2.1
               have SQ := Nat.le_trans LW.size (Nat.le_trans E.size LE.size)
               obtain ⟨_, e8, k8⟩ := K.dep 8 rfl rfl rfl
               refine ow_set 212 (.pointer (some ⟨8, 0, none⟩)) rfl e8 ?_
               exact ow_fieldAddr Tryz.underlying206 rfl sz144 (by decide) rfl ⟨Below.refl _ _, Left.of rfl⟩
             · intro vs X wq K
               have LE := K.1
               have XN := K.2.1
               have SQ := Nat.le_trans LW.size (Nat.le_trans E.size LE.size)
               obtain ⟨_, e9, k9⟩ := K.dep 9 rfl rfl rfl
               refine ow_set 213 (.pointer (some ⟨8, 1, none⟩)) rfl e9 ?_
               exact ow_load1 Tryz.underlying144 rfl rfl (HF.on (E.drew.trans (LE.mono OY))).here.1.2 ⟨Below.refl _ _, Left.of rfl⟩
             · intro vs X wq K
               have LE := K.1
               have XN := K.2.1
               have SQ := Nat.le_trans LW.size (Nat.le_trans E.size LE.size)
               obtain ⟨_, e10, k10⟩ := K.dep 10 rfl rfl rfl
               refine ow_set 214 (.int .u64 11) rfl e10 ?_
               exact ow_shl (z := 2048) rfl rfl (by decide) (by kernel_rfl) ⟨Below.refl _ _, Left.of rfl⟩
             · intro vs X wq K
               have LE := K.1
               have XN := K.2.1
               have SQ := Nat.le_trans LW.size (Nat.le_trans E.size LE.size)
               obtain ⟨_, e11, k11⟩ := K.dep 11 rfl rfl rfl
               refine ow_set 215 (.int .i64 2048) rfl e11 ?_
               exact ow_sub (z := 2047) rfl rfl (by kernel_rfl) ⟨Below.refl _ _, Left.of rfl⟩
             · intro vs X wq K
               have LE := K.1
               have XN := K.2.1
               have SQ := Nat.le_trans LW.size (Nat.le_trans E.size LE.size)
               obtain ⟨_, e6, k6⟩ := K.dep 6 rfl rfl rfl
               refine ow_set 210 (.int .i64 ((Kx : Nat) : Int)) rfl e6 ?_
               obtain ⟨_, e12, k12⟩ := K.dep 12 rfl rfl rfl
               refine ow_set 216 (.int .i64 2047) rfl e12 ?_
               exact ow_and rfl rfl (and_i2047 hee) ⟨Below.refl _ _, Left.of rfl⟩
             · intro vs X wq K
               have LE := K.1
               have XN := K.2.1
               have SQ := Nat.le_trans LW.size (Nat.le_trans E.size LE.size)
               obtain ⟨_, e13, k13⟩ := K.dep 13 rfl rfl rfl
               refine ow_set 217 (.int .i64 ((Kx : Nat) : Int)) rfl e13 ?_
               exact ow_conv Tryz.underlying32 Tryz.underlying3 rfl (wrap_u64 (by omega)) ⟨Below.refl _ _, Left.of rfl⟩
             · intro vs X wq K
               have LE := K.1
               have XN := K.2.1
               have SQ := Nat.le_trans LW.size (Nat.le_trans E.size LE.size)
               exact ow_move rfl ⟨Below.refl _ _, Left.of rfl⟩
             · intro vs X wq K
               have LE := K.1
               have XN := K.2.1
               have SQ := Nat.le_trans LW.size (Nat.le_trans E.size LE.size)
               obtain ⟨_, e15, k15⟩ := K.dep 15 rfl rfl rfl
               refine ow_set 219 (.pointer (some ⟨8, 0, none⟩)) rfl e15 ?_
               exact ow_nilCheck rfl ⟨Below.refl _ _, Left.of rfl⟩
             · intro vs X wq K
               have LE := K.1
               have XN := K.2.1
               have SQ := Nat.le_trans LW.size (Nat.le_trans E.size LE.size)
               obtain ⟨_, e16, k16⟩ := K.dep 16 rfl rfl rfl
               refine ow_set 220 (.pointer (some ⟨8, 0, none⟩)) rfl e16 ?_
               exact ow_fieldAddr Tryz.underlying206 rfl sz144 (by decide) rfl ⟨Below.refl _ _, Left.of rfl⟩
             · intro vs X wq K
               have LE := K.1
               have XN := K.2.1
               have SQ := Nat.le_trans LW.size (Nat.le_trans E.size LE.size)
               obtain ⟨_, e17, k17⟩ := K.dep 17 rfl rfl rfl
               refine ow_set 221 (.pointer (some ⟨8, 0, none⟩)) rfl e17 ?_
               exact ow_load1 Tryz.underlying144 rfl rfl (HF.on (E.drew.trans (LE.mono OY))).here.1.1.2 ⟨Below.refl _ _, Left.of rfl⟩
             · intro vs X wq K
               have LE := K.1
               have XN := K.2.1
               have SQ := Nat.le_trans LW.size (Nat.le_trans E.size LE.size)
               obtain ⟨_, e14, k14⟩ := K.dep 14 rfl rfl rfl
               refine ow_set 218 (.int .u64 ((Kx : Nat) : Int)) rfl e14 ?_
               obtain ⟨_, e18, k18⟩ := K.dep 18 rfl rfl rfl
               refine ow_set 222 (.int .u64 52) rfl e18 ?_
               exact ow_shl rfl rfl (by decide) (shl_52 hee) ⟨Below.refl _ _, Left.of rfl⟩
             · intro vs X wq K
               have LE := K.1
               have XN := K.2.1
               have SQ := Nat.le_trans LW.size (Nat.le_trans E.size LE.size)
               obtain ⟨_, e0, k0⟩ := K.dep 0 rfl rfl rfl
               refine ow_set 204 (.int .u64 ((M &&& 4503599627370495 : Nat) : Int)) rfl e0 ?_
               obtain ⟨_, e19, k19⟩ := K.dep 19 rfl rfl rfl
               refine ow_set 223 (.int .u64 ((Kx * 4503599627370496 : Nat) : Int)) rfl e19 ?_
               exact ow_or rfl rfl (slowC_or hee) ⟨Below.refl _ _, Left.of rfl⟩
             · intro vs X wq K
               have LE := K.1
               have XN := K.2.1
               have SQ := Nat.le_trans LW.size (Nat.le_trans E.size LE.size)
               obtain ⟨_, e20, k20⟩ := K.dep 20 rfl rfl rfl
               refine ow_set 224 (.int .u64 ((slowC M (Kx) : Nat) : Int)) rfl e20 ?_
               exact ow_assign rfl ⟨Below.refl _ _, Left.of rfl⟩
           intro vs w51 LE AO AL AF AA
           have LBa := Ba
           replace Ba := Ba.drew.extN LE NotIn.nil
           replace E := E.drew.trans (LE.mono OY)
           obtain ⟨_, e21, k21⟩ := AL.2.2.2.2.2.2.2.2.2.2.2.2.2.2.2.2.2.2.2.2.2.1
           refine ew_sub (τ := [(0, _), (1, _), (4, _), (5, _), (11, .int .u64 ((slowC M (Kx) : Nat) : Int))]) ⟨rfl, rfl, rfl, rfl, congrArg some e21, trivial⟩ ?_
           clear AL AF AA LE AO OY e21 k21 LBa
           refine ew_next ?_
           refine cw_seq ?_
           refine cw_seq ?_
           refine cw_region ?_
           refine rs_op rfl (ow_move rfl ?_)
           refine rs_op rfl (ow_nilCheck rfl ?_)
           refine rs_op rfl (ow_fieldAddr Tryz.underlying193 rfl sz4 (by decide) rfl ?_)
           refine rs_op rfl (ow_loadF Tryz.underlying4 rfl rfl Ba (ngAt hl5 t.neg hn5) ?_)
           refine rs_nil ?_
           refine ew_next ?_
           refine cw_cond rfl (fun hng => ?_) (fun hng => ?_)
           ·
            have OY : ∀ q9, (Mut (outM [])) q9 → q9 < (World.drew w51).heap.size → (Mut [(some ga)]) q9 := fun k h _ => (Mut.none_) k h
            refine cw_drawn (Mut [(some ga)]) (Mut.grow Mut.none_ (some_lt Ba.lt)) [] [] (fxAt [Fx.of (.int .u64 ((slowC M (Kx) : Nat) : Int)),
             Fx.of (.pointer (some ⟨8, 0, none⟩)),
             Fx.of (.pointer (some ⟨8, 0, none⟩)),
             Fx.of (.pointer (some ⟨8, 0, none⟩)),
             Fx.of (.int .u64 52),
             Fx.of (.int .u64 4503599627370496),
             Fx.of (.pointer (some ⟨8, 0, none⟩)),
             Fx.of (.pointer (some ⟨8, 0, none⟩)),
             Fx.of (.pointer (some ⟨8, 1, none⟩)),
             Fx.of (.int .u64 11),
             Fx.of (.int .u64 9223372036854775808),
             Fx.of (.int .u64 ((slowC M (Kx) ||| 9223372036854775808 : Nat) : Int)),
             Fx.of (.int .u64 ((slowC M (Kx) ||| 9223372036854775808 : Nat) : Int))]) mixed rfl trivial (fun _ h => by cases h) ?_ ?_
            · refine ⟨?_, ?_, ?_, ?_, ?_, ?_, ?_, ?_, ?_, ?_, ?_, ?_, ?_, trivial⟩
              · intro vs X wq K
                have LE := K.1
                have XN := K.2.1
                have SQ := Nat.le_trans LW.size (Nat.le_trans E.size LE.size)
                exact ow_move rfl ⟨Below.refl _ _, Left.of rfl⟩
              · intro vs X wq K
                have LE := K.1
                have XN := K.2.1
                have SQ := Nat.le_trans LW.size (Nat.le_trans E.size LE.size)
                exact ow_move rfl ⟨Below.refl _ _, Left.of rfl⟩
              · intro vs X wq K
                have LE := K.1
                have XN := K.2.1
                have SQ := Nat.le_trans LW.size (Nat.le_trans E.size LE.size)
                obtain ⟨_, e1, k1⟩ := K.dep 1 rfl rfl rfl
                refine ow_set 230 (.pointer (some ⟨8, 0, none⟩)) rfl e1 ?_
                exact ow_nilCheck rfl ⟨Below.refl _ _, Left.of rfl⟩
              · intro vs X wq K
                have LE := K.1
                have XN := K.2.1
                have SQ := Nat.le_trans LW.size (Nat.le_trans E.size LE.size)
                obtain ⟨_, e2, k2⟩ := K.dep 2 rfl rfl rfl
                refine ow_set 231 (.pointer (some ⟨8, 0, none⟩)) rfl e2 ?_
                exact ow_fieldAddr Tryz.underlying206 rfl sz144 (by decide) rfl ⟨Below.refl _ _, Left.of rfl⟩
              · intro vs X wq K
                have LE := K.1
                have XN := K.2.1
                have SQ := Nat.le_trans LW.size (Nat.le_trans E.size LE.size)
                obtain ⟨_, e3, k3⟩ := K.dep 3 rfl rfl rfl
                refine ow_set 232 (.pointer (some ⟨8, 0, none⟩)) rfl e3 ?_
                exact ow_load1 Tryz.underlying144 rfl rfl (HF.on (E.drew.trans (LE.mono OY))).here.1.1.2 ⟨Below.refl _ _, Left.of rfl⟩
              · intro vs X wq K
                have LE := K.1
                have XN := K.2.1
                have SQ := Nat.le_trans LW.size (Nat.le_trans E.size LE.size)
                obtain ⟨_, e4, k4⟩ := K.dep 4 rfl rfl rfl
                refine ow_set 233 (.int .u64 52) rfl e4 ?_
                exact ow_shl (z := 4503599627370496) rfl rfl (by decide) (by kernel_rfl) ⟨Below.refl _ _, Left.of rfl⟩
              · intro vs X wq K
                have LE := K.1
                have XN := K.2.1
                have SQ := Nat.le_trans LW.size (Nat.le_trans E.size LE.size)
                exact ow_move rfl ⟨Below.refl _ _, Left.of rfl⟩
              · intro vs X wq K
                have LE := K.1
                have XN := K.2.1
                have SQ := Nat.le_trans LW.size (Nat.le_trans E.size LE.size)
                obtain ⟨_, e6, k6⟩ := K.dep 6 rfl rfl rfl
                refine ow_set 235 (.pointer (some ⟨8, 0, none⟩)) rfl e6 ?_
                exact ow_nilCheck rfl ⟨Below.refl _ _, Left.of rfl⟩
              · intro vs X wq K
                have LE := K.1
                have XN := K.2.1
                have SQ := Nat.le_trans LW.size (Nat.le_trans E.size LE.size)
                obtain ⟨_, e7, k7⟩ := K.dep 7 rfl rfl rfl
                refine ow_set 236 (.pointer (some ⟨8, 0, none⟩)) rfl e7 ?_
                exact ow_fieldAddr Tryz.underlying206 rfl sz144 (by decide) rfl ⟨Below.refl _ _, Left.of rfl⟩
              · intro vs X wq K
                have LE := K.1
                have XN := K.2.1
                have SQ := Nat.le_trans LW.size (Nat.le_trans E.size LE.size)
                obtain ⟨_, e8, k8⟩ := K.dep 8 rfl rfl rfl
                refine ow_set 237 (.pointer (some ⟨8, 1, none⟩)) rfl e8 ?_
                exact ow_load1 Tryz.underlying144 rfl rfl (HF.on (E.drew.trans (LE.mono OY))).here.1.2 ⟨Below.refl _ _, Left.of rfl⟩
              · intro vs X wq K
                have LE := K.1
                have XN := K.2.1
                have SQ := Nat.le_trans LW.size (Nat.le_trans E.size LE.size)
                obtain ⟨_, e5, k5⟩ := K.dep 5 rfl rfl rfl
                refine ow_set 234 (.int .u64 4503599627370496) rfl e5 ?_
                obtain ⟨_, e9, k9⟩ := K.dep 9 rfl rfl rfl
                refine ow_set 238 (.int .u64 11) rfl e9 ?_
                exact ow_shl (z := 9223372036854775808) rfl rfl (by decide) (by kernel_rfl) ⟨Below.refl _ _, Left.of rfl⟩
              · intro vs X wq K
                have LE := K.1
                have XN := K.2.1
                have SQ := Nat.le_trans LW.size (Nat.le_trans E.size LE.size)
                obtain ⟨_, e0, k0⟩ := K.dep 0 rfl rfl rfl
                refine ow_set 229 (.int .u64 ((slowC M (Kx) : Nat) : Int)) rfl e0 ?_
                obtain ⟨_, e10, k10⟩ := K.dep 10 rfl rfl rfl
                refine ow_set 239 (.int .u64 9223372036854775808) rfl e10 ?_
                exact ow_or rfl rfl (slowC_neg hee) ⟨Below.refl _ _, Left.of rfl⟩
              · intro vs X wq K
                have LE := K.1
                have XN := K.2.1
                have SQ := Nat.le_trans LW.size (Nat.le_trans E.size LE.size)
                obtain ⟨_, e11, k11⟩ := K.dep 11 rfl rfl rfl
                refine ow_set 240 (.int .u64 ((slowC M (Kx) ||| 9223372036854775808 : Nat) : Int)) rfl e11 ?_
                exact ow_assign rfl ⟨Below.refl _ _, Left.of rfl⟩
            intro vs w52 LE AO AL AF AA
            have LBa := Ba
            replace Ba := Ba.drew.extN LE NotIn.nil
            replace E := E.drew.trans (LE.mono OY)
            obtain ⟨_, e12, k12⟩ := AL.2.2.2.2.2.2.2.2.2.2.2.2.1
            refine ew_sub (τ := [(4, _), (5, _), (11, .int .u64 ((slowC M (Kx) ||| 9223372036854775808 : Nat) : Int))]) ⟨rfl, rfl, congrArg some e12, trivial⟩ ?_
            clear AL AF AA LE AO OY e12 k12 LBa
            refine ew_next ?_
            refine cw_seq ?_
            refine cw_region ?_
            refine rs_op rfl (ow_move rfl ?_)
            refine rs_op rfl (ow_move rfl ?_)
            refine rs_op rfl (ow_assign rfl ?_)
            refine rs_op rfl (ow_assign rfl ?_)
            refine rs_nil ?_
            refine ew_next ?_
            refine cw_ret ?_
            refine ew_scope_ret ?_
            have e : slowF t = slowC M (Kx) ||| 9223372036854775808 := by unfold slowF slowB slowC; rw [hfb, if_pos hng]
            refine ew_ret (rs := [.tmp 4, .tmp 5]) (vs := [_, _]) rfl ⟨rfl, rfl, trivial⟩ ?_
            exact ⟨by rw [e, hfb]; rfl, ⟨_, Ba⟩, (LW.step E XLW)⟩
           ·
            refine cw_skip ?_
            refine ew_next ?_
            refine cw_seq ?_
            refine cw_region ?_
            refine rs_op rfl (ow_move rfl ?_)
            refine rs_op rfl (ow_move rfl ?_)
            refine rs_op rfl (ow_assign rfl ?_)
            refine rs_op rfl (ow_assign rfl ?_)
            refine rs_nil ?_
            refine ew_next ?_
            refine cw_ret ?_
            refine ew_scope_ret ?_
            have e : slowF t = slowC M (Kx) := by unfold slowF slowB slowC; rw [hfb, if_neg (by rw [hng]; decide)]
            refine ew_ret (rs := [.tmp 4, .tmp 5]) (vs := [_, _]) rfl ⟨rfl, rfl, trivial⟩ ?_
            exact ⟨by rw [e, hfb]; rfl, ⟨_, Ba⟩, (LW.step E XLW)⟩
          ·
           have h6 : ¬ M &&& 4503599627370496 = 0 := fun e => absurd h6 (by rw [e]; decide)
           rw [if_neg h6] at hfb
           obtain ⟨Kx, hK⟩ : ∃ Kx, Kx = (e3 + 1023).toNat := ⟨_, rfl⟩
           rw [← hK] at hfb
           have hmm : M < 18446744073709551616 := hM64
           have hee : Kx ≤ 2047 := by omega
           refine cw_skip ?_
           refine ew_next ?_
           refine cw_seq ?_
           refine cw_goto ?_
           refine ew_then_goto ?_
           refine ew_scope_goto rfl ?_
           refine cw_seq ?_
           refine cw_skip ?_
           refine ew_next ?_
           refine cw_seq ?_
           refine cw_region ?_
           refine rs_op rfl (ow_move rfl ?_)
           refine rs_op rfl (ow_move rfl ?_)
           refine rs_op rfl (ow_nilCheck rfl ?_)
           refine rs_op rfl (ow_fieldAddr Tryz.underlying206 rfl sz144 (by decide) rfl ?_)
           refine rs_op rfl (ow_load1 Tryz.underlying144 rfl rfl (HF.on E).here.1.1.2 ?_)
           refine rs_op rfl (ow_shl (z := 4503599627370496) rfl rfl (by decide) (by kernel_rfl) ?_)
           refine rs_op rfl (ow_sub (z := 4503599627370495) rfl rfl (by kernel_rfl) ?_)
           refine rs_op rfl (ow_and rfl rfl (and_lo hmm) ?_)
           refine rs_op rfl (ow_assign rfl ?_)
           refine rs_nil ?_
           refine ew_next ?_
           refine cw_seq ?_
           have OY : ∀ q9, (Mut (outM [])) q9 → q9 < (World.drew w42).heap.size → (Mut [(some ga)]) q9 := fun k h _ => (Mut.none_) k h
           refine cw_drawn (Mut [(some ga)]) (Mut.grow Mut.none_ (some_lt Ba.lt)) [] [] (fxAt [Fx.of (.int .u64 ((M &&& 4503599627370495 : Nat) : Int)),
            Fx.of (.int .i64 e3),
            Fx.of (.pointer (some ⟨8, 0, none⟩)),
            Fx.of (.pointer (some ⟨8, 0, none⟩)),
            Fx.of (.pointer (some ⟨8, 2, none⟩)),
            Fx.of (.int .i64 (-1023)),
            Fx.of (.int .i64 ((Kx : Nat) : Int)),
            Fx.of (.pointer (some ⟨8, 0, none⟩)),
            Fx.of (.pointer (some ⟨8, 0, none⟩)),
            Fx.of (.pointer (some ⟨8, 1, none⟩)),
            Fx.of (.int .u64 11),
            Fx.of (.int .i64 2048),
            Fx.of (.int .i64 2047),
            Fx.of (.int .i64 ((Kx : Nat) : Int)),
            Fx.of (.int .u64 ((Kx : Nat) : Int)),
            Fx.of (.pointer (some ⟨8, 0, none⟩)),
            Fx.of (.pointer (some ⟨8, 0, none⟩)),
            Fx.of (.pointer (some ⟨8, 0, none⟩)),
            Fx.of (.int .u64 52),
            Fx.of (.int .u64 ((Kx * 4503599627370496 : Nat) : Int)),
            Fx.of (.int .u64 ((slowC M (Kx) : Nat) : Int)),
            Fx.of (.int .u64 ((slowC M (Kx) : Nat) : Int))]) mixed rfl trivial (fun _ h => by cases h) ?_ ?_
           · refine ⟨?_, ?_, ?_, ?_, ?_, ?_, ?_, ?_, ?_, ?_, ?_, ?_, ?_, ?_, ?_, ?_, ?_, ?_, ?_, ?_, ?_, ?_, trivial⟩
             · intro vs X wq K
               have LE := K.1
               have XN := K.2.1
               have SQ := Nat.le_trans LW.size (Nat.le_trans E.size LE.size)
               exact ow_move rfl ⟨Below.refl _ _, Left.of rfl⟩
             · intro vs X wq K
               have LE := K.1
               have XN := K.2.1
               have SQ := Nat.le_trans LW.size (Nat.le_trans E.size LE.size)
               exact ow_move rfl ⟨Below.refl _ _, Left.of rfl⟩
             · intro vs X wq K
               have LE := K.1
               have XN := K.2.1
               have SQ := Nat.le_trans LW.size (Nat.le_trans E.size LE.size)
               exact ow_move rfl ⟨Below.refl _ _, Left.of rfl⟩
             · intro vs X wq K
               have LE := K.1
               have XN := K.2.1
               have SQ := Nat.le_trans LW.size (Nat.le_trans E.size LE.size)
               obtain ⟨_, e2, k2⟩ := K.dep 2 rfl rfl rfl
               refine ow_set 206 (.pointer (some ⟨8, 0, none⟩)) rfl e2 ?_
               exact ow_nilCheck rfl ⟨Below.refl _ _, Left.of rfl⟩
             · intro vs X wq K
               have LE := K.1
               have XN := K.2.1
               have SQ := Nat.le_trans LW.size (Nat.le_trans E.size LE.size)
               obtain ⟨_, e3, k3⟩ := K.dep 3 rfl rfl rfl
               refine ow_set 207 (.pointer (some ⟨8, 0, none⟩)) rfl e3 ?_
               exact ow_fieldAddr Tryz.underlying206 rfl sz3 (by decide) rfl ⟨Below.refl _ _, Left.of rfl⟩
             · intro vs X wq K
               have LE := K.1
               have XN := K.2.1
               have SQ := Nat.le_trans LW.size (Nat.le_trans E.size LE.size)
               obtain ⟨_, e4, k4⟩ := K.dep 4 rfl rfl rfl
               refine ow_set 208 (.pointer (some ⟨8, 2, none⟩)) rfl e4 ?_
               exact ow_load1 Tryz.underlying3 rfl rfl (HF.on (E.drew.trans (LE.mono OY))).here.2 ⟨Below.refl _ _, Left.of rfl⟩
             · intro vs X wq K
               have LE := K.1
               have XN := K.2.1
               have SQ := Nat.le_trans LW.size (Nat.le_trans E.size LE.size)
               obtain ⟨_, e1, k1⟩ := K.dep 1 rfl rfl rfl
               refine ow_set 205 (.int .i64 e3) rfl e1 ?_
               obtain ⟨_, e5, k5⟩ := K.dep 5 rfl rfl rfl
               refine ow_set 209 (.int .i64 (-1023)) rfl e5 ?_
               exact ow_sub rfl rfl (wrap_i64 (by omega)) ⟨Below.refl _ _, Left.of ((by congr 1; omega : (.int .i64 (e3 - (-1023)) : Value) = _))⟩
             · intro vs X wq K
               have LE := K.1
               have XN := K.2.1
               have SQ := Nat.le_trans LW.size (Nat.le_trans E.size LE.size)
               exact ow_move rfl ⟨Below.refl _ _, Left.of rfl⟩
             · intro vs X wq K
               have LE := K.1
               have XN := K.2.1
               have SQ := Nat.le_trans LW.size (Nat.le_trans E.size LE.size)
               obtain ⟨_, e7, k7⟩ := K.dep 7 rfl rfl rfl
               refine ow_set 211 (.pointer (some ⟨8, 0, none⟩)) rfl e7 ?_
               exact ow_nilCheck rfl ⟨Below.refl _ _, Left.of rfl⟩
             · intro vs X wq K
               have LE := K.1
               have XN := K.2.1
               have SQ := Nat.le_trans LW.size (Nat.le_trans E.size LE.size)
               obtain ⟨_, e8, k8⟩ := K.dep 8 rfl rfl rfl
               refine ow_set 212 (.pointer (some ⟨8, 0, none⟩)) rfl e8 ?_
               exact ow_fieldAddr Tryz.underlying206 rfl sz144 (by decide) rfl ⟨Below.refl _ _, Left.of rfl⟩
             · intro vs X wq K
               have LE := K.1
               have XN := K.2.1
               have SQ := Nat.le_trans LW.size (Nat.le_trans E.size LE.size)
               obtain ⟨_, e9, k9⟩ := K.dep 9 rfl rfl rfl
               refine ow_set 213 (.pointer (some ⟨8, 1, none⟩)) rfl e9 ?_
               exact ow_load1 Tryz.underlying144 rfl rfl (HF.on (E.drew.trans (LE.mono OY))).here.1.2 ⟨Below.refl _ _, Left.of rfl⟩
             · intro vs X wq K
               have LE := K.1
               have XN := K.2.1
               have SQ := Nat.le_trans LW.size (Nat.le_trans E.size LE.size)
               obtain ⟨_, e10, k10⟩ := K.dep 10 rfl rfl rfl
               refine ow_set 214 (.int .u64 11) rfl e10 ?_
               exact ow_shl (z := 2048) rfl rfl (by decide) (by kernel_rfl) ⟨Below.refl _ _, Left.of rfl⟩
             · intro vs X wq K
               have LE := K.1
               have XN := K.2.1
               have SQ := Nat.le_trans LW.size (Nat.le_trans E.size LE.size)
               obtain ⟨_, e11, k11⟩ := K.dep 11 rfl rfl rfl
               refine ow_set 215 (.int .i64 2048) rfl e11 ?_
               exact ow_sub (z := 2047) rfl rfl (by kernel_rfl) ⟨Below.refl _ _, Left.of rfl⟩
             · intro vs X wq K
               have LE := K.1
               have XN := K.2.1
               have SQ := Nat.le_trans LW.size (Nat.le_trans E.size LE.size)
               obtain ⟨_, e6, k6⟩ := K.dep 6 rfl rfl rfl
               refine ow_set 210 (.int .i64 ((Kx : Nat) : Int)) rfl e6 ?_
               obtain ⟨_, e12, k12⟩ := K.dep 12 rfl rfl rfl
               refine ow_set 216 (.int .i64 2047) rfl e12 ?_
               exact ow_and rfl rfl (and_i2047 hee) ⟨Below.refl _ _, Left.of rfl⟩
             · intro vs X wq K
               have LE := K.1
               have XN := K.2.1
               have SQ := Nat.le_trans LW.size (Nat.le_trans E.size LE.size)
               obtain ⟨_, e13, k13⟩ := K.dep 13 rfl rfl rfl
               refine ow_set 217 (.int .i64 ((Kx : Nat) : Int)) rfl e13 ?_
               exact ow_conv Tryz.underlying32 Tryz.underlying3 rfl (wrap_u64 (by omega)) ⟨Below.refl _ _, Left.of rfl⟩
             · intro vs X wq K
               have LE := K.1
               have XN := K.2.1
               have SQ := Nat.le_trans LW.size (Nat.le_trans E.size LE.size)
               exact ow_move rfl ⟨Below.refl _ _, Left.of rfl⟩
             · intro vs X wq K
               have LE := K.1
               have XN := K.2.1
               have SQ := Nat.le_trans LW.size (Nat.le_trans E.size LE.size)
               obtain ⟨_, e15, k15⟩ := K.dep 15 rfl rfl rfl
               refine ow_set 219 (.pointer (some ⟨8, 0, none⟩)) rfl e15 ?_
               exact ow_nilCheck rfl ⟨Below.refl _ _, Left.of rfl⟩
             · intro vs X wq K
               have LE := K.1
               have XN := K.2.1
               have SQ := Nat.le_trans LW.size (Nat.le_trans E.size LE.size)
               obtain ⟨_, e16, k16⟩ := K.dep 16 rfl rfl rfl
               refine ow_set 220 (.pointer (some ⟨8, 0, none⟩)) rfl e16 ?_
               exact ow_fieldAddr Tryz.underlying206 rfl sz144 (by decide) rfl ⟨Below.refl _ _, Left.of rfl⟩
             · intro vs X wq K
               have LE := K.1
               have XN := K.2.1
               have SQ := Nat.le_trans LW.size (Nat.le_trans E.size LE.size)
               obtain ⟨_, e17, k17⟩ := K.dep 17 rfl rfl rfl
               refine ow_set 221 (.pointer (some ⟨8, 0, none⟩)) rfl e17 ?_
               exact ow_load1 Tryz.underlying144 rfl rfl (HF.on (E.drew.trans (LE.mono OY))).here.1.1.2 ⟨Below.refl _ _, Left.of rfl⟩
             · intro vs X wq K
               have LE := K.1
               have XN := K.2.1
               have SQ := Nat.le_trans LW.size (Nat.le_trans E.size LE.size)
               obtain ⟨_, e14, k14⟩ := K.dep 14 rfl rfl rfl
               refine ow_set 218 (.int .u64 ((Kx : Nat) : Int)) rfl e14 ?_
               obtain ⟨_, e18, k18⟩ := K.dep 18 rfl rfl rfl
               refine ow_set 222 (.int .u64 52) rfl e18 ?_
               exact ow_shl rfl rfl (by decide) (shl_52 hee) ⟨Below.refl _ _, Left.of rfl⟩
             · intro vs X wq K
               have LE := K.1
               have XN := K.2.1
               have SQ := Nat.le_trans LW.size (Nat.le_trans E.size LE.size)
               obtain ⟨_, e0, k0⟩ := K.dep 0 rfl rfl rfl
               refine ow_set 204 (.int .u64 ((M &&& 4503599627370495 : Nat) : Int)) rfl e0 ?_
               obtain ⟨_, e19, k19⟩ := K.dep 19 rfl rfl rfl
               refine ow_set 223 (.int .u64 ((Kx * 4503599627370496 : Nat) : Int)) rfl e19 ?_
               exact ow_or rfl rfl (slowC_or hee) ⟨Below.refl _ _, Left.of rfl⟩
             · intro vs X wq K
               have LE := K.1
               have XN := K.2.1
               have SQ := Nat.le_trans LW.size (Nat.le_trans E.size LE.size)
               obtain ⟨_, e20, k20⟩ := K.dep 20 rfl rfl rfl
               refine ow_set 224 (.int .u64 ((slowC M (Kx) : Nat) : Int)) rfl e20 ?_
               exact ow_assign rfl ⟨Below.refl _ _, Left.of rfl⟩
           intro vs w53 LE AO AL AF AA
           have LBa := Ba
           replace Ba := Ba.drew.extN LE NotIn.nil
           replace E := E.drew.trans (LE.mono OY)
           obtain ⟨_, e21, k21⟩ := AL.2.2.2.2.2.2.2.2.2.2.2.2.2.2.2.2.2.2.2.2.2.1
           refine ew_sub (τ := [(0, _), (1, _), (4, _), (5, _), (11, .int .u64 ((slowC M (Kx) : Nat) : Int))]) ⟨rfl, rfl, rfl, rfl, congrArg some e21, trivial⟩ ?_
           clear AL AF AA LE AO OY e21 k21 LBa
           refine ew_next ?_
           refine cw_seq ?_
           refine cw_seq ?_
           refine cw_region ?_
           refine rs_op rfl (ow_move rfl ?_)
           refine rs_op rfl (ow_nilCheck rfl ?_)
           refine rs_op rfl (ow_fieldAddr Tryz.underlying193 rfl sz4 (by decide) rfl ?_)
           refine rs_op rfl (ow_loadF Tryz.underlying4 rfl rfl Ba (ngAt hl5 t.neg hn5) ?_)
           refine rs_nil ?_
           refine ew_next ?_
           refine cw_cond rfl (fun hng => ?_) (fun hng => ?_)
           ·
            have OY : ∀ q9, (Mut (outM [])) q9 → q9 < (World.drew w53).heap.size → (Mut [(some ga)]) q9 := fun k h _ => (Mut.none_) k h
            refine cw_drawn (Mut [(some ga)]) (Mut.grow Mut.none_ (some_lt Ba.lt)) [] [] (fxAt [Fx.of (.int .u64 ((slowC M (Kx) : Nat) : Int)),
             Fx.of (.pointer (some ⟨8, 0, none⟩)),
             Fx.of (.pointer (some ⟨8, 0, none⟩)),
             Fx.of (.pointer (some ⟨8, 0, none⟩)),
             Fx.of (.int .u64 52),
             Fx.of (.int .u64 4503599627370496),
             Fx.of (.pointer (some ⟨8, 0, none⟩)),
             Fx.of (.pointer (some ⟨8, 0, none⟩)),
             Fx.of (.pointer (some ⟨8, 1, none⟩)),
             Fx.of (.int .u64 11),
             Fx.of (.int .u64 9223372036854775808),
             Fx.of (.int .u64 ((slowC M (Kx) ||| 9223372036854775808 : Nat) : Int)),
             Fx.of (.int .u64 ((slowC M (Kx) ||| 9223372036854775808 : Nat) : Int))]) mixed rfl trivial (fun _ h => by cases h) ?_ ?_
            · refine ⟨?_, ?_, ?_, ?_, ?_, ?_, ?_, ?_, ?_, ?_, ?_, ?_, ?_, trivial⟩
              · intro vs X wq K
                have LE := K.1
                have XN := K.2.1
                have SQ := Nat.le_trans LW.size (Nat.le_trans E.size LE.size)
                exact ow_move rfl ⟨Below.refl _ _, Left.of rfl⟩
              · intro vs X wq K
                have LE := K.1
                have XN := K.2.1
                have SQ := Nat.le_trans LW.size (Nat.le_trans E.size LE.size)
                exact ow_move rfl ⟨Below.refl _ _, Left.of rfl⟩
              · intro vs X wq K
                have LE := K.1
                have XN := K.2.1
                have SQ := Nat.le_trans LW.size (Nat.le_trans E.size LE.size)
                obtain ⟨_, e1, k1⟩ := K.dep 1 rfl rfl rfl
                refine ow_set 230 (.pointer (some ⟨8, 0, none⟩)) rfl e1 ?_
                exact ow_nilCheck rfl ⟨Below.refl _ _, Left.of rfl⟩
              · intro vs X wq K
                have LE := K.1
                have XN := K.2.1
                have SQ := Nat.le_trans LW.size (Nat.le_trans E.size LE.size)
                obtain ⟨_, e2, k2⟩ := K.dep 2 rfl rfl rfl
                refine ow_set 231 (.pointer (some ⟨8, 0, none⟩)) rfl e2 ?_
                exact ow_fieldAddr Tryz.underlying206 rfl sz144 (by decide) rfl ⟨Below.refl _ _, Left.of rfl⟩
              · intro vs X wq K
                have LE := K.1
                have XN := K.2.1
                have SQ := Nat.le_trans LW.size (Nat.le_trans E.size LE.size)
                obtain ⟨_, e3, k3⟩ := K.dep 3 rfl rfl rfl
                refine ow_set 232 (.pointer (some ⟨8, 0, none⟩)) rfl e3 ?_
                exact ow_load1 Tryz.underlying144 rfl rfl (HF.on (E.drew.trans (LE.mono OY))).here.1.1.2 ⟨Below.refl _ _, Left.of rfl⟩
              · intro vs X wq K
                have LE := K.1
                have XN := K.2.1
                have SQ := Nat.le_trans LW.size (Nat.le_trans E.size LE.size)
                obtain ⟨_, e4, k4⟩ := K.dep 4 rfl rfl rfl
                refine ow_set 233 (.int .u64 52) rfl e4 ?_
                exact ow_shl (z := 4503599627370496) rfl rfl (by decide) (by kernel_rfl) ⟨Below.refl _ _, Left.of rfl⟩
              · intro vs X wq K
                have LE := K.1
                have XN := K.2.1
                have SQ := Nat.le_trans LW.size (Nat.le_trans E.size LE.size)
                exact ow_move rfl ⟨Below.refl _ _, Left.of rfl⟩
              · intro vs X wq K
                have LE := K.1
                have XN := K.2.1
                have SQ := Nat.le_trans LW.size (Nat.le_trans E.size LE.size)
                obtain ⟨_, e6, k6⟩ := K.dep 6 rfl rfl rfl
                refine ow_set 235 (.pointer (some ⟨8, 0, none⟩)) rfl e6 ?_
                exact ow_nilCheck rfl ⟨Below.refl _ _, Left.of rfl⟩
              · intro vs X wq K
                have LE := K.1
                have XN := K.2.1
                have SQ := Nat.le_trans LW.size (Nat.le_trans E.size LE.size)
                obtain ⟨_, e7, k7⟩ := K.dep 7 rfl rfl rfl
                refine ow_set 236 (.pointer (some ⟨8, 0, none⟩)) rfl e7 ?_
                exact ow_fieldAddr Tryz.underlying206 rfl sz144 (by decide) rfl ⟨Below.refl _ _, Left.of rfl⟩
              · intro vs X wq K
                have LE := K.1
                have XN := K.2.1
                have SQ := Nat.le_trans LW.size (Nat.le_trans E.size LE.size)
                obtain ⟨_, e8, k8⟩ := K.dep 8 rfl rfl rfl
                refine ow_set 237 (.pointer (some ⟨8, 1, none⟩)) rfl e8 ?_
                exact ow_load1 Tryz.underlying144 rfl rfl (HF.on (E.drew.trans (LE.mono OY))).here.1.2 ⟨Below.refl _ _, Left.of rfl⟩
              · intro vs X wq K
                have LE := K.1
                have XN := K.2.1
                have SQ := Nat.le_trans LW.size (Nat.le_trans E.size LE.size)
                obtain ⟨_, e5, k5⟩ := K.dep 5 rfl rfl rfl
                refine ow_set 234 (.int .u64 4503599627370496) rfl e5 ?_
                obtain ⟨_, e9, k9⟩ := K.dep 9 rfl rfl rfl
                refine ow_set 238 (.int .u64 11) rfl e9 ?_
                exact ow_shl (z := 9223372036854775808) rfl rfl (by decide) (by kernel_rfl) ⟨Below.refl _ _, Left.of rfl⟩
              · intro vs X wq K
                have LE := K.1
                have XN := K.2.1
                have SQ := Nat.le_trans LW.size (Nat.le_trans E.size LE.size)
                obtain ⟨_, e0, k0⟩ := K.dep 0 rfl rfl rfl
                refine ow_set 229 (.int .u64 ((slowC M (Kx) : Nat) : Int)) rfl e0 ?_
                obtain ⟨_, e10, k10⟩ := K.dep 10 rfl rfl rfl
                refine ow_set 239 (.int .u64 9223372036854775808) rfl e10 ?_
                exact ow_or rfl rfl (slowC_neg hee) ⟨Below.refl _ _, Left.of rfl⟩
              · intro vs X wq K
                have LE := K.1
                have XN := K.2.1
                have SQ := Nat.le_trans LW.size (Nat.le_trans E.size LE.size)
                obtain ⟨_, e11, k11⟩ := K.dep 11 rfl rfl rfl
                refine ow_set 240 (.int .u64 ((slowC M (Kx) ||| 9223372036854775808 : Nat) : Int)) rfl e11 ?_
                exact ow_assign rfl ⟨Below.refl _ _, Left.of rfl⟩
            intro vs w54 LE AO AL AF AA
            have LBa := Ba
            replace Ba := Ba.drew.extN LE NotIn.nil
            replace E := E.drew.trans (LE.mono OY)
            obtain ⟨_, e12, k12⟩ := AL.2.2.2.2.2.2.2.2.2.2.2.2.1
            refine ew_sub (τ := [(4, _), (5, _), (11, .int .u64 ((slowC M (Kx) ||| 9223372036854775808 : Nat) : Int))]) ⟨rfl, rfl, congrArg some e12, trivial⟩ ?_
            clear AL AF AA LE AO OY e12 k12 LBa
            refine ew_next ?_
            refine cw_seq ?_
            refine cw_region ?_
            refine rs_op rfl (ow_move rfl ?_)
            refine rs_op rfl (ow_move rfl ?_)
            refine rs_op rfl (ow_assign rfl ?_)
            refine rs_op rfl (ow_assign rfl ?_)
            refine rs_nil ?_
            refine ew_next ?_
            refine cw_ret ?_
            refine ew_scope_ret ?_
            have e : slowF t = slowC M (Kx) ||| 9223372036854775808 := by unfold slowF slowB slowC; rw [hfb, if_pos hng]
            refine ew_ret (rs := [.tmp 4, .tmp 5]) (vs := [_, _]) rfl ⟨rfl, rfl, trivial⟩ ?_
            exact ⟨by rw [e, hfb]; rfl, ⟨_, Ba⟩, (LW.step E XLW)⟩
           ·
            refine cw_skip ?_
            refine ew_next ?_
            refine cw_seq ?_
            refine cw_region ?_
            refine rs_op rfl (ow_move rfl ?_)
            refine rs_op rfl (ow_move rfl ?_)
            refine rs_op rfl (ow_assign rfl ?_)
            refine rs_op rfl (ow_assign rfl ?_)
            refine rs_nil ?_
            refine ew_next ?_
            refine cw_ret ?_
            refine ew_scope_ret ?_
            have e : slowF t = slowC M (Kx) := by unfold slowF slowB slowC; rw [hfb, if_neg (by rw [hng]; decide)]
            refine ew_ret (rs := [.tmp 4, .tmp 5]) (vs := [_, _]) rfl ⟨rfl, rfl, trivial⟩ ?_
            exact ⟨by rw [e, hfb]; rfl, ⟨_, Ba⟩, (LW.step E XLW)⟩
end
end Go.Proofs.YtjdcjdohghkcgaaGreatDoor

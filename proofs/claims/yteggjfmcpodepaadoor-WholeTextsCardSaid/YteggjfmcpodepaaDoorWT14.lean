/- The walk of screeref02.Show. Plain mathematics: a numeral put together from blocks of 18 digits; the number that blocks of 18 digits spell. No condition. The walk of whole.Text. -/
import Derived.Test.YteggjfmcpodepaaDoorWT13
import Derived.Lib.ItoaNum
namespace Go.Proofs.YteggjfmcpodepaaDoor
open Go.RowKit
set_option maxRecDepth 100000
/-- What Show has written of the digits, the highest first. -/
def shown (ds : List Nat) (k : Nat) : List Value := (List.range k).map fun j => .int .u8 (48 + nth ds (ds.length - 1 - j))
theorem shown_len (ds : List Nat) (k : Nat) : (shown ds k).length = k := by simp [shown]
theorem shown_succ (ds : List Nat) (k : Nat) : shown ds k ++ [.int .u8 (48 + nth ds (ds.length - 1 - k))] = shown ds (k + 1) := by simp [shown, List.range_succ]
theorem nth_tens_lt (i : Int) (k : Nat) : 0 ≤ nth (tens i) k ∧ nth (tens i) k ≤ 9 := by rw [nth_tens]; omega
theorem ten_digits {n : Nat} (hn : n ≠ 0) : (digs 10 n).length = Lib.nDigits n := by
  induction n using digs_ind (b := 10) (by decide) with
  | h0 => exact absurd rfl hn
  | hs n h0 ih =>
    rw [digs_step (by decide) h0]
    by_cases h : n < 10
    · rw [Nat.div_eq_of_lt h, Lib.nDigits_small h]; rfl
    · rw [Lib.nDigits_big h, List.length_cons, ih (by omega)]
theorem ten_len {i : Int} (h : i ≠ 0) : (tens i).length = Lib.nDigits i.natAbs := by rw [tens_eq]; exact ten_digits (by omega)
theorem shown_all {i : Int} (h : i ≠ 0) : shown (tens i) (tens i).length = (Lib.decDigits i.natAbs).map fun b => .int .u8 (b.toNat : Int) := by
  have hl : (tens i).length = Lib.nDigits i.natAbs := by rw [tens_eq]; exact ten_digits (by omega)
  rw [Lib.decDigits_eq, shown, hl, List.map_map]
  apply List.map_congr_left
  intro j _
  simp only [Function.comp_apply, nth_tens, Lib.dg]
  have h9 : i.natAbs / 10 ^ (Lib.nDigits i.natAbs - 1 - j) % 10 < 10 := Nat.mod_lt _ (by decide)
  generalize i.natAbs / 10 ^ (Lib.nDigits i.natAbs - 1 - j) % 10 = u at h9 ⊢
  have e : (UInt8.ofNat (48 + u)).toNat = 48 + u := by simp; omega
  rw [e]
  simp
section
variable (i : Int) (A : Option Addr) (c : Nat) (w : World) (hi : i.natAbs < B18 ^ 30) (hx : Nums8 w A (tens i))
include hi hx
theorem rshow_zero (h0 : i = 0) : Calls Tryd.prog 47 #[.agg #[.bool (decide (i < 0)), .slice A (tens i).length c]] w fun e w' => e = .returned (.string ⟨(Lib.itoa i).toArray⟩) ∧ Below w.heap.size w w' := by
  have _ := And.intro hi hx
  have hl : ((tens i).length : Int) = 0 := by rw [h0, tens_zero]; rfl
  refine calls_cw Tryd.func47 rfl Tryd.ntmps47 rfl ?_
  have HF : Per No w (fun _ => True) := Per.true_
  have LW := Ext.refl (No) w
  have XLW : ∀ q9, (No) q9 → (No) q9 ∨ w.heap.size ≤ q9 := fun _ h => Or.inl h
  have E := Ext.refl No w
  refine cw_seq ?_
  refine cw_region ?_
  refine rs_op rfl (ow_boxB rfl ?_)
  intro gb1 w2 Bb1 Eb1 Gb1
  have Gb1 : _ ≤ gb1 := Nat.le_trans E.size Gb1
  have GLb1 := Nat.le_trans LW.size Gb1
  replace E := E.trans Eb1.no
  clear Eb1
  replace HF := HF.cons (some_ge Gb1)
  replace E := E.cons (some gb1)
  replace XLW := Mut.grow XLW (fun k e => Or.inr (Nat.le_trans LW.size ((some_ge Gb1) k e)))
  replace HF := HF.on E
  replace LW := LW.step E XLW
  have SB : ∀ q9, No q9 → Mut [(some gb1)] q9 := (Mut.skip Mut.nil_)
  replace HF := HF.less SB
  replace XLW := fun k h => XLW k (SB k h)
  clear SB
  replace E := Ext.refl (No) w2
  replace HF := HF.and (Per.blkN Bb1 NotIn.nil)
  clear Bb1
  refine rs_op rfl (ow_assign rfl ?_)
  refine rs_nil ?_
  refine ew_next ?_
  refine cw_seq ?_
  refine cw_seq ?_
  refine cw_region ?_
  refine rs_op rfl (ow_fieldAddr Tryd.underlying33 rfl sz31 (by decide) rfl ?_)
  refine rs_op rfl (ow_loadF Tryd.underlying31 rfl rfl (HF.on E).here.2 rfl ?_)
  refine rs_op rfl (ow_len Tryd.underlying31 rfl ?_)
  refine rs_op rfl (ow_eql rfl rfl ?_)
  refine rs_nil ?_
  refine ew_next ?_
  refine cw_set 8 (.bool true) rfl ((by rw [hl]; rfl : (.bool (((((tens i).length : Nat)) : Int) == 0) : Value) = _)) ?_
  refine cw_then rfl ?_
  refine cw_seq ?_
  refine cw_region ?_
  refine rs_op rfl (ow_assign rfl ?_)
  refine rs_nil ?_
  refine ew_next ?_
  refine cw_ret ?_
  refine ew_then_ret ?_
  have e : Lib.itoa 0 = [48] := by rw [Lib.itoa, if_neg (by decide), Lib.decDigits]; rfl
  refine ew_ret (rs := [.tmp 2]) (vs := [_]) rfl ⟨rfl, trivial⟩ ?_
  exact ⟨by rw [h0, e]; rfl, (LW.step E XLW).toBelow⟩
theorem rshow_neg (hn : i < 0) : Calls Tryd.prog 47 #[.agg #[.bool (decide (i < 0)), .slice A (tens i).length c]] w fun e w' => e = .returned (.string ⟨(Lib.itoa i).toArray⟩) ∧ Below w.heap.size w w' := by
  have h0 : i ≠ 0 := by omega
  have hit : Lib.itoa i = 45 :: Lib.decDigits i.natAbs := by rw [Lib.itoa, if_pos hn]
  have hl : ((tens i).length : Int) ≠ 0 := by have := ten_pos (j := i) (by omega); omega
  have hl2 := tens_length hi
  have hdi : decide (i < 0) = true := decide_eq_true hn
  obtain ⟨bx, ox, rfl, hbx, hcx⟩ := hx.2 (ten_pos (by omega))
  refine calls_cw Tryd.func47 rfl Tryd.ntmps47 rfl ?_
  have HF : Per No w (fun _ => True) := Per.true_
  have LW := Ext.refl (No) w
  have XLW : ∀ q9, (No) q9 → (No) q9 ∨ w.heap.size ≤ q9 := fun _ h => Or.inl h
  have E := Ext.refl No w
  replace HF := HF.on E
  replace LW := LW.step E XLW
  replace E := Ext.refl (No) w
  replace HF := HF.and (Per.nums80 hx)
  refine cw_seq ?_
  refine cw_region ?_
  refine rs_op rfl (ow_boxB rfl ?_)
  intro gb1 w2 Bb1 Eb1 Gb1
  have Gb1 : _ ≤ gb1 := Nat.le_trans E.size Gb1
  have GLb1 := Nat.le_trans LW.size Gb1
  replace E := E.trans Eb1.no
  clear Eb1
  replace HF := HF.cons (some_ge Gb1)
  replace E := E.cons (some gb1)
  replace XLW := Mut.grow XLW (fun k e => Or.inr (Nat.le_trans LW.size ((some_ge Gb1) k e)))
  replace HF := HF.on E
  replace LW := LW.step E XLW
  have SB : ∀ q9, No q9 → Mut [(some gb1)] q9 := (Mut.skip Mut.nil_)
  replace HF := HF.less SB
  replace XLW := fun k h => XLW k (SB k h)
  clear SB
  replace E := Ext.refl (No) w2
  replace HF := HF.and (Per.blkN Bb1 NotIn.nil)
  clear Bb1
  refine rs_op rfl (ow_assign rfl ?_)
  refine rs_nil ?_
  refine ew_next ?_
  refine cw_seq ?_
  refine cw_seq ?_
  refine cw_region ?_
  refine rs_op rfl (ow_fieldAddr Tryd.underlying33 rfl sz31 (by decide) rfl ?_)
  refine rs_op rfl (ow_loadF Tryd.underlying31 rfl rfl (HF.on E).here.2 rfl ?_)
  refine rs_op rfl (ow_len Tryd.underlying31 rfl ?_)
  refine rs_op rfl (ow_eql rfl rfl ?_)
  refine rs_nil ?_
  refine ew_next ?_
  refine cw_set 8 (.bool false) rfl ((by rw [beq_eq_false_iff_ne.2 hl] : (.bool (((((tens i).length : Nat)) : Int) == 0) : Value) = _)) ?_
  refine cw_else rfl ?_
  refine cw_skip ?_
  refine ew_next ?_
  refine cw_seq ?_
  refine cw_region ?_
  refine rs_op rfl (ow_assign rfl ?_)
  refine rs_nil ?_
  refine ew_next ?_
  refine cw_seq ?_
  refine cw_seq ?_
  refine cw_region ?_
  refine rs_op rfl (ow_fieldAddr Tryd.underlying33 rfl sz4 (by decide) rfl ?_)
  refine rs_op rfl (ow_loadF Tryd.underlying4 rfl rfl (HF.on E).here.2 rfl ?_)
  refine rs_nil ?_
  refine ew_next ?_
  refine cw_set 10 (.bool true) rfl ((by rw [hdi] : (.bool (decide (i < 0)) : Value) = _)) ?_
  have Ob : World.ownsRow w2 w.heap.size 5 1 (.slice none 0 0) 0 ([]) := owns_nil
  replace HF := HF.cons (nil_no)
  replace E := E.cons ((Value.slice none 0 0).ownBlock)
  replace XLW := Mut.grow XLW (fun k e => Or.inr (Nat.le_trans LW.size ((nil_no) k e)))
  refine cw_then rfl ?_
  refine cw_region ?_
  refine rs_op rfl (ow_move rfl ?_)
  refine rs_op rfl (ow_buildSlice (cs := #[.int .u8 45]) Tryd.underlying31 sz5 zr5 (by decide) rfl (by rw [map_range_]; rfl) ?_)
  intro gb3 w4 Bb3 Eb3 Gb3
  have Db3_b : Apart (some gb3) ((Value.slice none 0 0).ownBlock) := Apart.of_lt (owns_lt Ob) Gb3
  have Db_b3 := Db3_b.symm
  have Gb3 : _ ≤ gb3 := Nat.le_trans E.size Gb3
  have GLb3 := Nat.le_trans LW.size Gb3
  replace Ob := owns_extN Ob Eb3 NotIn.nil
  replace E := E.trans Eb3.no
  clear Eb3
  replace HF := HF.cons (some_ge Gb3)
  replace E := E.cons (some gb3)
  replace XLW := Mut.grow XLW (fun k e => Or.inr (Nat.le_trans LW.size ((some_ge Gb3) k e)))
  replace HF := HF.on E
  replace LW := LW.step E XLW
  have SB : ∀ q9, Mut [((Value.slice none 0 0).ownBlock)] q9 → Mut [(some gb3), ((Value.slice none 0 0).ownBlock)] q9 := (Mut.skip (Mut.keep Mut.nil_))
  replace HF := HF.less SB
  replace XLW := fun k h => XLW k (SB k h)
  clear SB
  replace E := Ext.refl (Mut [((Value.slice none 0 0).ownBlock)]) w4
  replace HF := HF.and (Per.blkN Bb3 (NotIn.cons Db3_b NotIn.nil))
  clear Bb3
  refine rs_op rfl (ow_append (news := [.int .u8 45]) Tryd.underlying31 inf5 rfl (by decide) rfl Ob rfl (reads_row (HF.on E).here.2 ((HF.on E).here.2).lt rfl) (by simp [Value.oneCell']) (by unfold maxLen; omega) (by omega) (by exact Nat.le_trans LW.size E.size) ?_)
  intro v0 w5 On En KN
  obtain ⟨A0, c0, rfl⟩ := owns_shape On
  replace KN : ∀ q9, ((Value.slice A0 1 c0).ownBlock) = some q9 → ((Value.slice none 0 0).ownBlock) = some q9 ∨ w4.heap.size ≤ q9 := KN
  have HY : ∀ q9, (Mut [((Value.slice A0 1 c0).ownBlock)]) q9 → (Mut [((Value.slice none 0 0).ownBlock)]) q9 ∨ w4.heap.size ≤ q9 := (Mut.grow Mut.none_ (fun k e => (KN k e).elim (fun e => Or.inl (Mut.head k e)) (fun h => Or.inr (Nat.le_trans E.size h))))
  replace E := E.step1 En Mut.head
  replace HF := HF.turn E HY
  have XT := fun q9 (h : (Mut [((Value.slice A0 1 c0).ownBlock)]) q9) => (HY q9 h).elim (XLW q9) (fun h => Or.inr (Nat.le_trans LW.size h))
  replace LW := LW.step E XLW
  replace XLW := XT
  clear XT
  replace E := Ext.refl (Mut [((Value.slice A0 1 c0).ownBlock)]) w5
  clear HY
  replace Ob : World.ownsRow w5 w.heap.size 5 1 (.slice A0 1 c0) 1 ([.int .u8 45]) := by
    have e : (([]) : List Value) ++ ([.int .u8 45] : List Value) = [.int .u8 45] := rfl
    rw [← e]
    exact On
  clear On KN En
  refine rs_op rfl (ow_assign rfl ?_)
  refine rs_nil ?_
  refine ew_next ?_
  refine cw_seq ?_
  refine cw_seq ?_
  refine cw_region ?_
  refine rs_op rfl (ow_fieldAddr Tryd.underlying33 rfl sz31 (by decide) rfl ?_)
  refine rs_op rfl (ow_loadF Tryd.underlying31 rfl rfl (HF.on E).here.1.2 rfl ?_)
  refine rs_op rfl (ow_len Tryd.underlying31 rfl ?_)
  refine rs_op rfl (ow_sub rfl rfl (wrap_i64 (by omega)) ?_)
  refine rs_op rfl (ow_assign rfl ?_)
  refine rs_nil ?_
  refine ew_next ?_
  refine cw_block ?_
  refine cw_set 4 (.int .i64 (((tens i).length : Int) - 1 - ((0 : Nat) : Int))) rfl ((by simp : (.int .i64 (((((tens i).length : Nat)) : Int) - 1) : Value) = _)) ?_
  replace HF := HF.on E
  replace LW := LW.step E XLW
  replace E := Ext.refl (Mut [((Value.slice A0 1 c0).ownBlock)]) w5
  refine cw_loop (ι := Nat × Option Addr × Nat) (fun (k, A1, c1) => [(1, .pointer (some ⟨gb1, 0, none⟩)), (3, .slice A1 (1 + k) c1), (4, .int .i64 (((tens i).length : Int) - 1 - (k : Int)))]) (fun (k, A1, c1) w' => Ext (Mut [((Value.slice A0 1 c0).ownBlock)]) w5 w' ∧ World.ownsRow w' w.heap.size 5 1 (.slice A1 (1 + k) c1) (1 + k) ([.int .u8 45] ++ shown (tens i) k) ∧ (∀ q9, ((Value.slice A1 (1 + k) c1).ownBlock) = some q9 → ((Value.slice A0 1 c0).ownBlock) = some q9 ∨ w5.heap.size ≤ q9) ∧ (k ≤ (tens i).length)) (fun (k, A1, c1) => (tens i).length - k) (0, A0, c0) ⟨rfl, rfl, rfl, trivial⟩ ⟨Ext.refl _ _, (by exact Ob), (fun _ e => Or.inl e), Nat.zero_le _⟩ ?_
  have LTb := (owns_lt Ob)
  clear Ob
  rintro ⟨k, A1, c1⟩ w7 ⟨M6, Ob, KbM6, hk⟩
  have XM6 : ∀ q9, (Mut [((Value.slice A1 (1 + k) c1).ownBlock)]) q9 → (Mut [((Value.slice A0 1 c0).ownBlock)]) q9 ∨ w5.heap.size ≤ q9 := (Mut.grow Mut.none_ (fun k e => (KbM6 k e).elim (fun e => Or.inl (Mut.head k e)) Or.inr))
  replace E := E.trans M6
  replace HF := HF.turn E XM6
  have XT := fun q9 (h : (Mut [((Value.slice A1 (1 + k) c1).ownBlock)]) q9) => (XM6 q9 h).elim (XLW q9) (fun h => Or.inr (Nat.le_trans LW.size h))
  replace LW := LW.step E XLW
  replace XLW := XT
  clear XT
  replace E := Ext.refl (Mut [((Value.slice A1 (1 + k) c1).ownBlock)]) w7
  clear LTb
  refine cw_seq ?_
  refine cw_seq ?_
  refine cw_region ?_
  refine rs_op rfl (ow_move rfl ?_)
  refine rs_op rfl (ow_geq rfl rfl ?_)
  refine rs_nil ?_
  refine ew_next ?_
  refine cw_cond rfl (fun q => ?_) (fun q => ?_)
  · have _way := True.intro
    have q := of_decide_eq_true q
    refine cw_skip ?_
    refine ew_next ?_
    refine cw_seq ?_
    refine cw_block ?_
    refine cw_region ?_
    refine rs_op rfl (ow_move rfl ?_)
    refine rs_op rfl (ow_fieldAddr Tryd.underlying33 rfl sz31 (by decide) rfl ?_)
    refine rs_op rfl (ow_loadF Tryd.underlying31 rfl rfl (HF.on E).here.1.2 rfl ?_)
    refine rs_op rfl (ow_move rfl ?_)
    refine rs_op rfl (ow_indexAddr1 (j := (tens i).length - 1 - k) Tryd.underlying31 sz5 rfl rfl (by omega) (by omega) ?_)
    have hin := nth_tens_lt i ((tens i).length - 1 - k)
    obtain ⟨b9, o9, hA9, _, hc9⟩ := ((HF.on E).here.1.1.2).2 (ten_pos h0)
    obtain ⟨rfl, rfl⟩ : b9 = bx ∧ o9 = ox := by simpa using hA9.symm
    refine rs_op rfl (ow_load1 Tryd.underlying5 rfl rfl (hc9 ((tens i).length - 1 - k) (by omega)) ?_)
    refine rs_op rfl (ow_add rfl rfl (wrap_u8 (by omega)) ?_)
    refine rs_op rfl (ow_buildSlice (cs := #[.int .u8 (48 + (nth (tens i) ((tens i).length - 1 - k)))]) Tryd.underlying31 sz5 zr5 (by decide) rfl (by rw [map_range_]; rfl) ?_)
    intro gb8 w9 Bb8 Eb8 Gb8
    have Db8_b : Apart (some gb8) ((Value.slice A1 (1 + k) c1).ownBlock) := Apart.of_lt (owns_lt Ob) Gb8
    have Db_b8 := Db8_b.symm
    have Gb8 : _ ≤ gb8 := Nat.le_trans E.size Gb8
    have GLb8 := Nat.le_trans LW.size Gb8
    replace Ob := owns_extN Ob Eb8 NotIn.nil
    replace E := E.trans Eb8.no
    clear Eb8
    replace HF := HF.cons (some_ge Gb8)
    replace E := E.cons (some gb8)
    replace XLW := Mut.grow XLW (fun k e => Or.inr (Nat.le_trans LW.size ((some_ge Gb8) k e)))
    replace XM6 := Mut.grow XM6 (fun k e => Or.inr (Nat.le_trans M6.size ((some_ge Gb8) k e)))
    replace HF := HF.on E
    replace LW := LW.step E XLW
    replace M6 := M6.step E XM6
    have SB : ∀ q9, Mut [((Value.slice A1 (1 + k) c1).ownBlock)] q9 → Mut [(some gb8), ((Value.slice A1 (1 + k) c1).ownBlock)] q9 := (Mut.skip (Mut.keep Mut.nil_))
    replace HF := HF.less SB
    replace XLW := fun k h => XLW k (SB k h)
    replace XM6 := fun k h => XM6 k (SB k h)
    clear SB
    replace E := Ext.refl (Mut [((Value.slice A1 (1 + k) c1).ownBlock)]) w9
    replace HF := HF.and (Per.blkN Bb8 (NotIn.cons Db8_b NotIn.nil))
    clear Bb8
    refine rs_op rfl (ow_append (news := [.int .u8 (48 + (nth (tens i) ((tens i).length - 1 - k)))]) Tryd.underlying31 inf5 rfl (by decide) rfl Ob rfl (reads_row (HF.on E).here.2 ((HF.on E).here.2).lt rfl) (by simp [Value.oneCell']) (by unfold maxLen; omega) (by omega) (by exact Nat.le_trans LW.size E.size) ?_)
    intro v0 w10 On En KN
    obtain ⟨A2, c2, rfl⟩ := owns_shape On
    replace KN : ∀ q9, ((Value.slice A2 (1 + (k + 1)) c2).ownBlock) = some q9 → ((Value.slice A1 (1 + k) c1).ownBlock) = some q9 ∨ w9.heap.size ≤ q9 := KN
    have HY : ∀ q9, (Mut [((Value.slice A2 (1 + (k + 1)) c2).ownBlock)]) q9 → (Mut [((Value.slice A1 (1 + k) c1).ownBlock)]) q9 ∨ w9.heap.size ≤ q9 := (Mut.grow Mut.none_ (fun k e => (KN k e).elim (fun e => Or.inl (Mut.head k e)) (fun h => Or.inr (Nat.le_trans E.size h))))
    replace KbM6 : ∀ q9, ((Value.slice A2 (1 + (k + 1)) c2).ownBlock) = some q9 → ((Value.slice A0 1 c0).ownBlock) = some q9 ∨ w5.heap.size ≤ q9 := fun k e => (KN k e).elim (KbM6 k) (fun h => Or.inr (Nat.le_trans M6.size (Nat.le_trans E.size h)))
    replace E := E.step1 En Mut.head
    replace HF := HF.turn E HY
    have XT := fun q9 (h : (Mut [((Value.slice A2 (1 + (k + 1)) c2).ownBlock)]) q9) => (HY q9 h).elim (XLW q9) (fun h => Or.inr (Nat.le_trans LW.size h))
    replace LW := LW.step E XLW
    replace XLW := XT
    clear XT
    have XT := fun q9 (h : (Mut [((Value.slice A2 (1 + (k + 1)) c2).ownBlock)]) q9) => (HY q9 h).elim (XM6 q9) (fun h => Or.inr (Nat.le_trans M6.size h))
    replace M6 := M6.step E XM6
    replace XM6 := XT
    clear XT
    replace E := Ext.refl (Mut [((Value.slice A2 (1 + (k + 1)) c2).ownBlock)]) w10
    clear HY
    replace Ob : World.ownsRow w10 w.heap.size 5 1 (.slice A2 (1 + (k + 1)) c2) (1 + (k + 1)) ([.int .u8 45] ++ shown (tens i) (k + 1)) := by
      have e : (([.int .u8 45] ++ shown (tens i) k) : List Value) ++ ([.int .u8 (48 + (nth (tens i) ((tens i).length - 1 - k)))] : List Value) = [.int .u8 45] ++ shown (tens i) (k + 1) := by rw [List.append_assoc, shown_succ]
      rw [← e]
      exact On
    clear On KN En
    refine rs_op rfl (ow_assign rfl ?_)
    refine rs_nil ?_
    refine ew_block_normal ?_
    refine ew_next ?_
    refine cw_region ?_
    refine rs_op rfl (ow_move rfl ?_)
    refine rs_op rfl (ow_sub rfl rfl (wrap_i64 (by omega)) ?_)
    refine rs_op rfl (ow_assign rfl ?_)
    refine rs_nil ?_
    refine ew_set 4 (.int .i64 (((tens i).length : Int) - 1 - ((k + 1 : Nat) : Int))) rfl ((by rw [show ((tens i).length : Int) - 1 - (k : Int) - 1 = ((tens i).length : Int) - 1 - ((k + 1 : Nat) : Int) by omega] : (.int .i64 ((((tens i).length : Int) - 1 - (k : Int)) - 1) : Value) = _)) ?_
    exact ew_round (ι := Nat × Option Addr × Nat) (s := fun (k, A1, c1) => [(1, .pointer (some ⟨gb1, 0, none⟩)), (3, .slice A1 (1 + k) c1), (4, .int .i64 (((tens i).length : Int) - 1 - (k : Int)))]) (R := fun (k, A1, c1) w' => Ext (Mut [((Value.slice A0 1 c0).ownBlock)]) w5 w' ∧ World.ownsRow w' w.heap.size 5 1 (.slice A1 (1 + k) c1) (1 + k) ([.int .u8 45] ++ shown (tens i) k) ∧ (∀ q9, ((Value.slice A1 (1 + k) c1).ownBlock) = some q9 → ((Value.slice A0 1 c0).ownBlock) = some q9 ∨ w5.heap.size ≤ q9) ∧ (k ≤ (tens i).length)) (m := fun (k, A1, c1) => (tens i).length - k) (i := ⟨k, A1, c1⟩) (k + 1, A2, c2) (by show (tens i).length - (k + 1) < (tens i).length - k; omega) ⟨rfl, rfl, rfl, trivial⟩ ⟨M6.step E XM6, (by exact Ob), KbM6, (by omega : k + 1 ≤ (tens i).length)⟩
  · have _way := True.intro
    have q := of_decide_eq_false q
    obtain rfl : k = (tens i).length := by omega
    have hl9 : (45 :: Lib.decDigits i.natAbs : List UInt8).length = 1 + (tens i).length := by simp [Lib.decDigits_length, ten_len h0]; try omega
    have hxs : [.int .u8 45] ++ shown (tens i) (tens i).length = (45 :: Lib.decDigits i.natAbs : List UInt8).map fun b => .int .u8 (b.toNat : Int) := by rw [shown_all h0]; rfl
    refine cw_exit ?_
    refine ew_then_exit ?_
    refine ew_then_exit ?_
    refine ew_block_here ?_
    refine ew_next ?_
    refine cw_seq ?_
    refine cw_region ?_
    refine rs_op rfl (ow_move rfl ?_)
    refine rs_op rfl (ow_bytesStr (l := 45 :: Lib.decDigits i.natAbs) Tryd.underlying31 Tryd.underlying5 Tryd.underlying9 (congrArg some (congrArg (fun n ↦ Value.slice A1 n c1) hl9.symm)) (own_bytes Ob hxs) ?_)
    refine rs_op rfl (ow_assign rfl ?_)
    refine rs_nil ?_
    refine ew_next ?_
    refine cw_ret ?_
    refine ew_ret (rs := [.tmp 2]) (vs := [_]) rfl ⟨rfl, trivial⟩ ?_
    exact ⟨by rw [hit]; rfl, (LW.step E XLW).toBelow⟩
theorem rshow_pos (hn : 0 < i) : Calls Tryd.prog 47 #[.agg #[.bool (decide (i < 0)), .slice A (tens i).length c]] w fun e w' => e = .returned (.string ⟨(Lib.itoa i).toArray⟩) ∧ Below w.heap.size w w' := by
  have h0 : i ≠ 0 := by omega
  have hit : Lib.itoa i = Lib.decDigits i.natAbs := by rw [Lib.itoa, if_neg (by omega), show i.toNat = i.natAbs by omega]
  have hl : ((tens i).length : Int) ≠ 0 := by have := ten_pos (j := i) (by omega); omega
  have hl2 := tens_length hi
  have hdi : decide (i < 0) = false := decide_eq_false (by omega)
  obtain ⟨bx, ox, rfl, hbx, hcx⟩ := hx.2 (ten_pos (by omega))
  refine calls_cw Tryd.func47 rfl Tryd.ntmps47 rfl ?_
  have HF : Per No w (fun _ => True) := Per.true_
  have LW := Ext.refl (No) w
  have XLW : ∀ q9, (No) q9 → (No) q9 ∨ w.heap.size ≤ q9 := fun _ h => Or.inl h
  have E := Ext.refl No w
  replace HF := HF.on E
  replace LW := LW.step E XLW
  replace E := Ext.refl (No) w
  replace HF := HF.and (Per.nums80 hx)
  refine cw_seq ?_
  refine cw_region ?_
  refine rs_op rfl (ow_boxB rfl ?_)
  intro gb1 w2 Bb1 Eb1 Gb1
  have Gb1 : _ ≤ gb1 := Nat.le_trans E.size Gb1
  have GLb1 := Nat.le_trans LW.size Gb1
  replace E := E.trans Eb1.no
  clear Eb1
  replace HF := HF.cons (some_ge Gb1)
  replace E := E.cons (some gb1)
  replace XLW := Mut.grow XLW (fun k e => Or.inr (Nat.le_trans LW.size ((some_ge Gb1) k e)))
  replace HF := HF.on E
  replace LW := LW.step E XLW
  have SB : ∀ q9, No q9 → Mut [(some gb1)] q9 := (Mut.skip Mut.nil_)
  replace HF := HF.less SB
  replace XLW := fun k h => XLW k (SB k h)
  clear SB
  replace E := Ext.refl (No) w2
  replace HF := HF.and (Per.blkN Bb1 NotIn.nil)
  clear Bb1
  refine rs_op rfl (ow_assign rfl ?_)
  refine rs_nil ?_
  refine ew_next ?_
  refine cw_seq ?_
  refine cw_seq ?_
  refine cw_region ?_
  refine rs_op rfl (ow_fieldAddr Tryd.underlying33 rfl sz31 (by decide) rfl ?_)
  refine rs_op rfl (ow_loadF Tryd.underlying31 rfl rfl (HF.on E).here.2 rfl ?_)
  refine rs_op rfl (ow_len Tryd.underlying31 rfl ?_)
  refine rs_op rfl (ow_eql rfl rfl ?_)
  refine rs_nil ?_
  refine ew_next ?_
  refine cw_set 8 (.bool false) rfl ((by rw [beq_eq_false_iff_ne.2 hl] : (.bool (((((tens i).length : Nat)) : Int) == 0) : Value) = _)) ?_
  refine cw_else rfl ?_
  refine cw_skip ?_
  refine ew_next ?_
  refine cw_seq ?_
  refine cw_region ?_
  refine rs_op rfl (ow_assign rfl ?_)
  refine rs_nil ?_
  refine ew_next ?_
  refine cw_seq ?_
  refine cw_seq ?_
  refine cw_region ?_
  refine rs_op rfl (ow_fieldAddr Tryd.underlying33 rfl sz4 (by decide) rfl ?_)
  refine rs_op rfl (ow_loadF Tryd.underlying4 rfl rfl (HF.on E).here.2 rfl ?_)
  refine rs_nil ?_
  refine ew_next ?_
  refine cw_set 10 (.bool false) rfl ((by rw [hdi] : (.bool (decide (i < 0)) : Value) = _)) ?_
  have Ob : World.ownsRow w2 w.heap.size 5 1 (.slice none 0 0) 0 ([]) := owns_nil
  replace HF := HF.cons (nil_no)
  replace E := E.cons ((Value.slice none 0 0).ownBlock)
  replace XLW := Mut.grow XLW (fun k e => Or.inr (Nat.le_trans LW.size ((nil_no) k e)))
  refine cw_else rfl ?_
  refine cw_skip ?_
  refine ew_next ?_
  refine cw_seq ?_
  refine cw_seq ?_
  refine cw_region ?_
  refine rs_op rfl (ow_fieldAddr Tryd.underlying33 rfl sz31 (by decide) rfl ?_)
  refine rs_op rfl (ow_loadF Tryd.underlying31 rfl rfl (HF.on E).here.2 rfl ?_)
  refine rs_op rfl (ow_len Tryd.underlying31 rfl ?_)
  refine rs_op rfl (ow_sub rfl rfl (wrap_i64 (by omega)) ?_)
  refine rs_op rfl (ow_assign rfl ?_)
  refine rs_nil ?_
  refine ew_next ?_
  refine cw_block ?_
  refine cw_set 4 (.int .i64 (((tens i).length : Int) - 1 - ((0 : Nat) : Int))) rfl ((by simp : (.int .i64 (((((tens i).length : Nat)) : Int) - 1) : Value) = _)) ?_
  replace HF := HF.on E
  replace LW := LW.step E XLW
  replace E := Ext.refl (Mut [((Value.slice none 0 0).ownBlock)]) w2
  refine cw_loop (ι := Nat × Option Addr × Nat) (fun (k, A1, c1) => [(1, .pointer (some ⟨gb1, 0, none⟩)), (3, .slice A1 (0 + k) c1), (4, .int .i64 (((tens i).length : Int) - 1 - (k : Int)))]) (fun (k, A1, c1) w' => Ext (Mut [((Value.slice none 0 0).ownBlock)]) w2 w' ∧ World.ownsRow w' w.heap.size 5 1 (.slice A1 (0 + k) c1) (0 + k) ([] ++ shown (tens i) k) ∧ (∀ q9, ((Value.slice A1 (0 + k) c1).ownBlock) = some q9 → ((Value.slice none 0 0).ownBlock) = some q9 ∨ w2.heap.size ≤ q9) ∧ (k ≤ (tens i).length)) (fun (k, A1, c1) => (tens i).length - k) (0, none, 0) ⟨rfl, rfl, rfl, trivial⟩ ⟨Ext.refl _ _, (by exact Ob), (fun _ e => Or.inl e), Nat.zero_le _⟩ ?_
  have LTb := (owns_lt Ob)
  clear Ob
  rintro ⟨k, A1, c1⟩ w4 ⟨M3, Ob, KbM3, hk⟩
  have XM3 : ∀ q9, (Mut [((Value.slice A1 (0 + k) c1).ownBlock)]) q9 → (Mut [((Value.slice none 0 0).ownBlock)]) q9 ∨ w2.heap.size ≤ q9 := (Mut.grow Mut.none_ (fun k e => (KbM3 k e).elim (fun e => Or.inl (Mut.head k e)) Or.inr))
  replace E := E.trans M3
  replace HF := HF.turn E XM3
  have XT := fun q9 (h : (Mut [((Value.slice A1 (0 + k) c1).ownBlock)]) q9) => (XM3 q9 h).elim (XLW q9) (fun h => Or.inr (Nat.le_trans LW.size h))
  replace LW := LW.step E XLW
  replace XLW := XT
  clear XT
  replace E := Ext.refl (Mut [((Value.slice A1 (0 + k) c1).ownBlock)]) w4
  clear LTb
  refine cw_seq ?_
  refine cw_seq ?_
  refine cw_region ?_
  refine rs_op rfl (ow_move rfl ?_)
  refine rs_op rfl (ow_geq rfl rfl ?_)
  refine rs_nil ?_
  refine ew_next ?_
  refine cw_cond rfl (fun q => ?_) (fun q => ?_)
  · have _way := True.intro
    have q := of_decide_eq_true q
    refine cw_skip ?_
    refine ew_next ?_
    refine cw_seq ?_
    refine cw_block ?_
    refine cw_region ?_
    refine rs_op rfl (ow_move rfl ?_)
    refine rs_op rfl (ow_fieldAddr Tryd.underlying33 rfl sz31 (by decide) rfl ?_)
    refine rs_op rfl (ow_loadF Tryd.underlying31 rfl rfl (HF.on E).here.2 rfl ?_)
    refine rs_op rfl (ow_move rfl ?_)
    refine rs_op rfl (ow_indexAddr1 (j := (tens i).length - 1 - k) Tryd.underlying31 sz5 rfl rfl (by omega) (by omega) ?_)
    have hin := nth_tens_lt i ((tens i).length - 1 - k)
    obtain ⟨b9, o9, hA9, _, hc9⟩ := ((HF.on E).here.1.2).2 (ten_pos h0)
    obtain ⟨rfl, rfl⟩ : b9 = bx ∧ o9 = ox := by simpa using hA9.symm
    refine rs_op rfl (ow_load1 Tryd.underlying5 rfl rfl (hc9 ((tens i).length - 1 - k) (by omega)) ?_)
    refine rs_op rfl (ow_add rfl rfl (wrap_u8 (by omega)) ?_)
    refine rs_op rfl (ow_buildSlice (cs := #[.int .u8 (48 + (nth (tens i) ((tens i).length - 1 - k)))]) Tryd.underlying31 sz5 zr5 (by decide) rfl (by rw [map_range_]; rfl) ?_)
    intro gb5 w6 Bb5 Eb5 Gb5
    have Db5_b : Apart (some gb5) ((Value.slice A1 (0 + k) c1).ownBlock) := Apart.of_lt (owns_lt Ob) Gb5
    have Db_b5 := Db5_b.symm
    have Gb5 : _ ≤ gb5 := Nat.le_trans E.size Gb5
    have GLb5 := Nat.le_trans LW.size Gb5
    replace Ob := owns_extN Ob Eb5 NotIn.nil
    replace E := E.trans Eb5.no
    clear Eb5
    replace HF := HF.cons (some_ge Gb5)
    replace E := E.cons (some gb5)
    replace XLW := Mut.grow XLW (fun k e => Or.inr (Nat.le_trans LW.size ((some_ge Gb5) k e)))
    replace XM3 := Mut.grow XM3 (fun k e => Or.inr (Nat.le_trans M3.size ((some_ge Gb5) k e)))
    replace HF := HF.on E
    replace LW := LW.step E XLW
    replace M3 := M3.step E XM3
    have SB : ∀ q9, Mut [((Value.slice A1 (0 + k) c1).ownBlock)] q9 → Mut [(some gb5), ((Value.slice A1 (0 + k) c1).ownBlock)] q9 := (Mut.skip (Mut.keep Mut.nil_))
    replace HF := HF.less SB
    replace XLW := fun k h => XLW k (SB k h)
    replace XM3 := fun k h => XM3 k (SB k h)
    clear SB
    replace E := Ext.refl (Mut [((Value.slice A1 (0 + k) c1).ownBlock)]) w6
    replace HF := HF.and (Per.blkN Bb5 (NotIn.cons Db5_b NotIn.nil))
    clear Bb5
    refine rs_op rfl (ow_append (news := [.int .u8 (48 + (nth (tens i) ((tens i).length - 1 - k)))]) Tryd.underlying31 inf5 rfl (by decide) rfl Ob rfl (reads_row (HF.on E).here.2 ((HF.on E).here.2).lt rfl) (by simp [Value.oneCell']) (by unfold maxLen; omega) (by omega) (by exact Nat.le_trans LW.size E.size) ?_)
    intro v0 w7 On En KN
    obtain ⟨A2, c2, rfl⟩ := owns_shape On
    replace KN : ∀ q9, ((Value.slice A2 (0 + (k + 1)) c2).ownBlock) = some q9 → ((Value.slice A1 (0 + k) c1).ownBlock) = some q9 ∨ w6.heap.size ≤ q9 := KN
    have HY : ∀ q9, (Mut [((Value.slice A2 (0 + (k + 1)) c2).ownBlock)]) q9 → (Mut [((Value.slice A1 (0 + k) c1).ownBlock)]) q9 ∨ w6.heap.size ≤ q9 := (Mut.grow Mut.none_ (fun k e => (KN k e).elim (fun e => Or.inl (Mut.head k e)) (fun h => Or.inr (Nat.le_trans E.size h))))
    replace KbM3 : ∀ q9, ((Value.slice A2 (0 + (k + 1)) c2).ownBlock) = some q9 → ((Value.slice none 0 0).ownBlock) = some q9 ∨ w2.heap.size ≤ q9 := fun k e => (KN k e).elim (KbM3 k) (fun h => Or.inr (Nat.le_trans M3.size (Nat.le_trans E.size h)))
    replace E := E.step1 En Mut.head
    replace HF := HF.turn E HY
    have XT := fun q9 (h : (Mut [((Value.slice A2 (0 + (k + 1)) c2).ownBlock)]) q9) => (HY q9 h).elim (XLW q9) (fun h => Or.inr (Nat.le_trans LW.size h))
    replace LW := LW.step E XLW
    replace XLW := XT
    clear XT
    have XT := fun q9 (h : (Mut [((Value.slice A2 (0 + (k + 1)) c2).ownBlock)]) q9) => (HY q9 h).elim (XM3 q9) (fun h => Or.inr (Nat.le_trans M3.size h))
    replace M3 := M3.step E XM3
    replace XM3 := XT
    clear XT
    replace E := Ext.refl (Mut [((Value.slice A2 (0 + (k + 1)) c2).ownBlock)]) w7
    clear HY
    replace Ob : World.ownsRow w7 w.heap.size 5 1 (.slice A2 (0 + (k + 1)) c2) (0 + (k + 1)) ([] ++ shown (tens i) (k + 1)) := by
      have e : (([] ++ shown (tens i) k) : List Value) ++ ([.int .u8 (48 + (nth (tens i) ((tens i).length - 1 - k)))] : List Value) = [] ++ shown (tens i) (k + 1) := by rw [List.append_assoc, shown_succ]
      rw [← e]
      exact On
    clear On KN En
    refine rs_op rfl (ow_assign rfl ?_)
    refine rs_nil ?_
    refine ew_block_normal ?_
    refine ew_next ?_
    refine cw_region ?_
    refine rs_op rfl (ow_move rfl ?_)
    refine rs_op rfl (ow_sub rfl rfl (wrap_i64 (by omega)) ?_)
    refine rs_op rfl (ow_assign rfl ?_)
    refine rs_nil ?_
    refine ew_set 4 (.int .i64 (((tens i).length : Int) - 1 - ((k + 1 : Nat) : Int))) rfl ((by rw [show ((tens i).length : Int) - 1 - (k : Int) - 1 = ((tens i).length : Int) - 1 - ((k + 1 : Nat) : Int) by omega] : (.int .i64 ((((tens i).length : Int) - 1 - (k : Int)) - 1) : Value) = _)) ?_
    exact ew_round (ι := Nat × Option Addr × Nat) (s := fun (k, A1, c1) => [(1, .pointer (some ⟨gb1, 0, none⟩)), (3, .slice A1 (0 + k) c1), (4, .int .i64 (((tens i).length : Int) - 1 - (k : Int)))]) (R := fun (k, A1, c1) w' => Ext (Mut [((Value.slice none 0 0).ownBlock)]) w2 w' ∧ World.ownsRow w' w.heap.size 5 1 (.slice A1 (0 + k) c1) (0 + k) ([] ++ shown (tens i) k) ∧ (∀ q9, ((Value.slice A1 (0 + k) c1).ownBlock) = some q9 → ((Value.slice none 0 0).ownBlock) = some q9 ∨ w2.heap.size ≤ q9) ∧ (k ≤ (tens i).length)) (m := fun (k, A1, c1) => (tens i).length - k) (i := ⟨k, A1, c1⟩) (k + 1, A2, c2) (by show (tens i).length - (k + 1) < (tens i).length - k; omega) ⟨rfl, rfl, rfl, trivial⟩ ⟨M3.step E XM3, (by exact Ob), KbM3, (by omega : k + 1 ≤ (tens i).length)⟩
  · have _way := True.intro
    have q := of_decide_eq_false q
    obtain rfl : k = (tens i).length := by omega
    have hl9 : (Lib.decDigits i.natAbs : List UInt8).length = 0 + (tens i).length := by simp [Lib.decDigits_length, ten_len h0]; try omega
    have hxs : [] ++ shown (tens i) (tens i).length = (Lib.decDigits i.natAbs : List UInt8).map fun b => .int .u8 (b.toNat : Int) := by rw [shown_all h0]; rfl
    refine cw_exit ?_
    refine ew_then_exit ?_
    refine ew_then_exit ?_
    refine ew_block_here ?_
    refine ew_next ?_
    refine cw_seq ?_
    refine cw_region ?_
    refine rs_op rfl (ow_move rfl ?_)
    refine rs_op rfl (ow_bytesStr (l := Lib.decDigits i.natAbs) Tryd.underlying31 Tryd.underlying5 Tryd.underlying9 (congrArg some (congrArg (fun n ↦ Value.slice A1 n c1) hl9.symm)) (own_bytes Ob hxs) ?_)
    refine rs_op rfl (ow_assign rfl ?_)
    refine rs_nil ?_
    refine ew_next ?_
    refine cw_ret ?_
    refine ew_ret (rs := [.tmp 2]) (vs := [_]) rfl ⟨rfl, trivial⟩ ?_
    exact ⟨by rw [hit]; rfl, (LW.step E XLW).toBelow⟩
/-- Show, of a number in form: its numeral. -/
theorem rshow_any : Calls Tryd.prog 47 #[.agg #[.bool (decide (i < 0)), .slice A (tens i).length c]] w fun e w' => e = .returned (.string ⟨(Lib.itoa i).toArray⟩) ∧ Below w.heap.size w w' := by
  rcases Int.lt_trichotomy i 0 with h | h | h
  · exact rshow_neg i A c w hi hx h
  · exact rshow_zero i A c w hi hx h
  · exact rshow_pos i A c w hi hx h
end
end Go.Proofs.YteggjfmcpodepaaDoor
namespace Go.Proofs.YteggjfmcpodepaaDoor
theorem dec_push {n : Nat} (h : 10 ≤ n) : Lib.decDigits n = Lib.decDigits (n / 10) ++ [UInt8.ofNat (48 + n % 10)] := by
  rw [Lib.decDigits, dif_neg (by omega)]
theorem dec_one {n : Nat} (h : n < 10) : Lib.decDigits n = [UInt8.ofNat (48 + n)] := Lib.decDigits_one h
/-- A numeral with noughts ahead. -/
def padk (k l : Nat) : List UInt8 := List.replicate (k - Lib.nDigits l) 48 ++ Lib.decDigits l
theorem padk_push {k l : Nat} (hk : 1 ≤ k) : padk (k + 1) l = padk k (l / 10) ++ [UInt8.ofNat (48 + l % 10)] := by
  unfold padk
  rcases Nat.lt_or_ge l 10 with h | h
  · rw [Nat.div_eq_of_lt h, Nat.mod_eq_of_lt h, Lib.nDigits_small h, Lib.nDigits_small (by decide : 0 < 10), dec_one h, dec_one (by decide : 0 < 10)]
    obtain ⟨j, rfl⟩ : ∃ j, k = j + 1 := ⟨k - 1, by omega⟩
    rw [show j + 1 + 1 - 1 = j + 1 by omega, show j + 1 - 1 = j by omega, List.replicate_succ']
    rfl
  · rw [Lib.nDigits_big (by omega), dec_push h, ← List.append_assoc, show k + 1 - (Lib.nDigits (l / 10) + 1) = k - Lib.nDigits (l / 10) by omega]
theorem dec_join {a : Nat} (ha : 0 < a) : ∀ (k l : Nat), l < 10 ^ (k + 1) → Lib.decDigits (a * 10 ^ (k + 1) + l) = Lib.decDigits a ++ padk (k + 1) l
  | 0, l, hl => by
    have h9 : l < 10 := by simpa using hl
    rw [dec_push (by omega), show (a * 10 ^ (0 + 1) + l) / 10 = a by omega, show (a * 10 ^ (0 + 1) + l) % 10 = l by omega, padk, Lib.nDigits_small h9, dec_one h9]
    rfl
  | k + 1, l, hl => by
    have e : a * 10 ^ (k + 1 + 1) + l = 10 * (a * 10 ^ (k + 1)) + l := by rw [Nat.pow_succ 10 (k + 1), ← Nat.mul_assoc, Nat.mul_comm _ 10]
    have h0 : 0 < a * 10 ^ (k + 1) := Nat.mul_pos ha (Nat.pow_pos (by decide))
    have key : ∀ X l : Nat, (10 * X + l) / 10 = X + l / 10 ∧ (10 * X + l) % 10 = l % 10 ∧ (0 < X → 10 ≤ 10 * X + l) := by omega
    have hd : (a * 10 ^ (k + 1 + 1) + l) / 10 = a * 10 ^ (k + 1) + l / 10 := by rw [e, (key _ _).1]
    have hm : (a * 10 ^ (k + 1 + 1) + l) % 10 = l % 10 := by rw [e, (key _ _).2.1]
    have hl2 : l / 10 < 10 ^ (k + 1) := by rw [Nat.pow_succ 10 (k + 1)] at hl; omega
    rw [dec_push (by rw [e]; exact (key _ _).2.2 h0), hd, hm, dec_join ha k (l / 10) hl2, padk_push (k := k + 1) (l := l) (by omega), List.append_assoc]
theorem dec_join18 {a l : Nat} (ha : 0 < a) (hl : l < B18) : Lib.decDigits (a * B18 + l) = Lib.decDigits a ++ (List.replicate (18 - Lib.nDigits l) 48 ++ Lib.decDigits l) :=
  dec_join ha 17 l (by simpa [B18] using hl)
theorem nDigits_18 {l : Nat} (hl : l < B18) : Lib.nDigits l ≤ 18 := by
  rcases Nat.lt_or_ge l 10 with h | h
  · rw [Lib.nDigits_small h]; omega
  · rcases Nat.lt_or_ge 18 (Lib.nDigits l) with h1 | h1
    · exfalso
      have h2 : ∀ (k u : Nat), k + 1 < Lib.nDigits u → 10 ^ (k + 1) ≤ u := by
        intro k
        induction k with
        | zero =>
          intro u hu
          rcases Nat.lt_or_ge u 10 with h | h
          · rw [Lib.nDigits_small h] at hu; omega
          · simpa using h
        | succ k ih =>
          intro u hu
          rcases Nat.lt_or_ge u 10 with h | h
          · rw [Lib.nDigits_small h] at hu; omega
          · rw [Lib.nDigits_big (by omega)] at hu
            have := ih (u / 10) (by omega)
            rw [Nat.pow_succ 10 (k + 1)]; omega
      have h3 := h2 17 l h1
      have : (10 : Nat) ^ (17 + 1) = B18 := by decide
      omega
    · exact h1
/-- What Text has put together of the first k limbs, from above. -/
def texted (i : Int) (k : Nat) : List UInt8 := (if i < 0 then [45] else []) ++ (if k = 0 then [] else Lib.decDigits (i.natAbs / B18 ^ ((limbs i).length - k)))
theorem limb_at (i : Int) {k : Nat} : (limbs i).getD k 0 = i.natAbs / B18 ^ k % B18 := by
  rw [limbs_eq, getD_val (by unfold B18; omega) (small_digs B18_two _), val_digs B18_two]
theorem nth_limb (i : Int) (k : Nat) : nth (limbs i) k = ((i.natAbs / B18 ^ k % B18 : Nat) : Int) := by
  unfold nth; rw [limb_at]
theorem limbs_top {i : Int} {k : Nat} (hk : k < (limbs i).length) : 0 < i.natAbs / B18 ^ k := by
  rcases Nat.eq_zero_or_pos (i.natAbs / B18 ^ k) with h | h
  · exfalso
    have h0 : 0 < B18 ^ k := Nat.pow_pos (by unfold B18; omega)
    have h1 : i.natAbs < B18 ^ k := by
      rcases Nat.lt_or_ge i.natAbs (B18 ^ k) with h1 | h1
      · exact h1
      · have := Nat.div_pos h1 h0; omega
    have := (digs_length_le B18_two i.natAbs k).2 h1
    rw [← limbs_eq] at this
    omega
  · exact h
theorem texted_zero (i : Int) : texted i 0 = if i < 0 then [45] else [] := by simp [texted]
theorem texted_one {i : Int} (h : 0 < (limbs i).length) : texted i 0 ++ Lib.decDigits (i.natAbs / B18 ^ ((limbs i).length - 1 - 0) % B18) = texted i 1 := by
  have h1 : i.natAbs < B18 ^ (limbs i).length := (digs_length_le B18_two i.natAbs _).1 (by rw [← limbs_eq]; exact Nat.le_refl _)
  have h2 : i.natAbs / B18 ^ ((limbs i).length - 1) < B18 := by
    rw [Nat.div_lt_iff_lt_mul (Nat.pow_pos (by unfold B18; omega)), ← Nat.pow_succ', Nat.succ_eq_add_one, show (limbs i).length - 1 + 1 = (limbs i).length by omega]; exact h1
  rw [Nat.sub_zero, Nat.mod_eq_of_lt h2]
  simp [texted]
theorem texted_succ {i : Int} {k : Nat} (hk0 : 0 < k) (hk : k < (limbs i).length) :
    texted i k ++ (List.replicate (18 - Lib.nDigits (i.natAbs / B18 ^ ((limbs i).length - 1 - k) % B18)) 48 ++ Lib.decDigits (i.natAbs / B18 ^ ((limbs i).length - 1 - k) % B18)) = texted i (k + 1) := by
  have e : i.natAbs / B18 ^ ((limbs i).length - k) = i.natAbs / B18 ^ ((limbs i).length - 1 - k) / B18 := by
    rw [Nat.div_div_eq_div_mul, ← Nat.pow_succ, Nat.succ_eq_add_one, show (limbs i).length - 1 - k + 1 = (limbs i).length - k by omega]
  have hp := limbs_top (i := i) (k := (limbs i).length - k) (by omega)
  have hj := dec_join18 (a := i.natAbs / B18 ^ ((limbs i).length - k)) (l := i.natAbs / B18 ^ ((limbs i).length - 1 - k) % B18) hp (Nat.mod_lt _ (by unfold B18; omega))
  rw [texted, texted, if_neg (show ¬ k = 0 by omega), if_neg (show ¬ k + 1 = 0 by omega), List.append_assoc, ← hj, e, Nat.mul_comm, Nat.div_add_mod, show (limbs i).length - (k + 1) = (limbs i).length - 1 - k by omega]
theorem texted_all {i : Int} (h : 0 < (limbs i).length) : texted i (limbs i).length = Lib.itoa i := by
  rw [texted, if_neg (show ¬ (limbs i).length = 0 by omega), Nat.sub_self, Nat.pow_zero, Nat.div_one, Lib.itoa]
  split
  · rfl
  · rw [show i.toNat = i.natAbs by omega]; rfl
theorem texted_len {i : Int} {k : Nat} (hk : k ≤ (limbs i).length) (hl : (limbs i).length ≤ 30) : (texted i k).length ≤ 1 + 18 * k := by
  have h1 : ∀ k, k ≤ (limbs i).length → (texted i k).length ≤ 1 + 18 * k := by
    intro k
    induction k with
    | zero => intro _; rw [texted_zero]; split <;> simp
    | succ k ih =>
      intro hk1
      have h2 := ih (by omega)
      have h3 : i.natAbs / B18 ^ ((limbs i).length - 1 - k) % B18 < B18 := Nat.mod_lt _ (by unfold B18; omega)
      have h4 := nDigits_18 h3
      rcases Nat.eq_zero_or_pos k with rfl | h0
      · rw [← texted_one (by omega), List.length_append, Lib.decDigits_length]
        rw [Nat.sub_zero] at h4 ⊢
        omega
      · rw [← texted_succ h0 (by omega), List.length_append, List.length_append, List.length_replicate, Lib.decDigits_length]
        omega
  exact h1 k hk
/-! ### the number that digits spell -/
theorem val_app (b : Nat) : ∀ (x y : List Nat), val b (x ++ y) = val b x + b ^ x.length * val b y
  | [], y => by simp [val]
  | a :: x, y => by
    rw [List.cons_append, val, val, val_app b x y, List.length_cons, Nat.pow_succ, Nat.mul_add, ← Nat.add_assoc, Nat.mul_comm (b ^ x.length) b, Nat.mul_assoc]
theorem num10_app (x y : List UInt8) : num10 (x ++ y) = num10 x * 10 ^ y.length + num10 y := by
  unfold num10
  rw [List.reverse_append, List.map_append, val_app, List.length_map, List.length_reverse, Nat.mul_comm, Nat.add_comm]
theorem num10_nil : num10 [] = 0 := rfl
theorem num10_zero (r : List UInt8) : num10 (48 :: r) = num10 r := by
  rw [show (48 : UInt8) :: r = [48] ++ r from rfl, num10_app, show num10 [48] = 0 from rfl, Nat.zero_mul, Nat.zero_add]
theorem num10_lt {r : List UInt8} (h : r.all isDig = true) : num10 r < 10 ^ r.length := by
  have h1 := val_lt (b := 10) (l := r.reverse.map dv) (dv_small (by rw [List.all_reverse]; exact h))
  simpa [num10] using h1
/-- Noughts ahead taken off. -/
def strip : List UInt8 → List UInt8
  | [] => []
  | b :: r => if b = 48 then strip r else b :: r
theorem strip_num : ∀ r, num10 (strip r) = num10 r
  | [] => rfl
  | b :: r => by
    rw [strip]; split
    · rename_i h; rw [h, num10_zero, strip_num r]
    · rfl
theorem strip_drop : ∀ r : List UInt8, ∃ k, k ≤ r.length ∧ strip r = r.drop k ∧ ∀ j, j < k → r[j]? = some 48
  | [] => ⟨0, Nat.le_refl _, rfl, fun j h => by omega⟩
  | b :: r => by
    by_cases h : b = 48
    · obtain ⟨k, h1, h2, h3⟩ := strip_drop r
      refine ⟨k + 1, by simp; omega, by rw [strip, if_pos h, h2]; rfl, fun j hj => ?_⟩
      cases j with
      | zero => rw [h]; rfl
      | succ j => simpa using h3 j (by omega)
    · exact ⟨0, Nat.zero_le _, by rw [strip, if_neg h]; rfl, fun j h => by omega⟩
theorem strip_head (r : List UInt8) : (strip r).head? ≠ some 48 := by
  induction r with
  | nil => simp [strip]
  | cons b r ih =>
    rw [strip]; split
    · exact ih
    · rename_i h; simpa using h
theorem strip_all {r : List UInt8} (h : r.all isDig = true) : (strip r).all isDig = true := by
  obtain ⟨k, _, e, _⟩ := strip_drop r
  rw [e, List.all_eq_true]
  intro x hx
  exact List.all_eq_true.1 h x (List.mem_of_mem_drop hx)
theorem head_num {b : UInt8} {r : List UInt8} (h : (b :: r).all isDig = true) (hb : b ≠ 48) : 10 ^ r.length ≤ num10 (b :: r) := by
  rw [show b :: r = [b] ++ r from rfl, num10_app]
  have h1 : isDig b = true := by rw [List.all_cons, Bool.and_eq_true] at h; exact h.1
  have h2 : 1 ≤ num10 [b] := by
    have h3 : num10 [b] = dv b := by simp [num10, val]
    rw [h3]
    unfold isDig at h1
    simp at h1
    have h4 : b.toNat ≠ 48 := fun e => hb (UInt8.toNat_inj.1 e)
    unfold dv; omega
  calc 10 ^ r.length = 1 * 10 ^ r.length := (Nat.one_mul _).symm
    _ ≤ num10 [b] * 10 ^ r.length := Nat.mul_le_mul_right _ h2
    _ ≤ _ := Nat.le_add_right _ _
theorem B18_len {n : Nat} (h : n = 18 * 30) : B18 ^ 30 = 10 ^ n := by rw [h, B18_pow]
theorem strip_len {r : List UInt8} (h : r.all isDig = true) : (strip r).length ≤ 540 ↔ num10 r < B18 ^ 30 := by
  obtain ⟨n, hn⟩ : ∃ n, n = 540 := ⟨_, rfl⟩
  rw [← strip_num r, B18_len (n := n) hn, ← hn]
  have ha := strip_all h
  have hh := strip_head r
  generalize strip r = s at ha hh
  constructor
  · intro h1
    exact Nat.lt_of_lt_of_le (num10_lt ha) (Nat.pow_le_pow_right (by decide) h1)
  · intro h1
    cases s with
    | nil => simp
    | cons b s =>
      have h2 := head_num ha (by simpa using hh)
      rcases Nat.lt_or_ge s.length n with h3 | h3
      · simp; omega
      · have := Nat.pow_le_pow_right (n := 10) (by decide) h3
        exact absurd (Nat.lt_of_lt_of_le h1 (Nat.le_trans this h2)) (Nat.lt_irrefl _)
/-- A further block of 18 digits. -/
theorem chunk_num {s : List UInt8} (hs : s.all isDig = true) {e k : Nat} {xs : List Nat} (hk : xs.length = k) (he : s.length = e + 18 * k) (hv : val B18 xs = num10 (s.drop e)) :
    val B18 (xs ++ [num10 ((s.take e).drop (e - 18))]) = num10 (s.drop (e - 18)) := by
  have _ := hs
  have e1 : s.drop (e - 18) = (s.take e).drop (e - 18) ++ s.drop e := by
    conv => lhs; rw [← List.take_append_drop e s]
    rw [List.drop_append_of_le_length (by rw [List.length_take]; omega)]
  rw [e1, num10_app, val_app, hv, hk, List.length_drop, he, show e + 18 * k - e = 18 * k by omega, ← B18_pow]
  simp only [val]
  rw [Nat.mul_zero, Nat.add_zero, Nat.mul_comm (B18 ^ k), Nat.add_comm]
theorem chunk_small {s : List UInt8} (hs : s.all isDig = true) (e : Nat) : num10 ((s.take e).drop (e - 18)) < B18 := by
  have h1 : ((s.take e).drop (e - 18)).all isDig = true := by
    rw [List.all_eq_true]; intro x hx
    exact List.all_eq_true.1 hs x (List.mem_of_mem_take (List.mem_of_mem_drop hx))
  have h2 := num10_lt h1
  refine Nat.lt_of_lt_of_le h2 ?_
  have h3 : ((s.take e).drop (e - 18)).length ≤ 18 := by rw [List.length_drop, List.length_take]; omega
  have h4 := Nat.pow_le_pow_right (n := 10) (by decide) h3
  have h5 : (10 : Nat) ^ 18 = B18 := by decide
  omega
end Go.Proofs.YteggjfmcpodepaaDoor
namespace Go.Proofs.YteggjfmcpodepaaDoor
open Go.RowKit
set_option maxRecDepth 100000
/-- The library's table of powers stands, and goes on to stand. -/
def Tab (w : World) : Prop := ∀ b, Below w.heap.size w b → Lib.TabIs Tryd.prog b "internal/strconv.uint64pow10" .u64 Lib.pow10Tab
theorem Tab.below {w w' : World} (h : Tab w) (hb : Below w.heap.size w w') : Tab w' := fun b hb' => h b (hb.trans (hb'.mono hb.size))
theorem ba_size (l : List UInt8) : (⟨l.toArray⟩ : ByteArray).size = l.length := by simp [ByteArray.size]
theorem ba_app (a b : List UInt8) : (⟨a.toArray⟩ : ByteArray) ++ ⟨b.toArray⟩ = ⟨(a ++ b).toArray⟩ := by
  apply ByteArray.ext
  rw [ByteArray.data_append]
  simp
theorem ba_cut (a : List UInt8) (l h : Nat) : (⟨a.toArray⟩ : ByteArray).extract l h = ⟨((a.take h).drop l).toArray⟩ := by
  apply ByteArray.ext
  rw [ByteArray.data_extract]
  apply Array.ext'
  simp [List.extract, List.drop_take]
theorem noughts_cut {n : Nat} : (⟨#[48, 48, 48, 48, 48, 48, 48, 48, 48, 48, 48, 48, 48, 48, 48, 48, 48, 48]⟩ : ByteArray).extract n 18 = ⟨(List.replicate (18 - n) (48 : UInt8)).toArray⟩ := by
  have h := ba_cut (List.replicate 18 48) n 18
  rw [List.take_of_length_le (by simp), List.drop_replicate] at h
  exact h
theorem fmtU (u : Nat) (hu64 : u < 18446744073709551616) (w : World) (ht : Tab w) : Calls Tryd.prog 64 #[.int .u64 u, .int .i64 10] w fun e w' => e = .returned (.string ⟨(Lib.decDigits u).toArray⟩) ∧ Below w.heap.size w w' := by
  refine calls_cw Tryd.func64 rfl Tryd.ntmps64 rfl ?_
  have HF : Per No w (fun _ => True) := Per.true_
  have LW := Ext.refl (No) w
  have XLW : ∀ q9, (No) q9 → (No) q9 ∨ w.heap.size ≤ q9 := fun _ h => Or.inl h
  have E := Ext.refl No w
  refine cw_seq ?_
  refine cw_region ?_
  refine rs_op rfl (ow_assign rfl ?_)
  refine rs_nil ?_
  refine ew_next ?_
  refine cw_seq ?_
  refine cw_region ?_
  refine rs_op rfl (ow_move rfl ?_)
  refine rs_op rfl (ow_move rfl ?_)
  refine rs_op rfl (ow_enter en73 rfl ((fmt_any u hu64 _ (ht.below (LW.step E XLW).toBelow)).mono ?_))
  rintro e w1 ⟨rfl, hb⟩
  refine ⟨_, rfl, ?_⟩
  have XC : ∀ q9, (No) q9 → q9 < w.heap.size := Mut.none_
  have SC := Nat.le_trans LW.size E.size
  have SE := E.size
  have Ec := Ext.of_below hb No
  replace E := E.trans Ec.no
  clear hb Ec
  refine rs_op rfl (ow_assign rfl ?_)
  refine rs_nil ?_
  refine ew_next ?_
  refine cw_ret ?_
  refine ew_ret (rs := [.tmp 4]) (vs := [_]) rfl ⟨rfl, trivial⟩ ?_
  exact ⟨rfl, (LW.step E XLW).toBelow⟩
theorem wtext_bad (neg : Bool) (A : Option Addr) (c : Nat) (xs : List Nat) (w : World) (hx : Nums w A xs) (hl : xs.length ≤ 9223372036854775807) (hg : goodB neg xs = false) :
    Calls Tryd.prog 46 #[.agg #[.bool neg, .slice A xs.length c]] w fun e w' => e = .returned (.string ⟨#[]⟩) ∧ Below w.heap.size w w' := by
  have hgood := fun w hx => good_any neg c w A xs hl hx
  rw [hg] at hgood
  refine calls_cw Tryd.func46 rfl Tryd.ntmps46 rfl ?_
  have HF : Per No w (fun _ => True) := Per.true_
  have LW := Ext.refl (No) w
  have XLW : ∀ q9, (No) q9 → (No) q9 ∨ w.heap.size ≤ q9 := fun _ h => Or.inl h
  have E := Ext.refl No w
  replace HF := HF.on E
  replace LW := LW.step E XLW
  replace E := Ext.refl (No) w
  replace HF := HF.and (Per.nums0 hx)
  refine cw_seq ?_
  refine cw_region ?_
  refine rs_op rfl (ow_boxB rfl ?_)
  intro gb1 w2 Bb1 Eb1 Gb1
  have Gb1 : _ ≤ gb1 := Nat.le_trans E.size Gb1
  have GLb1 := Nat.le_trans LW.size Gb1
  replace E := E.trans Eb1.no
  clear Eb1
  replace HF := HF.cons (some_ge Gb1)
  replace E := E.cons (some gb1)
  replace XLW := Mut.grow XLW (fun k e => Or.inr (Nat.le_trans LW.size ((some_ge Gb1) k e)))
  replace HF := HF.on E
  replace LW := LW.step E XLW
  have SB : ∀ q9, No q9 → Mut [(some gb1)] q9 := (Mut.skip Mut.nil_)
  replace HF := HF.less SB
  replace XLW := fun k h => XLW k (SB k h)
  clear SB
  replace E := Ext.refl (No) w2
  replace HF := HF.and (Per.blkN Bb1 NotIn.nil)
  clear Bb1
  refine rs_op rfl (ow_assign rfl ?_)
  refine rs_nil ?_
  refine ew_next ?_
  refine cw_seq ?_
  refine cw_seq ?_
  refine cw_region ?_
  refine rs_op rfl (ow_loadB Tryd.underlying24 rfl sz24 rfl (HF.on E).here.2 rfl ?_)
  refine rs_op rfl (ow_enter en19 rfl ((hgood _ (HF.on E).here.1.2).mono ?_))
  rintro e w3 ⟨rfl, hb⟩
  refine ⟨_, rfl, ?_⟩
  have XC : ∀ q9, (No) q9 → q9 < w2.heap.size := Mut.none_
  have SC := Nat.le_trans LW.size E.size
  have SE := E.size
  have Ec := Ext.of_below hb No
  replace E := E.trans Ec.no
  clear hb Ec
  refine rs_op rfl (ow_not rfl ?_)
  refine rs_nil ?_
  refine ew_next ?_
  refine cw_then rfl ?_
  refine cw_seq ?_
  refine cw_region ?_
  refine rs_op rfl (ow_assign rfl ?_)
  refine rs_nil ?_
  refine ew_next ?_
  refine cw_ret ?_
  refine ew_then_ret ?_
  refine ew_ret (rs := [.tmp 2]) (vs := [_]) rfl ⟨rfl, trivial⟩ ?_
  exact ⟨rfl, (LW.step E XLW).toBelow⟩
section
variable (i : Int) (A : Option Addr) (c : Nat) (w : World) (hi : i.natAbs < B18 ^ 30) (hx : Nums w A (limbs i)) (ht : Tab w)
include hi hx ht
theorem text_zero (h0 : i = 0) : Calls Tryd.prog 46 #[.agg #[.bool (decide (i < 0)), .slice A (limbs i).length c]] w fun e w' => e = .returned (.string ⟨(Lib.itoa i).toArray⟩) ∧ Below w.heap.size w w' := by
  have _ := ht
  have hl : ((limbs i).length : Int) = 0 := by rw [h0, limbs_zero]; rfl
  refine calls_cw Tryd.func46 rfl Tryd.ntmps46 rfl ?_
  have HF : Per No w (fun _ => True) := Per.true_
  have LW := Ext.refl (No) w
  have XLW : ∀ q9, (No) q9 → (No) q9 ∨ w.heap.size ≤ q9 := fun _ h => Or.inl h
  have E := Ext.refl No w
  replace HF := HF.on E
  replace LW := LW.step E XLW
  replace E := Ext.refl (No) w
  replace HF := HF.and (Per.nums0 hx)
  refine cw_seq ?_
  refine cw_region ?_
  refine rs_op rfl (ow_boxB rfl ?_)
  intro gb1 w2 Bb1 Eb1 Gb1
  have Gb1 : _ ≤ gb1 := Nat.le_trans E.size Gb1
  have GLb1 := Nat.le_trans LW.size Gb1
  replace E := E.trans Eb1.no
  clear Eb1
  replace HF := HF.cons (some_ge Gb1)
  replace E := E.cons (some gb1)
  replace XLW := Mut.grow XLW (fun k e => Or.inr (Nat.le_trans LW.size ((some_ge Gb1) k e)))
  replace HF := HF.on E
  replace LW := LW.step E XLW
  have SB : ∀ q9, No q9 → Mut [(some gb1)] q9 := (Mut.skip Mut.nil_)
  replace HF := HF.less SB
  replace XLW := fun k h => XLW k (SB k h)
  clear SB
  replace E := Ext.refl (No) w2
  replace HF := HF.and (Per.blkN Bb1 NotIn.nil)
  clear Bb1
  refine rs_op rfl (ow_assign rfl ?_)
  refine rs_nil ?_
  refine ew_next ?_
  refine cw_seq ?_
  refine cw_seq ?_
  refine cw_region ?_
  refine rs_op rfl (ow_loadB Tryd.underlying24 rfl sz24 rfl (HF.on E).here.2 rfl ?_)
  refine rs_op rfl (ow_enter en19 rfl ((goodI A c _ hi (HF.on E).here.1.2).mono ?_))
  rintro e w3 ⟨rfl, hb⟩
  refine ⟨_, rfl, ?_⟩
  have XC : ∀ q9, (No) q9 → q9 < w2.heap.size := Mut.none_
  have SC := Nat.le_trans LW.size E.size
  have SE := E.size
  have Ec := Ext.of_below hb No
  replace E := E.trans Ec.no
  clear hb Ec
  refine rs_op rfl (ow_not rfl ?_)
  refine rs_nil ?_
  refine ew_next ?_
  refine cw_else rfl ?_
  refine cw_skip ?_
  refine ew_next ?_
  refine cw_seq ?_
  refine cw_seq ?_
  refine cw_region ?_
  refine rs_op rfl (ow_fieldAddr Tryd.underlying24 rfl sz22 (by decide) rfl ?_)
  refine rs_op rfl (ow_loadF Tryd.underlying22 rfl rfl (HF.on E).here.2 rfl ?_)
  refine rs_op rfl (ow_len Tryd.underlying22 rfl ?_)
  refine rs_op rfl (ow_eql rfl rfl ?_)
  refine rs_nil ?_
  refine ew_next ?_
  refine cw_set 12 (.bool true) rfl ((by rw [hl]; rfl : (.bool (((((limbs i).length : Nat)) : Int) == 0) : Value) = _)) ?_
  refine cw_then rfl ?_
  refine cw_seq ?_
  refine cw_region ?_
  refine rs_op rfl (ow_assign rfl ?_)
  refine rs_nil ?_
  refine ew_next ?_
  refine cw_ret ?_
  refine ew_then_ret ?_
  have e : Lib.itoa 0 = [48] := by rw [Lib.itoa, if_neg (by decide), Lib.decDigits]; rfl
  refine ew_ret (rs := [.tmp 2]) (vs := [_]) rfl ⟨rfl, trivial⟩ ?_
  exact ⟨by rw [h0, e]; rfl, (LW.step E XLW).toBelow⟩
theorem text_neg (hn : i < 0) : Calls Tryd.prog 46 #[.agg #[.bool (decide (i < 0)), .slice A (limbs i).length c]] w fun e w' => e = .returned (.string ⟨(Lib.itoa i).toArray⟩) ∧ Below w.heap.size w w' := by
  have hpos := lim_pos (j := i) (by omega)
  have hl : ((limbs i).length : Int) ≠ 0 := by omega
  have hl2 := limbs_length hi
  have hdi : decide (i < 0) = true := decide_eq_true hn
  obtain ⟨bx, ox, rfl, hbx, hcx⟩ := hx.2 hpos
  refine calls_cw Tryd.func46 rfl Tryd.ntmps46 rfl ?_
  have HF : Per No w (fun _ => True) := Per.true_
  have LW := Ext.refl (No) w
  have XLW : ∀ q9, (No) q9 → (No) q9 ∨ w.heap.size ≤ q9 := fun _ h => Or.inl h
  have E := Ext.refl No w
  replace HF := HF.on E
  replace LW := LW.step E XLW
  replace E := Ext.refl (No) w
  replace HF := HF.and (Per.nums0 hx)
  refine cw_seq ?_
  refine cw_region ?_
  refine rs_op rfl (ow_boxB rfl ?_)
  intro gb1 w2 Bb1 Eb1 Gb1
  have Gb1 : _ ≤ gb1 := Nat.le_trans E.size Gb1
  have GLb1 := Nat.le_trans LW.size Gb1
  replace E := E.trans Eb1.no
  clear Eb1
  replace HF := HF.cons (some_ge Gb1)
  replace E := E.cons (some gb1)
  replace XLW := Mut.grow XLW (fun k e => Or.inr (Nat.le_trans LW.size ((some_ge Gb1) k e)))
  replace HF := HF.on E
  replace LW := LW.step E XLW
  have SB : ∀ q9, No q9 → Mut [(some gb1)] q9 := (Mut.skip Mut.nil_)
  replace HF := HF.less SB
  replace XLW := fun k h => XLW k (SB k h)
  clear SB
  replace E := Ext.refl (No) w2
  replace HF := HF.and (Per.blkN Bb1 NotIn.nil)
  clear Bb1
  refine rs_op rfl (ow_assign rfl ?_)
  refine rs_nil ?_
  refine ew_next ?_
  refine cw_seq ?_
  refine cw_seq ?_
  refine cw_region ?_
  refine rs_op rfl (ow_loadB Tryd.underlying24 rfl sz24 rfl (HF.on E).here.2 rfl ?_)
  refine rs_op rfl (ow_enter en19 rfl ((goodI _ c _ hi (HF.on E).here.1.2).mono ?_))
  rintro e w3 ⟨rfl, hb⟩
  refine ⟨_, rfl, ?_⟩
  have XC : ∀ q9, (No) q9 → q9 < w2.heap.size := Mut.none_
  have SC := Nat.le_trans LW.size E.size
  have SE := E.size
  have Ec := Ext.of_below hb No
  replace E := E.trans Ec.no
  clear hb Ec
  refine rs_op rfl (ow_not rfl ?_)
  refine rs_nil ?_
  refine ew_next ?_
  refine cw_else rfl ?_
  refine cw_skip ?_
  refine ew_next ?_
  refine cw_seq ?_
  refine cw_seq ?_
  refine cw_region ?_
  refine rs_op rfl (ow_fieldAddr Tryd.underlying24 rfl sz22 (by decide) rfl ?_)
  refine rs_op rfl (ow_loadF Tryd.underlying22 rfl rfl (HF.on E).here.2 rfl ?_)
  refine rs_op rfl (ow_len Tryd.underlying22 rfl ?_)
  refine rs_op rfl (ow_eql rfl rfl ?_)
  refine rs_nil ?_
  refine ew_next ?_
  refine cw_set 12 (.bool false) rfl ((by rw [beq_eq_false_iff_ne.2 hl] : (.bool (((((limbs i).length : Nat)) : Int) == 0) : Value) = _)) ?_
  refine cw_else rfl ?_
  refine cw_skip ?_
  refine ew_next ?_
  refine cw_seq ?_
  refine cw_region ?_
  refine rs_op rfl (ow_assign rfl ?_)
  refine rs_nil ?_
  refine ew_next ?_
  refine cw_seq ?_
  refine cw_seq ?_
  refine cw_region ?_
  refine rs_op rfl (ow_fieldAddr Tryd.underlying24 rfl sz4 (by decide) rfl ?_)
  refine rs_op rfl (ow_loadF Tryd.underlying4 rfl rfl (HF.on E).here.2 rfl ?_)
  refine rs_nil ?_
  refine ew_next ?_
  refine cw_set 14 (.bool true) rfl ((by rw [hdi] : (.bool (decide (i < 0)) : Value) = _)) ?_
  refine cw_then rfl ?_
  refine cw_region ?_
  refine rs_op rfl (ow_assign rfl ?_)
  refine rs_nil ?_
  refine ew_next ?_
  refine cw_seq ?_
  refine cw_seq ?_
  refine cw_region ?_
  refine rs_op rfl (ow_fieldAddr Tryd.underlying24 rfl sz22 (by decide) rfl ?_)
  refine rs_op rfl (ow_loadF Tryd.underlying22 rfl rfl (HF.on E).here.2 rfl ?_)
  refine rs_op rfl (ow_len Tryd.underlying22 rfl ?_)
  refine rs_op rfl (ow_sub rfl rfl (wrap_i64 (by omega)) ?_)
  refine rs_op rfl (ow_assign rfl ?_)
  refine rs_nil ?_
  refine ew_next ?_
  refine cw_block ?_
  refine cw_set 3 (.string ⟨(texted i 0).toArray⟩) rfl ((by rw [texted_zero, if_pos hn] : (.string ({ data := #[45] }) : Value) = _)) ?_
  refine cw_set 4 (.int .i64 (((limbs i).length : Int) - 1 - ((0 : Nat) : Int))) rfl ((by simp : (.int .i64 (((((limbs i).length : Nat)) : Int) - 1) : Value) = _)) ?_
  replace HF := HF.on E
  replace LW := LW.step E XLW
  replace E := Ext.refl (No) w3
  refine cw_loop (ι := Nat) (fun k => [(1, .pointer (some ⟨gb1, 0, none⟩)), (3, .string ⟨(texted i k).toArray⟩), (4, .int .i64 (((limbs i).length : Int) - 1 - (k : Int)))]) (fun k w' => Ext (No) w3 w' ∧ (k ≤ (limbs i).length)) (fun k => (limbs i).length - k) 0 ⟨rfl, rfl, rfl, trivial⟩ ⟨Ext.refl _ _, Nat.zero_le _⟩ ?_
  rintro k w5 ⟨M4, hk⟩
  have XM4 : ∀ q9, (No) q9 → (No) q9 ∨ w3.heap.size ≤ q9 := fun _ h => Or.inl h
  replace E := E.trans M4
  replace HF := HF.on E
  replace LW := LW.step E XLW
  replace E := Ext.refl (No) w5
  refine cw_seq ?_
  refine cw_seq ?_
  refine cw_region ?_
  refine rs_op rfl (ow_move rfl ?_)
  refine rs_op rfl (ow_geq rfl rfl ?_)
  refine rs_nil ?_
  refine ew_next ?_
  refine cw_cond rfl (fun q => ?_) (fun q => ?_)
  · have _way := True.intro
    have q := of_decide_eq_true q
    obtain ⟨m, hm⟩ : ∃ m, m = i.natAbs / B18 ^ ((limbs i).length - 1 - k) % B18 := ⟨_, rfl⟩
    have hm18 : m < B18 := by rw [hm]; exact Nat.mod_lt _ (by unfold B18; omega)
    have hm64 : m < 18446744073709551616 := by unfold B18 at hm18; omega
    have hnd := nDigits_18 hm18
    have hlt := texted_len (i := i) hk hl2
    have hdl := Lib.decDigits_length m
    refine cw_skip ?_
    refine ew_next ?_
    refine cw_seq ?_
    refine cw_block ?_
    refine cw_seq ?_
    refine cw_region ?_
    refine rs_op rfl (ow_fieldAddr Tryd.underlying24 rfl sz22 (by decide) rfl ?_)
    refine rs_op rfl (ow_loadF Tryd.underlying22 rfl rfl (HF.on E).here.2 rfl ?_)
    refine rs_op rfl (ow_move rfl ?_)
    refine rs_op rfl (ow_indexAddr1 (j := (limbs i).length - 1 - k) Tryd.underlying22 sz63 rfl rfl (by omega) (by omega) ?_)
    obtain ⟨b9, o9, hA9, _, hc9⟩ := ((HF.on E).here.1.2).2 hpos
    obtain ⟨rfl, rfl⟩ : b9 = bx ∧ o9 = ox := by simpa using hA9.symm
    have hc8 := hc9 ((limbs i).length - 1 - k) (by omega)
    rw [nth_limb, ← hm] at hc8
    refine rs_op rfl (ow_load1 Tryd.underlying63 rfl rfl hc8 ?_)
    refine rs_op rfl (ow_enter en64 rfl ((fmtU m hm64 _ (ht.below (LW.step E XLW).toBelow)).mono ?_))
    rintro e w6 ⟨rfl, hb⟩
    refine ⟨_, rfl, ?_⟩
    have XC : ∀ q9, (No) q9 → q9 < w5.heap.size := Mut.none_
    have SC := Nat.le_trans LW.size E.size
    have SE := E.size
    have Ec := Ext.of_below hb No
    replace E := E.trans Ec.no
    clear hb Ec
    refine rs_op rfl (ow_assign rfl ?_)
    refine rs_nil ?_
    refine ew_next ?_
    refine cw_seq ?_
    refine cw_seq ?_
    refine cw_region ?_
    refine rs_op rfl (ow_move rfl ?_)
    refine rs_op rfl (ow_fieldAddr Tryd.underlying24 rfl sz22 (by decide) rfl ?_)
    refine rs_op rfl (ow_loadF Tryd.underlying22 rfl rfl (HF.on E).here.2 rfl ?_)
    refine rs_op rfl (ow_len Tryd.underlying22 rfl ?_)
    refine rs_op rfl (ow_sub rfl rfl (wrap_i64 (by omega)) ?_)
    refine rs_op rfl (ow_lss rfl rfl ?_)
    refine rs_nil ?_
    refine ew_next ?_
    refine cw_cond rfl (fun h2 => ?_) (fun h2 => ?_)
    · have _way := True.intro
      have h2 := of_decide_eq_true h2
      have hk0 : 0 < k := by omega
      refine cw_region ?_
      refine rs_op rfl (ow_move rfl ?_)
      refine rs_op rfl (ow_lenS Tryd.underlying9 rfl ?_)
      refine rs_set 36 (.int .i64 ((Lib.nDigits m : Nat) : Int)) rfl (by rw [ba_size, hdl]) ?_
      refine rs_op rfl (ow_sliceS (l := Lib.nDigits m) (h := 18) Tryd.underlying9 rfl ⟨_, rfl⟩ rfl hnd (Nat.le_refl _) ?_)
      refine rs_set 37 (.string ⟨(List.replicate (18 - Lib.nDigits m) (48 : UInt8)).toArray⟩) rfl ((by rw [noughts_cut] : (.string ((⟨#[48, 48, 48, 48, 48, 48, 48, 48, 48, 48, 48, 48, 48, 48, 48, 48, 48, 48]⟩ : ByteArray).extract (Lib.nDigits m) 18) : Value) = _)) ?_
      refine rs_op rfl (ow_move rfl ?_)
      refine rs_op rfl (ow_addS rfl rfl (by rw [ba_size, ba_size, List.length_replicate, hdl]; omega) ?_)
      refine rs_set 39 (.string ⟨(List.replicate (18 - Lib.nDigits m) (48 : UInt8) ++ Lib.decDigits m).toArray⟩) rfl ((by rw [ba_app] : (.string (⟨(List.replicate (18 - Lib.nDigits m) (48 : UInt8)).toArray⟩ ++ ⟨(Lib.decDigits m).toArray⟩) : Value) = _)) ?_
      refine rs_op rfl (ow_assign rfl ?_)
      refine rs_nil ?_
      refine ew_next ?_
      refine cw_region ?_
      refine rs_op rfl (ow_move rfl ?_)
      refine rs_op rfl (ow_move rfl ?_)
      refine rs_op rfl (ow_addS rfl rfl (by rw [ba_size, ba_size, List.length_append, List.length_replicate, hdl]; omega) ?_)
      refine rs_set 42 (.string ⟨(texted i (k + 1)).toArray⟩) rfl ((by rw [ba_app, hm, texted_succ hk0 (by omega)] : (.string (⟨(texted i k).toArray⟩ ++ ⟨(List.replicate (18 - Lib.nDigits m) (48 : UInt8) ++ Lib.decDigits m).toArray⟩) : Value) = _)) ?_
      refine rs_op rfl (ow_assign rfl ?_)
      refine rs_nil ?_
      refine ew_block_normal ?_
      refine ew_next ?_
      refine cw_region ?_
      refine rs_op rfl (ow_move rfl ?_)
      refine rs_op rfl (ow_sub rfl rfl (wrap_i64 (by omega)) ?_)
      refine rs_op rfl (ow_assign rfl ?_)
      refine rs_nil ?_
      refine ew_set 4 (.int .i64 (((limbs i).length : Int) - 1 - ((k + 1 : Nat) : Int))) rfl ((by rw [show ((limbs i).length : Int) - 1 - (k : Int) - 1 = ((limbs i).length : Int) - 1 - ((k + 1 : Nat) : Int) by omega] : (.int .i64 ((((limbs i).length : Int) - 1 - (k : Int)) - 1) : Value) = _)) ?_
      exact ew_round (ι := Nat) (s := fun k => [(1, .pointer (some ⟨gb1, 0, none⟩)), (3, .string ⟨(texted i k).toArray⟩), (4, .int .i64 (((limbs i).length : Int) - 1 - (k : Int)))]) (R := fun k w' => Ext (No) w3 w' ∧ (k ≤ (limbs i).length)) (m := fun k => (limbs i).length - k) (i := k) (k + 1) (by show (limbs i).length - (k + 1) < (limbs i).length - k; omega) ⟨rfl, rfl, rfl, trivial⟩ ⟨M4.step E XM4, (by omega : k + 1 ≤ (limbs i).length)⟩
    · have _way := True.intro
      have h2 := of_decide_eq_false h2
      have hk0 : k = 0 := by omega
      have hone : texted i k ++ Lib.decDigits m = texted i (k + 1) := by rw [hm, hk0]; exact texted_one hpos
      refine cw_skip ?_
      refine ew_next ?_
      refine cw_region ?_
      refine rs_op rfl (ow_move rfl ?_)
      refine rs_op rfl (ow_move rfl ?_)
      refine rs_op rfl (ow_addS rfl rfl (by rw [ba_size, ba_size, hdl]; omega) ?_)
      refine rs_set 42 (.string ⟨(texted i (k + 1)).toArray⟩) rfl ((by rw [ba_app, hone] : (.string (⟨(texted i k).toArray⟩ ++ ⟨(Lib.decDigits m).toArray⟩) : Value) = _)) ?_
      refine rs_op rfl (ow_assign rfl ?_)
      refine rs_nil ?_
      refine ew_block_normal ?_
      refine ew_next ?_
      refine cw_region ?_
      refine rs_op rfl (ow_move rfl ?_)
      refine rs_op rfl (ow_sub rfl rfl (wrap_i64 (by omega)) ?_)
      refine rs_op rfl (ow_assign rfl ?_)
      refine rs_nil ?_
      refine ew_set 4 (.int .i64 (((limbs i).length : Int) - 1 - ((k + 1 : Nat) : Int))) rfl ((by rw [show ((limbs i).length : Int) - 1 - (k : Int) - 1 = ((limbs i).length : Int) - 1 - ((k + 1 : Nat) : Int) by omega] : (.int .i64 ((((limbs i).length : Int) - 1 - (k : Int)) - 1) : Value) = _)) ?_
      exact ew_round (ι := Nat) (s := fun k => [(1, .pointer (some ⟨gb1, 0, none⟩)), (3, .string ⟨(texted i k).toArray⟩), (4, .int .i64 (((limbs i).length : Int) - 1 - (k : Int)))]) (R := fun k w' => Ext (No) w3 w' ∧ (k ≤ (limbs i).length)) (m := fun k => (limbs i).length - k) (i := k) (k + 1) (by show (limbs i).length - (k + 1) < (limbs i).length - k; omega) ⟨rfl, rfl, rfl, trivial⟩ ⟨M4.step E XM4, (by omega : k + 1 ≤ (limbs i).length)⟩
  · have _way := True.intro
    have q := of_decide_eq_false q
    obtain rfl : k = (limbs i).length := by omega
    refine cw_exit ?_
    refine ew_then_exit ?_
    refine ew_then_exit ?_
    refine ew_block_here ?_
    refine ew_next ?_
    refine cw_seq ?_
    refine cw_region ?_
    refine rs_op rfl (ow_move rfl ?_)
    refine rs_op rfl (ow_assign rfl ?_)
    refine rs_nil ?_
    refine ew_next ?_
    refine cw_ret ?_
    refine ew_ret (rs := [.tmp 2]) (vs := [_]) rfl ⟨rfl, trivial⟩ ?_
    exact ⟨by rw [texted_all hpos]; rfl, (LW.step E XLW).toBelow⟩
theorem text_pos (hn : 0 < i) : Calls Tryd.prog 46 #[.agg #[.bool (decide (i < 0)), .slice A (limbs i).length c]] w fun e w' => e = .returned (.string ⟨(Lib.itoa i).toArray⟩) ∧ Below w.heap.size w w' := by
  have hpos := lim_pos (j := i) (by omega)
  have hl : ((limbs i).length : Int) ≠ 0 := by omega
  have hl2 := limbs_length hi
  have hdi : decide (i < 0) = false := decide_eq_false (by omega)
  obtain ⟨bx, ox, rfl, hbx, hcx⟩ := hx.2 hpos
  refine calls_cw Tryd.func46 rfl Tryd.ntmps46 rfl ?_
  have HF : Per No w (fun _ => True) := Per.true_
  have LW := Ext.refl (No) w
  have XLW : ∀ q9, (No) q9 → (No) q9 ∨ w.heap.size ≤ q9 := fun _ h => Or.inl h
  have E := Ext.refl No w
  replace HF := HF.on E
  replace LW := LW.step E XLW
  replace E := Ext.refl (No) w
  replace HF := HF.and (Per.nums0 hx)
  refine cw_seq ?_
  refine cw_region ?_
  refine rs_op rfl (ow_boxB rfl ?_)
  intro gb1 w2 Bb1 Eb1 Gb1
  have Gb1 : _ ≤ gb1 := Nat.le_trans E.size Gb1
  have GLb1 := Nat.le_trans LW.size Gb1
  replace E := E.trans Eb1.no
  clear Eb1
  replace HF := HF.cons (some_ge Gb1)
  replace E := E.cons (some gb1)
  replace XLW := Mut.grow XLW (fun k e => Or.inr (Nat.le_trans LW.size ((some_ge Gb1) k e)))
  replace HF := HF.on E
  replace LW := LW.step E XLW
  have SB : ∀ q9, No q9 → Mut [(some gb1)] q9 := (Mut.skip Mut.nil_)
  replace HF := HF.less SB
  replace XLW := fun k h => XLW k (SB k h)
  clear SB
  replace E := Ext.refl (No) w2
  replace HF := HF.and (Per.blkN Bb1 NotIn.nil)
  clear Bb1
  refine rs_op rfl (ow_assign rfl ?_)
  refine rs_nil ?_
  refine ew_next ?_
  refine cw_seq ?_
  refine cw_seq ?_
  refine cw_region ?_
  refine rs_op rfl (ow_loadB Tryd.underlying24 rfl sz24 rfl (HF.on E).here.2 rfl ?_)
  refine rs_op rfl (ow_enter en19 rfl ((goodI _ c _ hi (HF.on E).here.1.2).mono ?_))
  rintro e w3 ⟨rfl, hb⟩
  refine ⟨_, rfl, ?_⟩
  have XC : ∀ q9, (No) q9 → q9 < w2.heap.size := Mut.none_
  have SC := Nat.le_trans LW.size E.size
  have SE := E.size
  have Ec := Ext.of_below hb No
  replace E := E.trans Ec.no
  clear hb Ec
  refine rs_op rfl (ow_not rfl ?_)
  refine rs_nil ?_
  refine ew_next ?_
  refine cw_else rfl ?_
  refine cw_skip ?_
  refine ew_next ?_
  refine cw_seq ?_
  refine cw_seq ?_
  refine cw_region ?_
  refine rs_op rfl (ow_fieldAddr Tryd.underlying24 rfl sz22 (by decide) rfl ?_)
  refine rs_op rfl (ow_loadF Tryd.underlying22 rfl rfl (HF.on E).here.2 rfl ?_)
  refine rs_op rfl (ow_len Tryd.underlying22 rfl ?_)
  refine rs_op rfl (ow_eql rfl rfl ?_)
  refine rs_nil ?_
  refine ew_next ?_
  refine cw_set 12 (.bool false) rfl ((by rw [beq_eq_false_iff_ne.2 hl] : (.bool (((((limbs i).length : Nat)) : Int) == 0) : Value) = _)) ?_
  refine cw_else rfl ?_
  refine cw_skip ?_
  refine ew_next ?_
  refine cw_seq ?_
  refine cw_region ?_
  refine rs_op rfl (ow_assign rfl ?_)
  refine rs_nil ?_
  refine ew_next ?_
  refine cw_seq ?_
  refine cw_seq ?_
  refine cw_region ?_
  refine rs_op rfl (ow_fieldAddr Tryd.underlying24 rfl sz4 (by decide) rfl ?_)
  refine rs_op rfl (ow_loadF Tryd.underlying4 rfl rfl (HF.on E).here.2 rfl ?_)
  refine rs_nil ?_
  refine ew_next ?_
  refine cw_set 14 (.bool false) rfl ((by rw [hdi] : (.bool (decide (i < 0)) : Value) = _)) ?_
  refine cw_else rfl ?_
  refine cw_skip ?_
  refine ew_next ?_
  refine cw_seq ?_
  refine cw_seq ?_
  refine cw_region ?_
  refine rs_op rfl (ow_fieldAddr Tryd.underlying24 rfl sz22 (by decide) rfl ?_)
  refine rs_op rfl (ow_loadF Tryd.underlying22 rfl rfl (HF.on E).here.2 rfl ?_)
  refine rs_op rfl (ow_len Tryd.underlying22 rfl ?_)
  refine rs_op rfl (ow_sub rfl rfl (wrap_i64 (by omega)) ?_)
  refine rs_op rfl (ow_assign rfl ?_)
  refine rs_nil ?_
  refine ew_next ?_
  refine cw_block ?_
  refine cw_set 3 (.string ⟨(texted i 0).toArray⟩) rfl ((by rw [texted_zero, if_neg (by omega)] : (.string ({ data := #[] }) : Value) = _)) ?_
  refine cw_set 4 (.int .i64 (((limbs i).length : Int) - 1 - ((0 : Nat) : Int))) rfl ((by simp : (.int .i64 (((((limbs i).length : Nat)) : Int) - 1) : Value) = _)) ?_
  replace HF := HF.on E
  replace LW := LW.step E XLW
  replace E := Ext.refl (No) w3
  refine cw_loop (ι := Nat) (fun k => [(1, .pointer (some ⟨gb1, 0, none⟩)), (3, .string ⟨(texted i k).toArray⟩), (4, .int .i64 (((limbs i).length : Int) - 1 - (k : Int)))]) (fun k w' => Ext (No) w3 w' ∧ (k ≤ (limbs i).length)) (fun k => (limbs i).length - k) 0 ⟨rfl, rfl, rfl, trivial⟩ ⟨Ext.refl _ _, Nat.zero_le _⟩ ?_
  rintro k w5 ⟨M4, hk⟩
  have XM4 : ∀ q9, (No) q9 → (No) q9 ∨ w3.heap.size ≤ q9 := fun _ h => Or.inl h
  replace E := E.trans M4
  replace HF := HF.on E
  replace LW := LW.step E XLW
  replace E := Ext.refl (No) w5
  refine cw_seq ?_
  refine cw_seq ?_
  refine cw_region ?_
  refine rs_op rfl (ow_move rfl ?_)
  refine rs_op rfl (ow_geq rfl rfl ?_)
  refine rs_nil ?_
  refine ew_next ?_
  refine cw_cond rfl (fun q => ?_) (fun q => ?_)
  · have _way := True.intro
    have q := of_decide_eq_true q
    obtain ⟨m, hm⟩ : ∃ m, m = i.natAbs / B18 ^ ((limbs i).length - 1 - k) % B18 := ⟨_, rfl⟩
    have hm18 : m < B18 := by rw [hm]; exact Nat.mod_lt _ (by unfold B18; omega)
    have hm64 : m < 18446744073709551616 := by unfold B18 at hm18; omega
    have hnd := nDigits_18 hm18
    have hlt := texted_len (i := i) hk hl2
    have hdl := Lib.decDigits_length m
    refine cw_skip ?_
    refine ew_next ?_
    refine cw_seq ?_
    refine cw_block ?_
    refine cw_seq ?_
    refine cw_region ?_
    refine rs_op rfl (ow_fieldAddr Tryd.underlying24 rfl sz22 (by decide) rfl ?_)
    refine rs_op rfl (ow_loadF Tryd.underlying22 rfl rfl (HF.on E).here.2 rfl ?_)
    refine rs_op rfl (ow_move rfl ?_)
    refine rs_op rfl (ow_indexAddr1 (j := (limbs i).length - 1 - k) Tryd.underlying22 sz63 rfl rfl (by omega) (by omega) ?_)
    obtain ⟨b9, o9, hA9, _, hc9⟩ := ((HF.on E).here.1.2).2 hpos
    obtain ⟨rfl, rfl⟩ : b9 = bx ∧ o9 = ox := by simpa using hA9.symm
    have hc8 := hc9 ((limbs i).length - 1 - k) (by omega)
    rw [nth_limb, ← hm] at hc8
    refine rs_op rfl (ow_load1 Tryd.underlying63 rfl rfl hc8 ?_)
    refine rs_op rfl (ow_enter en64 rfl ((fmtU m hm64 _ (ht.below (LW.step E XLW).toBelow)).mono ?_))
    rintro e w6 ⟨rfl, hb⟩
    refine ⟨_, rfl, ?_⟩
    have XC : ∀ q9, (No) q9 → q9 < w5.heap.size := Mut.none_
    have SC := Nat.le_trans LW.size E.size
    have SE := E.size
    have Ec := Ext.of_below hb No
    replace E := E.trans Ec.no
    clear hb Ec
    refine rs_op rfl (ow_assign rfl ?_)
    refine rs_nil ?_
    refine ew_next ?_
    refine cw_seq ?_
    refine cw_seq ?_
    refine cw_region ?_
    refine rs_op rfl (ow_move rfl ?_)
    refine rs_op rfl (ow_fieldAddr Tryd.underlying24 rfl sz22 (by decide) rfl ?_)
    refine rs_op rfl (ow_loadF Tryd.underlying22 rfl rfl (HF.on E).here.2 rfl ?_)
    refine rs_op rfl (ow_len Tryd.underlying22 rfl ?_)
    refine rs_op rfl (ow_sub rfl rfl (wrap_i64 (by omega)) ?_)
    refine rs_op rfl (ow_lss rfl rfl ?_)
    refine rs_nil ?_
    refine ew_next ?_
    refine cw_cond rfl (fun h2 => ?_) (fun h2 => ?_)
    · have _way := True.intro
      have h2 := of_decide_eq_true h2
      have hk0 : 0 < k := by omega
      refine cw_region ?_
      refine rs_op rfl (ow_move rfl ?_)
      refine rs_op rfl (ow_lenS Tryd.underlying9 rfl ?_)
      refine rs_set 36 (.int .i64 ((Lib.nDigits m : Nat) : Int)) rfl (by rw [ba_size, hdl]) ?_
      refine rs_op rfl (ow_sliceS (l := Lib.nDigits m) (h := 18) Tryd.underlying9 rfl ⟨_, rfl⟩ rfl hnd (Nat.le_refl _) ?_)
      refine rs_set 37 (.string ⟨(List.replicate (18 - Lib.nDigits m) (48 : UInt8)).toArray⟩) rfl ((by rw [noughts_cut] : (.string ((⟨#[48, 48, 48, 48, 48, 48, 48, 48, 48, 48, 48, 48, 48, 48, 48, 48, 48, 48]⟩ : ByteArray).extract (Lib.nDigits m) 18) : Value) = _)) ?_
      refine rs_op rfl (ow_move rfl ?_)
      refine rs_op rfl (ow_addS rfl rfl (by rw [ba_size, ba_size, List.length_replicate, hdl]; omega) ?_)
      refine rs_set 39 (.string ⟨(List.replicate (18 - Lib.nDigits m) (48 : UInt8) ++ Lib.decDigits m).toArray⟩) rfl ((by rw [ba_app] : (.string (⟨(List.replicate (18 - Lib.nDigits m) (48 : UInt8)).toArray⟩ ++ ⟨(Lib.decDigits m).toArray⟩) : Value) = _)) ?_
      refine rs_op rfl (ow_assign rfl ?_)
      refine rs_nil ?_
      refine ew_next ?_
      refine cw_region ?_
      refine rs_op rfl (ow_move rfl ?_)
      refine rs_op rfl (ow_move rfl ?_)
      refine rs_op rfl (ow_addS rfl rfl (by rw [ba_size, ba_size, List.length_append, List.length_replicate, hdl]; omega) ?_)
      refine rs_set 42 (.string ⟨(texted i (k + 1)).toArray⟩) rfl ((by rw [ba_app, hm, texted_succ hk0 (by omega)] : (.string (⟨(texted i k).toArray⟩ ++ ⟨(List.replicate (18 - Lib.nDigits m) (48 : UInt8) ++ Lib.decDigits m).toArray⟩) : Value) = _)) ?_
      refine rs_op rfl (ow_assign rfl ?_)
      refine rs_nil ?_
      refine ew_block_normal ?_
      refine ew_next ?_
      refine cw_region ?_
      refine rs_op rfl (ow_move rfl ?_)
      refine rs_op rfl (ow_sub rfl rfl (wrap_i64 (by omega)) ?_)
      refine rs_op rfl (ow_assign rfl ?_)
      refine rs_nil ?_
      refine ew_set 4 (.int .i64 (((limbs i).length : Int) - 1 - ((k + 1 : Nat) : Int))) rfl ((by rw [show ((limbs i).length : Int) - 1 - (k : Int) - 1 = ((limbs i).length : Int) - 1 - ((k + 1 : Nat) : Int) by omega] : (.int .i64 ((((limbs i).length : Int) - 1 - (k : Int)) - 1) : Value) = _)) ?_
      exact ew_round (ι := Nat) (s := fun k => [(1, .pointer (some ⟨gb1, 0, none⟩)), (3, .string ⟨(texted i k).toArray⟩), (4, .int .i64 (((limbs i).length : Int) - 1 - (k : Int)))]) (R := fun k w' => Ext (No) w3 w' ∧ (k ≤ (limbs i).length)) (m := fun k => (limbs i).length - k) (i := k) (k + 1) (by show (limbs i).length - (k + 1) < (limbs i).length - k; omega) ⟨rfl, rfl, rfl, trivial⟩ ⟨M4.step E XM4, (by omega : k + 1 ≤ (limbs i).length)⟩
    · have _way := True.intro
      have h2 := of_decide_eq_false h2
      have hk0 : k = 0 := by omega
      have hone : texted i k ++ Lib.decDigits m = texted i (k + 1) := by rw [hm, hk0]; exact texted_one hpos
      refine cw_skip ?_
      refine ew_next ?_
      refine cw_region ?_
      refine rs_op rfl (ow_move rfl ?_)
      refine rs_op rfl (ow_move rfl ?_)
      refine rs_op rfl (ow_addS rfl rfl (by rw [ba_size, ba_size, hdl]; omega) ?_)
      refine rs_set 42 (.string ⟨(texted i (k + 1)).toArray⟩) rfl ((by rw [ba_app, hone] : (.string (⟨(texted i k).toArray⟩ ++ ⟨(Lib.decDigits m).toArray⟩) : Value) = _)) ?_
      refine rs_op rfl (ow_assign rfl ?_)
      refine rs_nil ?_
      refine ew_block_normal ?_
      refine ew_next ?_
      refine cw_region ?_
      refine rs_op rfl (ow_move rfl ?_)
      refine rs_op rfl (ow_sub rfl rfl (wrap_i64 (by omega)) ?_)
      refine rs_op rfl (ow_assign rfl ?_)
      refine rs_nil ?_
      refine ew_set 4 (.int .i64 (((limbs i).length : Int) - 1 - ((k + 1 : Nat) : Int))) rfl ((by rw [show ((limbs i).length : Int) - 1 - (k : Int) - 1 = ((limbs i).length : Int) - 1 - ((k + 1 : Nat) : Int) by omega] : (.int .i64 ((((limbs i).length : Int) - 1 - (k : Int)) - 1) : Value) = _)) ?_
      exact ew_round (ι := Nat) (s := fun k => [(1, .pointer (some ⟨gb1, 0, none⟩)), (3, .string ⟨(texted i k).toArray⟩), (4, .int .i64 (((limbs i).length : Int) - 1 - (k : Int)))]) (R := fun k w' => Ext (No) w3 w' ∧ (k ≤ (limbs i).length)) (m := fun k => (limbs i).length - k) (i := k) (k + 1) (by show (limbs i).length - (k + 1) < (limbs i).length - k; omega) ⟨rfl, rfl, rfl, trivial⟩ ⟨M4.step E XM4, (by omega : k + 1 ≤ (limbs i).length)⟩
  · have _way := True.intro
    have q := of_decide_eq_false q
    obtain rfl : k = (limbs i).length := by omega
    refine cw_exit ?_
    refine ew_then_exit ?_
    refine ew_then_exit ?_
    refine ew_block_here ?_
    refine ew_next ?_
    refine cw_seq ?_
    refine cw_region ?_
    refine rs_op rfl (ow_move rfl ?_)
    refine rs_op rfl (ow_assign rfl ?_)
    refine rs_nil ?_
    refine ew_next ?_
    refine cw_ret ?_
    refine ew_ret (rs := [.tmp 2]) (vs := [_]) rfl ⟨rfl, trivial⟩ ?_
    exact ⟨by rw [texted_all hpos]; rfl, (LW.step E XLW).toBelow⟩
/-- Text, of a number in form: its numeral. -/
theorem textI : Calls Tryd.prog 46 #[.agg #[.bool (decide (i < 0)), .slice A (limbs i).length c]] w fun e w' => e = .returned (.string ⟨(Lib.itoa i).toArray⟩) ∧ Below w.heap.size w w' := by
  rcases Int.lt_trichotomy i 0 with h | h | h
  · exact text_neg i A c w hi hx ht h
  · exact text_zero i A c w hi hx ht h
  · exact text_pos i A c w hi hx ht h
end
end Go.Proofs.YteggjfmcpodepaaDoor

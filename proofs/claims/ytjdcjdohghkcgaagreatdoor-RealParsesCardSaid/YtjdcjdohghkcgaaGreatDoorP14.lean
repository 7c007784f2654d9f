/- The walk of strconv's shift to the right. The walk of strconv's shift to the left. The walks of strconv's Shift, shouldRoundUp and RoundedInteger. -/
import Derived.Test.YtjdcjdohghkcgaaGreatDoorP13
namespace Go.Proofs.YtjdcjdohghkcgaaGreatDoor
open Go.RowKit
set_option maxRecDepth 100000
attribute [local irreducible] OW RS
theorem mask_n (k : Nat) (hk : k ≤ 60) : IntKind.u64.wrap (((1 : Nat) : Int) * 2 ^ (min ((k : Nat) : Int).toNat IntKind.u64.bits)) = ((2 ^ k : Nat) : Int) := by
 rw [shl_nat 1 k (by omega), Nat.one_mul]
 have h1 : 2 ^ k ≤ 2 ^ 60 := Nat.pow_le_pow_right (by decide) hk
 have h2 : (2 : Nat) ^ 60 = 1152921504606846976 := by decide
 rw [Nat.mod_eq_of_lt (by omega)]
theorem mask_and (n k : Nat) (hn : n < 18446744073709551616) (hk : k ≤ 60) : IntKind.u64.wrap (BitVec.ofInt IntKind.u64.bits (n : Int) &&& BitVec.ofInt IntKind.u64.bits ((2 ^ k - 1 : Nat) : Int)).toNat = ((n % 2 ^ k : Nat) : Int) := by
 have h1 : 2 ^ k ≤ 2 ^ 60 := Nat.pow_le_pow_right (by decide) hk
 have h2 : (2 : Nat) ^ 60 = 1152921504606846976 := by decide
 rw [and_bits hn (by omega), Nat.and_two_pow_sub_one_eq_mod]
theorem shr_q (n k Q : Nat) (hk : k ≤ 60) (h : Q = n / 2 ^ k) : ((n : Nat) : Int).fdiv (2 ^ (min ((k : Nat) : Int).toNat IntKind.u64.bits)) = ((Q : Nat) : Int) := by
 rw [h]; exact shr_nat n k (by omega)
theorem mask_q (n k M : Nat) (hn : n < 18446744073709551616) (hk : k ≤ 60) (h : M = n % 2 ^ k) : IntKind.u64.wrap (BitVec.ofInt IntKind.u64.bits (n : Int) &&& BitVec.ofInt IntKind.u64.bits ((2 ^ k - 1 : Nat) : Int)).toNat = ((M : Nat) : Int) := by
 rw [h]; exact mask_and n k hn hk
theorem zero_b (m : Nat) : (((m : Nat) : Int) == 0) = decide (m = 0) := by
 by_cases h : m = 0
 · subst h; rfl
 · rw [decide_eq_false h]; exact beq_eq_false_iff_ne.2 (by omega)
theorem rsA_off {t : Dec} {k : Nat} {s : RsS} (h1 : s.n / 2 ^ k = 0) (h2 : s.r < t.nd) : rsDoneA t k s = false := decide_eq_false (fun h => h.elim (fun h => h h1) (fun h => absurd h (Nat.not_le.2 h2)))
theorem rsBI_r {t : Dec} {k : Nat} {s : RsS} (h : RsBI t k s) : s.r ≤ t.nd + k + 1 := by
 rcases h.far with h1 | h1
 · omega
 · have h2 : 10 ^ (s.r - t.nd) < 10 ^ (k + 1) := by
    have h3 : 2 ^ k ≤ 10 ^ k := Nat.pow_le_pow_left (by decide) k
    have := h.hn
    rw [Nat.pow_succ]; omega
   have := (Nat.pow_lt_pow_iff_right (a := 10) (by decide)).1 h2
   omega
section
variable (w : World)
theorem right_any (ga k : Nat) (t : Dec) (hk : 1 ≤ k ∧ k ≤ 60) (ht : DecI t) (h0 : 0 < t.nd) (hdp : -20000000 ≤ t.dp ∧ t.dp ≤ 20000000) (hB : Blk w ga 193 (decC t)) :
 Calls Tryz.prog 204 #[.pointer (some ⟨ga, 0, none⟩), .int .u64 ((k : Nat) : Int)] w fun e w' => e = .returned (.tuple #[]) ∧ Blk w' ga 193 (decC (rshift t k)) ∧ Ext (Mut [some ga]) w w' := by
 have hl := ht.len
 have hnd := ht.hn
 have hp2 : 0 < 2 ^ k := Nat.two_pow_pos k
 refine calls_cw Tryz.func204 rfl Tryz.ntmps204 rfl ?_
 have Ba := hB
 have HF : Per (Mut [(some ga)]) w (fun _ => True) := Per.true_
 have LW := Ext.refl (Mut [(some ga)]) w
 have XLW : ∀ q9, (Mut [(some ga)]) q9 → (Mut [(some ga)]) q9 ∨ w.heap.size ≤ q9 := fun _ h => Or.inl h
 have E := Ext.refl (Mut [(some ga)]) w
 refine cw_seq ?_
 refine cw_region ?_
 refine rs_op rfl (ow_assign rfl ?_)
 refine rs_nil ?_
 refine ew_next ?_
 refine cw_seq ?_
 refine cw_region ?_
 refine rs_op rfl (ow_assign rfl ?_)
 refine rs_nil ?_
 refine ew_next ?_
 refine cw_seq ?_
 refine cw_region ?_
 refine rs_op rfl (ow_assign rfl ?_)
 refine rs_nil ?_
 refine ew_next ?_
 refine cw_seq ?_
 replace HF := HF.on E
 replace LW := LW.step E XLW
 replace E := Ext.refl (Mut [(some ga)]) w
 refine cw_join (ι := RsS) (fun s => [(0, .pointer (some ⟨ga, 0, none⟩)), (1, .int .u64 ((k : Nat) : Int)), (4, .int .i64 ((s.r : Nat) : Int)), (5, .int .i64 0), (6, .int .u64 ((s.n : Nat) : Int))]) (fun s w' => Ext (Mut [(some ga)]) w w' ∧ Blk w' ga 193 (decC t) ∧ (s = rsB t k)) ?_ ?_
 ·
  have M1 := Ext.refl (Mut [(some ga)]) w
  have XM1 : ∀ q9, (Mut [(some ga)]) q9 → (Mut [(some ga)]) q9 ∨ w.heap.size ≤ q9 := fun _ h => Or.inl h
  refine cw_block ?_
  replace HF := HF.on E
  replace LW := LW.step E XLW
  replace M1 := M1.step E XM1
  replace E := Ext.refl (Mut [(some ga)]) w
  refine cw_loop (ι := RsS) (fun s => [(0, .pointer (some ⟨ga, 0, none⟩)), (1, .int .u64 ((k : Nat) : Int)), (4, .int .i64 ((s.r : Nat) : Int)), (5, .int .i64 0), (6, .int .u64 ((s.n : Nat) : Int))]) (fun s w' => Ext (Mut [(some ga)]) w w' ∧ Blk w' ga 193 (decC t) ∧ (RsAI t k s ∧ until_ (rsDoneA t k) (rsStepA t) s = rsA t k)) (fun s => t.nd - s.r) (⟨0, 0⟩) ⟨rfl, rfl, rfl, rfl, rfl, trivial⟩ ⟨Ext.refl _ _, (by exact Ba), rsA_start t k, rfl⟩ ?_
  have LTa := (some_lt Ba.lt)
  clear Ba
  rintro s w4 ⟨M3, Ba, ⟨hI, hu⟩⟩
  have XM3 : ∀ q9, (Mut [(some ga)]) q9 → (Mut [(some ga)]) q9 ∨ w.heap.size ≤ q9 := (Mut.grow Mut.none_ (fun k e => Or.inl (Mut.head k e)))
  replace E := E.trans M3
  replace HF := HF.on E
  replace LW := LW.step E XLW
  replace M1 := M1.step E XM1
  replace E := Ext.refl (Mut [(some ga)]) w4
  clear LTa
  have hn64 := two64 hI.hn hk.2
  obtain ⟨Q, hQ⟩ : ∃ Q, Q = s.n / 2 ^ k := ⟨_, rfl⟩
  have hr := hI.hr
  refine cw_seq ?_
  refine cw_seq ?_
  refine cw_region ?_
  refine rs_op rfl (ow_move rfl ?_)
  refine rs_op rfl (ow_move rfl ?_)
  refine rs_op rfl (ow_shr rfl rfl (by omega) (shr_q s.n k Q (by omega) hQ) ?_)
  refine rs_op rfl (ow_eql rfl rfl ?_)
  refine rs_nil ?_
  refine ew_next ?_
  refine cw_set 15 (.bool (decide (Q = 0))) rfl ((by rw [zero_b] : (.bool (((Q : Nat) : Int) == 0) : Value) = _)) ?_
  refine cw_cond rfl (fun h1 => ?_) (fun h1 => ?_)
  ·
   have h1 : Q = 0 := of_decide_eq_true h1
   rw [hQ] at h1
   refine cw_skip ?_
   refine ew_next ?_
   refine cw_seq ?_
   refine cw_block ?_
   refine cw_seq ?_
   refine cw_seq ?_
   refine cw_region ?_
   refine rs_op rfl (ow_move rfl ?_)
   refine rs_op rfl (ow_move rfl ?_)
   refine rs_op rfl (ow_nilCheck rfl ?_)
   refine rs_op rfl (ow_fieldAddr Tryz.underlying193 rfl sz3 (by decide) rfl ?_)
   refine rs_op rfl (ow_loadF Tryz.underlying3 rfl rfl Ba (ndAt hl (t.nd) rfl) ?_)
   refine rs_op rfl (ow_geq rfl rfl ?_)
   refine rs_nil ?_
   refine ew_next ?_
   refine cw_cond rfl (fun h2 => ?_) (fun h2 => ?_)
   ·
    have h2 : t.nd ≤ s.r := by have h2 := of_decide_eq_true h2; omega
    have hn0 := hI.pos (by omega)
    have hdone : rsDoneA t k s = true := decide_eq_true (.inr h2)
    rw [until_stop hdone] at hu
    have hJ := rsBJ_start (k := k) ht h0
    rw [← hu] at hJ
    refine cw_seq ?_
    refine cw_seq ?_
    refine cw_region ?_
    refine rs_op rfl (ow_move rfl ?_)
    refine rs_op rfl (ow_eql rfl rfl ?_)
    refine rs_nil ?_
    refine ew_next ?_
    refine cw_set 25 (.bool false) rfl (beq_0 (by omega)) ?_
    refine cw_else rfl ?_
    refine cw_skip ?_
    refine ew_next ?_
    refine cw_seq ?_
    refine cw_block ?_
    replace HF := HF.on E
    replace LW := LW.step E XLW
    replace M1 := M1.step E XM1
    replace M3 := M3.step E XM3
    replace E := Ext.refl (Mut [(some ga)]) w4
    refine cw_loop (ι := RsS) (fun s => [(0, .pointer (some ⟨ga, 0, none⟩)), (1, .int .u64 ((k : Nat) : Int)), (4, .int .i64 ((s.r : Nat) : Int)), (5, .int .i64 0), (6, .int .u64 ((s.n : Nat) : Int))]) (fun s w' => Ext (Mut [(some ga)]) w4 w' ∧ Blk w' ga 193 (decC t) ∧ (RsBJ t k s ∧ until_ (rsDoneB k) rsStepB s = rsB t k)) (fun s => 2 ^ k - s.n) s ⟨rfl, rfl, rfl, rfl, rfl, trivial⟩ ⟨Ext.refl _ _, (by exact Ba), hJ, by rw [hu]; rfl⟩ ?_
    have LTa := (some_lt Ba.lt)
    clear Ba
    rintro s w6 ⟨M5, Ba, ⟨hJ, hu⟩⟩
    have XM5 : ∀ q9, (Mut [(some ga)]) q9 → (Mut [(some ga)]) q9 ∨ w4.heap.size ≤ q9 := (Mut.grow Mut.none_ (fun k e => Or.inl (Mut.head k e)))
    replace E := E.trans M5
    replace HF := HF.on E
    replace LW := LW.step E XLW
    replace M1 := M1.step E XM1
    replace M3 := M3.step E XM3
    replace E := Ext.refl (Mut [(some ga)]) w6
    clear LTa
    have hn64 := two64 hJ.1.hn hk.2
    have hnp := hJ.1.pos
    have hrr := hJ.1.far
    obtain ⟨Q, hQ⟩ : ∃ Q, Q = s.n / 2 ^ k := ⟨_, rfl⟩
    refine cw_seq ?_
    refine cw_seq ?_
    refine cw_region ?_
    refine rs_op rfl (ow_move rfl ?_)
    refine rs_op rfl (ow_move rfl ?_)
    refine rs_op rfl (ow_shr rfl rfl (by omega) (shr_q s.n k Q (by omega) hQ) ?_)
    refine rs_op rfl (ow_eql rfl rfl ?_)
    refine rs_nil ?_
    refine ew_next ?_
    refine cw_set 32 (.bool (decide (Q = 0))) rfl ((by rw [zero_b] : (.bool (((Q : Nat) : Int) == 0) : Value) = _)) ?_
    refine cw_cond rfl (fun h3 => ?_) (fun h3 => ?_)
    ·
     have h3 : Q = 0 := of_decide_eq_true h3
     rw [hQ] at h3
     have hdone : rsDoneB k s = false := decide_eq_false (fun h => h h3)
     obtain ⟨hk1, hk2⟩ := rsBJ_keeps hJ hdone
     have hk3 := two60 hk2 hk.2
     have hr3 := rsBI_r hk1.1
     have hs : rsStepB s = ⟨s.r + 1, s.n * 10⟩ := rfl
     rw [until_next hdone] at hu
     rw [hs] at hk1 hu hr3
     have hr3 : s.r + 1 ≤ 900 := by have hr3 : s.r + 1 ≤ t.nd + k + 1 := hr3; omega
     refine cw_skip ?_
     refine ew_next ?_
     refine cw_block ?_
     refine cw_seq ?_
     refine cw_region ?_
     refine rs_op rfl (ow_move rfl ?_)
     refine rs_op rfl (ow_mul rfl rfl (wrap_u64 (by omega)) ?_)
     refine rs_op rfl (ow_assign rfl ?_)
     refine rs_nil ?_
     refine ew_next ?_
     refine cw_region ?_
     refine rs_op rfl (ow_move rfl ?_)
     refine rs_op rfl (ow_add rfl rfl (wrap_i64 (by omega)) ?_)
     refine rs_op rfl (ow_assign rfl ?_)
     refine rs_nil ?_
     refine ew_block_normal ?_
     refine ew_set 6 (.int .u64 ((s.n * 10 : Nat) : Int)) rfl (rfl) ?_
     refine ew_set 4 (.int .i64 ((s.r + 1 : Nat) : Int)) rfl (rfl) ?_
     exact ew_round (ι := RsS) (s := fun s => [(0, .pointer (some ⟨ga, 0, none⟩)), (1, .int .u64 ((k : Nat) : Int)), (4, .int .i64 ((s.r : Nat) : Int)), (5, .int .i64 0), (6, .int .u64 ((s.n : Nat) : Int))]) (R := fun s w' => Ext (Mut [(some ga)]) w4 w' ∧ Blk w' ga 193 (decC t) ∧ (RsBJ t k s ∧ until_ (rsDoneB k) rsStepB s = rsB t k)) (m := fun s => 2 ^ k - s.n) (i := s) (⟨s.r + 1, s.n * 10⟩) (by show 2 ^ k - s.n * 10 < 2 ^ k - s.n; omega) ⟨rfl, rfl, rfl, rfl, rfl, trivial⟩ ⟨M5.step E XM5, (by exact Ba), hk1, hu⟩
    ·
     have h3 : ¬ Q = 0 := of_decide_eq_false h3
     rw [hQ] at h3
     have hdone : rsDoneB k s = true := decide_eq_true h3
     rw [until_stop hdone] at hu
     refine cw_exit ?_
     refine ew_then_exit ?_
     refine ew_then_exit ?_
     refine ew_block_here ?_
     refine ew_next ?_
     refine cw_exit ?_
     refine ew_then_exit ?_
     refine ew_block_past rfl ?_
     refine ew_then_exit ?_
     refine ew_then_exit ?_
     refine ew_block_here ?_
     exact ew_mid s ⟨rfl, rfl, rfl, rfl, rfl, trivial⟩ ⟨M1.step E XM1, (by exact Ba), hu⟩
   ·
    have h2 : s.r < t.nd := by have h2 := of_decide_eq_false h2; omega
    have hdone := rsA_off h1 h2
    obtain ⟨hk1, hk2, _⟩ := rsA_keeps ht hI hdone
    have hk3 := two60 hk2 hk.2
    have hg := ht.dig s.r h2
    have hs : rsStepA t s = ⟨s.r + 1, s.n * 10 + (dg t.d s.r - 48)⟩ := rfl
    rw [until_next hdone] at hu
    rw [hs] at hk1 hu
    refine cw_skip ?_
    refine ew_next ?_
    refine cw_seq ?_
    refine cw_region ?_
    refine rs_op rfl (ow_move rfl ?_)
    refine rs_op rfl (ow_move rfl ?_)
    refine rs_op rfl (ow_nilCheck rfl ?_)
    refine rs_op rfl (ow_fieldAddr Tryz.underlying193 rfl sz191 (by decide) rfl ?_)
    refine rs_op rfl (ow_indexAddrZ (j := s.r) Tryz.underlying191 sz5 rfl rfl (by omega) (by omega) ?_)
    refine rs_op rfl (ow_loadF Tryz.underlying5 rfl rfl Ba (dAt hl (dg t.d (s.r)) (s.r) rfl (by omega)) ?_)
    refine rs_op rfl (ow_conv Tryz.underlying144 Tryz.underlying5 rfl (wrap_u64 (by omega)) ?_)
    refine rs_op rfl (ow_assign rfl ?_)
    refine rs_nil ?_
    refine ew_next ?_
    refine cw_region ?_
    refine rs_op rfl (ow_move rfl ?_)
    refine rs_op rfl (ow_mul rfl rfl (wrap_u64 (by omega)) ?_)
    refine rs_op rfl (ow_move rfl ?_)
    refine rs_op rfl (ow_add rfl rfl (wrap_u64 (by omega)) ?_)
    refine rs_op rfl (ow_sub rfl rfl (wrap_u64 (by omega)) ?_)
    refine rs_op rfl (ow_assign rfl ?_)
    refine rs_nil ?_
    refine ew_block_normal ?_
    refine ew_next ?_
    refine cw_region ?_
    refine rs_op rfl (ow_move rfl ?_)
    refine rs_op rfl (ow_add rfl rfl (wrap_i64 (by omega)) ?_)
    refine rs_op rfl (ow_assign rfl ?_)
    refine rs_nil ?_
    refine ew_set 6 (.int .u64 ((s.n * 10 + (dg t.d s.r - 48) : Nat) : Int)) rfl ((by congr 1; omega : (.int .u64 (((((s.n : Nat) : Int) * 10) + ((dg t.d (s.r) : Nat) : Int)) - 48) : Value) = _)) ?_
    refine ew_set 4 (.int .i64 ((s.r + 1 : Nat) : Int)) rfl (rfl) ?_
    exact ew_round (ι := RsS) (s := fun s => [(0, .pointer (some ⟨ga, 0, none⟩)), (1, .int .u64 ((k : Nat) : Int)), (4, .int .i64 ((s.r : Nat) : Int)), (5, .int .i64 0), (6, .int .u64 ((s.n : Nat) : Int))]) (R := fun s w' => Ext (Mut [(some ga)]) w w' ∧ Blk w' ga 193 (decC t) ∧ (RsAI t k s ∧ until_ (rsDoneA t k) (rsStepA t) s = rsA t k)) (m := fun s => t.nd - s.r) (i := s) (⟨s.r + 1, s.n * 10 + (dg t.d s.r - 48)⟩) (by show t.nd - (s.r + 1) < t.nd - s.r; omega) ⟨rfl, rfl, rfl, rfl, rfl, trivial⟩ ⟨M3.step E XM3, (by exact Ba), hk1, hu⟩
  ·
   have h1 : ¬ Q = 0 := of_decide_eq_false h1
   rw [hQ] at h1
   have hdone : rsDoneA t k s = true := decide_eq_true (.inl h1)
   rw [until_stop hdone] at hu
   have hdB : rsDoneB k (rsA t k) = true := by rw [← hu]; exact decide_eq_true h1
   have e : s = rsB t k := by unfold rsB; rw [until_stop hdB]; exact hu
   refine cw_exit ?_
   refine ew_then_exit ?_
   refine ew_then_exit ?_
   refine ew_block_here ?_
   exact ew_mid s ⟨rfl, rfl, rfl, rfl, rfl, trivial⟩ ⟨M1.step E XM1, (by exact Ba), e⟩
 ·
  have LTa := (some_lt Ba.lt)
  clear Ba
  rintro s w2 ⟨M1, Ba, hs⟩
  have XM1 : ∀ q9, (Mut [(some ga)]) q9 → (Mut [(some ga)]) q9 ∨ w.heap.size ≤ q9 := (Mut.grow Mut.none_ (fun k e => Or.inl (Mut.head k e)))
  replace E := E.trans M1
  replace HF := HF.on E
  replace LW := LW.step E XLW
  replace E := Ext.refl (Mut [(some ga)]) w2
  clear LTa
  obtain ⟨hJ, hdB⟩ := rsB_ends k ht h0
  have hBr := rsB_r k ht h0
  have hBn := two64 hJ.1.hn hk.2
  have hBp := hJ.1.hr
  rw [← hs] at hBr hBn hBp
  refine cw_seq ?_
  refine cw_region ?_
  refine rs_op rfl (ow_move rfl ?_)
  refine rs_op rfl (ow_nilCheck rfl ?_)
  refine rs_op rfl (ow_fieldAddr Tryz.underlying193 rfl sz3 (by decide) rfl ?_)
  refine rs_op rfl (ow_loadF Tryz.underlying3 rfl rfl Ba (dpAt hl t.dp rfl) ?_)
  refine rs_op rfl (ow_move rfl ?_)
  refine rs_op rfl (ow_sub rfl rfl (wrap_i64 (by omega)) ?_)
  refine rs_op rfl (ow_sub rfl rfl (wrap_i64 (by omega)) ?_)
  refine rs_op rfl (ow_nilCheck rfl ?_)
  refine rs_op rfl (ow_fieldAddr Tryz.underlying193 rfl sz3 (by decide) rfl ?_)
  refine rs_op0 (ow_storeE sz3 rfl rfl Ba rfl rfl (in_ hl (by decide : 801 < 804)) (set_dp hl (t.dp - (((s.r : Nat) : Int) - 1))) ?_)
  intro w7 Bx Ea
  replace Ba : Blk w7 ga 193 (decC { t with dp := t.dp - (((s.r : Nat) : Int) - 1) }) := Bx
  clear Bx
  replace E := E.step1 Ea Mut.head
  clear Ea
  refine rs_nil ?_
  refine ew_next ?_
  refine cw_seq ?_
  refine cw_region ?_
  refine rs_op rfl (ow_move rfl ?_)
  refine rs_op rfl (ow_shl rfl rfl (by omega) (mask_n k (by omega)) ?_)
  have hp60 := two60 (n := 2 ^ k - 1) (k := k) (by omega) (by omega)
  refine rs_op rfl (ow_sub rfl rfl (wrap_u64 (by omega)) ?_)
  refine rs_op rfl (ow_assign rfl ?_)
  refine rs_nil ?_
  refine ew_next ?_
  refine cw_seq ?_
  refine cw_set 8 (.int .u64 ((2 ^ k - 1 : Nat) : Int)) rfl ((by congr 1; omega : (.int .u64 (((2 ^ k : Nat) : Int) - 1) : Value) = _)) ?_
  replace HF := HF.on E
  replace LW := LW.step E XLW
  replace E := Ext.refl (Mut [(some ga)]) w7
  refine cw_join (ι := RsC) (fun x => [(0, .pointer (some ⟨ga, 0, none⟩)), (1, .int .u64 ((k : Nat) : Int)), (5, .int .i64 ((x.w : Nat) : Int)), (6, .int .u64 ((x.n : Nat) : Int)), (8, .int .u64 ((2 ^ k - 1 : Nat) : Int))]) (fun x w' => Ext (Mut [(some ga)]) w7 w' ∧ Blk w' ga 193 (decC { t with d := x.d, dp := t.dp - (((s.r : Nat) : Int) - 1) }) ∧ (x = rsC t k)) ?_ ?_
  ·
   have M8 := Ext.refl (Mut [(some ga)]) w7
   have XM8 : ∀ q9, (Mut [(some ga)]) q9 → (Mut [(some ga)]) q9 ∨ w7.heap.size ≤ q9 := fun _ h => Or.inl h
   refine cw_block ?_
   replace HF := HF.on E
   replace LW := LW.step E XLW
   replace M8 := M8.step E XM8
   replace E := Ext.refl (Mut [(some ga)]) w7
   refine cw_loop (ι := RsC) (fun x => [(0, .pointer (some ⟨ga, 0, none⟩)), (1, .int .u64 ((k : Nat) : Int)), (4, .int .i64 ((x.r : Nat) : Int)), (5, .int .i64 ((x.w : Nat) : Int)), (6, .int .u64 ((x.n : Nat) : Int)), (8, .int .u64 ((2 ^ k - 1 : Nat) : Int))]) (fun x w' => Ext (Mut [(some ga)]) w7 w' ∧ Blk w' ga 193 (decC { t with d := x.d, dp := t.dp - (((s.r : Nat) : Int) - 1) }) ∧ (RsCI t k s.r x ∧ until_ (rsDoneC t) (rsStepC k) x = rsC t k)) (fun x => t.nd - x.r) (⟨t.d, s.r, 0, s.n⟩) ⟨rfl, rfl, rfl, rfl, rfl, rfl, trivial⟩ ⟨Ext.refl _ _, (by exact Ba), by rw [hs]; exact rsC_start ht h0, by rw [hs]; rfl⟩ ?_
   have LTa := (some_lt Ba.lt)
   clear Ba
   rintro x w11 ⟨M10, Ba, ⟨hI, hu⟩⟩
   have XM10 : ∀ q9, (Mut [(some ga)]) q9 → (Mut [(some ga)]) q9 ∨ w7.heap.size ≤ q9 := (Mut.grow Mut.none_ (fun k e => Or.inl (Mut.head k e)))
   replace E := E.trans M10
   replace HF := HF.on E
   replace LW := LW.step E XLW
   replace M8 := M8.step E XM8
   replace E := Ext.refl (Mut [(some ga)]) w11
   clear LTa
   have hlx : ({ t with d := x.d, dp := t.dp - (((s.r : Nat) : Int) - 1) } : Dec).d.length = 800 := hI.len
   have hxw := hI.hw
   have hxr := hI.hr
   have hn64 := two64 hI.hn hk.2
   refine cw_seq ?_
   refine cw_seq ?_
   refine cw_region ?_
   refine rs_op rfl (ow_move rfl ?_)
   refine rs_op rfl (ow_move rfl ?_)
   refine rs_op rfl (ow_nilCheck rfl ?_)
   refine rs_op rfl (ow_fieldAddr Tryz.underlying193 rfl sz3 (by decide) rfl ?_)
   refine rs_op rfl (ow_loadF Tryz.underlying3 rfl rfl Ba (ndAt hlx (t.nd) rfl) ?_)
   refine rs_op rfl (ow_lss rfl rfl ?_)
   refine rs_nil ?_
   refine ew_next ?_
   refine cw_cond rfl (fun h1 => ?_) (fun h1 => ?_)
   ·
    have h1 : x.r < t.nd := by have h1 := of_decide_eq_true h1; omega
    have hdone : rsDoneC t x = false := decide_eq_false (by omega)
    have hkeep := rsC_keeps ht hk.1 hBp hI hdone
    have hg := ht.dig x.r (by omega)
    rw [← hI.old x.r (by omega)] at hg
    obtain ⟨Q, hQ⟩ : ∃ Q, Q = x.n / 2 ^ k := ⟨_, rfl⟩
    obtain ⟨M, hM⟩ : ∃ M, M = x.n % 2 ^ k := ⟨_, rfl⟩
    have hq9 := div_dig hI.hn
    rw [← hQ] at hq9
    have hm60 := two60 (n := M) (by rw [hM]; exact Nat.mod_lt _ hp2) hk.2
    have hst : rsStepC k x = ⟨x.d.set x.w (Q + 48), x.r + 1, x.w + 1, M * 10 + (dg x.d x.r - 48)⟩ := by rw [hQ, hM]; rfl
    rw [until_next hdone] at hu
    rw [hst] at hkeep hu
    refine cw_skip ?_
    refine ew_next ?_
    refine cw_seq ?_
    refine cw_block ?_
    refine cw_seq ?_
    refine cw_region ?_
    refine rs_op rfl (ow_move rfl ?_)
    refine rs_op rfl (ow_move rfl ?_)
    refine rs_op rfl (ow_nilCheck rfl ?_)
    refine rs_op rfl (ow_fieldAddr Tryz.underlying193 rfl sz191 (by decide) rfl ?_)
    refine rs_op rfl (ow_indexAddrZ (j := x.r) Tryz.underlying191 sz5 rfl rfl (by omega) (by omega) ?_)
    refine rs_op rfl (ow_loadF Tryz.underlying5 rfl rfl Ba (dAt hlx (dg x.d (x.r)) (x.r) rfl (by omega)) ?_)
    refine rs_op rfl (ow_conv Tryz.underlying144 Tryz.underlying5 rfl (wrap_u64 (by omega)) ?_)
    refine rs_op rfl (ow_assign rfl ?_)
    refine rs_nil ?_
    refine ew_next ?_
    refine cw_seq ?_
    refine cw_region ?_
    refine rs_op rfl (ow_move rfl ?_)
    refine rs_op rfl (ow_move rfl ?_)
    refine rs_op rfl (ow_shr rfl rfl (by omega) (shr_q x.n k Q (by omega) hQ) ?_)
    refine rs_op rfl (ow_assign rfl ?_)
    refine rs_nil ?_
    refine ew_next ?_
    refine cw_seq ?_
    refine cw_region ?_
    refine rs_op rfl (ow_move rfl ?_)
    refine rs_op rfl (ow_move rfl ?_)
    refine rs_op rfl (ow_and rfl rfl (mask_q x.n k M (by omega) hk.2 hM) ?_)
    refine rs_op rfl (ow_assign rfl ?_)
    refine rs_nil ?_
    refine ew_next ?_
    refine cw_seq ?_
    refine cw_region ?_
    refine rs_op rfl (ow_move rfl ?_)
    refine rs_op rfl (ow_move rfl ?_)
    refine rs_op rfl (ow_move rfl ?_)
    refine rs_op rfl (ow_add rfl rfl (wrap_u64 (by omega)) ?_)
    refine rs_op rfl (ow_conv Tryz.underlying5 Tryz.underlying144 rfl (wrap_u8 (by omega)) ?_)
    refine rs_op rfl (ow_nilCheck rfl ?_)
    refine rs_op rfl (ow_fieldAddr Tryz.underlying193 rfl sz191 (by decide) rfl ?_)
    refine rs_op rfl (ow_indexAddrZ (j := x.w) Tryz.underlying191 sz5 rfl rfl rfl (by omega) ?_)
    refine rs_set 86 (.int .u8 ((Q + 48 : Nat) : Int)) rfl (rfl) ?_
    refine rs_op0 (ow_storeE sz5 rfl rfl Ba rfl rfl (in_ hlx (by omega)) (set_d hlx (by omega)) ?_)
    intro w12 Bx Ea
    replace Ba : Blk w12 ga 193 (decC { t with d := x.d.set x.w (Q + 48), dp := t.dp - (((s.r : Nat) : Int) - 1) }) := Bx
    clear Bx
    replace E := E.step1 Ea Mut.head
    clear Ea
    refine rs_nil ?_
    refine ew_next ?_
    refine cw_seq ?_
    refine cw_region ?_
    refine rs_op rfl (ow_move rfl ?_)
    refine rs_op rfl (ow_add rfl rfl (wrap_i64 (by omega)) ?_)
    refine rs_op rfl (ow_assign rfl ?_)
    refine rs_nil ?_
    refine ew_next ?_
    refine cw_region ?_
    refine rs_op rfl (ow_move rfl ?_)
    refine rs_op rfl (ow_mul rfl rfl (wrap_u64 (by omega)) ?_)
    refine rs_op rfl (ow_move rfl ?_)
    refine rs_op rfl (ow_add rfl rfl (wrap_u64 (by omega)) ?_)
    refine rs_op rfl (ow_sub rfl rfl (wrap_u64 (by omega)) ?_)
    refine rs_op rfl (ow_assign rfl ?_)
    refine rs_nil ?_
    refine ew_block_normal ?_
    refine ew_next ?_
    refine cw_region ?_
    refine rs_op rfl (ow_move rfl ?_)
    refine rs_op rfl (ow_add rfl rfl (wrap_i64 (by omega)) ?_)
    refine rs_op rfl (ow_assign rfl ?_)
    refine rs_nil ?_
    refine ew_set 6 (.int .u64 ((M * 10 + (dg x.d x.r - 48) : Nat) : Int)) rfl ((by congr 1; omega : (.int .u64 (((((M : Nat) : Int) * 10) + ((dg x.d (x.r) : Nat) : Int)) - 48) : Value) = _)) ?_
    refine ew_set 4 (.int .i64 ((x.r + 1 : Nat) : Int)) rfl (rfl) ?_
    refine ew_set 5 (.int .i64 ((x.w + 1 : Nat) : Int)) rfl (rfl) ?_
    exact ew_round (ι := RsC) (s := fun x => [(0, .pointer (some ⟨ga, 0, none⟩)), (1, .int .u64 ((k : Nat) : Int)), (4, .int .i64 ((x.r : Nat) : Int)), (5, .int .i64 ((x.w : Nat) : Int)), (6, .int .u64 ((x.n : Nat) : Int)), (8, .int .u64 ((2 ^ k - 1 : Nat) : Int))]) (R := fun x w' => Ext (Mut [(some ga)]) w7 w' ∧ Blk w' ga 193 (decC { t with d := x.d, dp := t.dp - (((s.r : Nat) : Int) - 1) }) ∧ (RsCI t k s.r x ∧ until_ (rsDoneC t) (rsStepC k) x = rsC t k)) (m := fun x => t.nd - x.r) (i := x) (⟨x.d.set x.w (Q + 48), x.r + 1, x.w + 1, M * 10 + (dg x.d x.r - 48)⟩) (by show t.nd - (x.r + 1) < t.nd - x.r; omega) ⟨rfl, rfl, rfl, rfl, rfl, rfl, trivial⟩ ⟨M10.step E XM10, (by exact Ba), hkeep, hu⟩
   ·
    have h1 : t.nd ≤ x.r := by have h1 := of_decide_eq_false h1; omega
    have hdone : rsDoneC t x = true := decide_eq_true h1
    rw [until_stop hdone] at hu
    refine cw_exit ?_
    refine ew_then_exit ?_
    refine ew_then_exit ?_
    refine ew_block_here ?_
    exact ew_mid x ⟨rfl, rfl, rfl, rfl, rfl, trivial⟩ ⟨M8.step E XM8, (by exact Ba), hu⟩
  ·
   have LTa := (some_lt Ba.lt)
   clear Ba
   rintro x w9 ⟨M8, Ba, hx⟩
   have XM8 : ∀ q9, (Mut [(some ga)]) q9 → (Mut [(some ga)]) q9 ∨ w7.heap.size ≤ q9 := (Mut.grow Mut.none_ (fun k e => Or.inl (Mut.head k e)))
   replace E := E.trans M8
   replace HF := HF.on E
   replace LW := LW.step E XLW
   replace E := Ext.refl (Mut [(some ga)]) w9
   clear LTa
   obtain ⟨hC, _⟩ := rsC_ends ht hk.1 h0
   refine cw_seq ?_
   replace HF := HF.on E
   replace LW := LW.step E XLW
   replace E := Ext.refl (Mut [(some ga)]) w9
   refine cw_join (ι := RsE) (fun y => [(0, .pointer (some ⟨ga, 0, none⟩)), (5, .int .i64 ((y.w : Nat) : Int))]) (fun y w' => Ext (Mut [(some ga)]) w9 w' ∧ Blk w' ga 193 (decC { t with d := y.d, dp := t.dp - (((s.r : Nat) : Int) - 1), tr := y.tr }) ∧ (y = rsE t k)) ?_ ?_
   ·
    have M13 := Ext.refl (Mut [(some ga)]) w9
    have XM13 : ∀ q9, (Mut [(some ga)]) q9 → (Mut [(some ga)]) q9 ∨ w9.heap.size ≤ q9 := fun _ h => Or.inl h
    have hl9 : ({ t with d := x.d, dp := t.dp - (((s.r : Nat) : Int) - 1) } : Dec).d.length = 800 := by show x.d.length = 800; rw [hx]; exact hC.len
    refine cw_block ?_
    replace HF := HF.on E
    replace LW := LW.step E XLW
    replace M13 := M13.step E XM13
    replace E := Ext.refl (Mut [(some ga)]) w9
    refine cw_loop (ι := RsE × Nat) (fun (y, j) => [(0, .pointer (some ⟨ga, 0, none⟩)), (1, .int .u64 ((k : Nat) : Int)), (5, .int .i64 ((y.w : Nat) : Int)), (6, .int .u64 ((y.n : Nat) : Int)), (8, .int .u64 ((2 ^ k - 1 : Nat) : Int))]) (fun (y, j) w' => Ext (Mut [(some ga)]) w9 w' ∧ Blk w' ga 193 (decC { t with d := y.d, dp := t.dp - (((s.r : Nat) : Int) - 1), tr := y.tr }) ∧ (RsEI t k s.r y ∧ until_ rsDoneE (rsStepE k) y = rsE t k ∧ (2 ^ j ∣ y.n ∧ j ≤ k + 1 ∧ (j = k + 1 → y.n = 0)))) (fun (y, j) => k + 1 - j) (⟨x.d, x.w, x.n, t.tr⟩, 0) ⟨rfl, rfl, rfl, rfl, rfl, trivial⟩ ⟨Ext.refl _ _, (by exact Ba), by rw [hx, hs]; exact rsE_start ht hk.1 h0, by rw [hx]; rfl, ⟨Nat.one_dvd _, by omega, fun e => absurd e (by omega)⟩⟩ ?_
    have LTa := (some_lt Ba.lt)
    clear Ba
    rintro ⟨y, j⟩ w16 ⟨M15, Ba, ⟨hI, hu, hj⟩⟩
    have XM15 : ∀ q9, (Mut [(some ga)]) q9 → (Mut [(some ga)]) q9 ∨ w9.heap.size ≤ q9 := (Mut.grow Mut.none_ (fun k e => Or.inl (Mut.head k e)))
    replace E := E.trans M15
    replace HF := HF.on E
    replace LW := LW.step E XLW
    replace M13 := M13.step E XM13
    replace E := Ext.refl (Mut [(some ga)]) w16
    clear LTa
    have hly : ({ t with d := y.d, dp := t.dp - (((s.r : Nat) : Int) - 1), tr := y.tr } : Dec).d.length = 800 := hI.len
    have hyw := hI.hw
    have hn64 := two64 hI.hn hk.2
    refine cw_seq ?_
    refine cw_seq ?_
    refine cw_region ?_
    refine rs_op rfl (ow_move rfl ?_)
    refine rs_op rfl (ow_gtr rfl rfl ?_)
    refine rs_nil ?_
    refine ew_next ?_
    refine cw_cond rfl (fun h1 => ?_) (fun h1 => ?_)
    ·
     have h1 : 0 < y.n := by have h1 := of_decide_eq_true h1; omega
     have hdone : rsDoneE y = false := decide_eq_false (by omega)
     have hkeep := rsE_keeps hk.1 hI
     obtain ⟨hj1, hj2⟩ := rsE_twos hj hdone
     obtain ⟨Q, hQ⟩ : ∃ Q, Q = y.n / 2 ^ k := ⟨_, rfl⟩
     obtain ⟨M, hM⟩ : ∃ M, M = y.n % 2 ^ k := ⟨_, rfl⟩
     have hq9 := div_dig hI.hn
     rw [← hQ] at hq9
     have hm60 := two60 (n := M) (by rw [hM]; exact Nat.mod_lt _ hp2) hk.2
     rw [until_next hdone] at hu
     refine cw_skip ?_
     refine ew_next ?_
     refine cw_block ?_
     refine cw_seq ?_
     refine cw_region ?_
     refine rs_op rfl (ow_move rfl ?_)
     refine rs_op rfl (ow_move rfl ?_)
     refine rs_op rfl (ow_shr rfl rfl (by omega) (shr_q y.n k Q (by omega) hQ) ?_)
     refine rs_op rfl (ow_assign rfl ?_)
     refine rs_nil ?_
     refine ew_next ?_
     refine cw_seq ?_
     refine cw_region ?_
     refine rs_op rfl (ow_move rfl ?_)
     refine rs_op rfl (ow_move rfl ?_)
     refine rs_op rfl (ow_and rfl rfl (mask_q y.n k M (by omega) hk.2 hM) ?_)
     refine rs_op rfl (ow_assign rfl ?_)
     refine rs_nil ?_
     refine ew_next ?_
     refine cw_seq ?_
     refine cw_seq ?_
     refine cw_region ?_
     refine rs_op rfl (ow_move rfl ?_)
     refine rs_op rfl (ow_lss rfl rfl ?_)
     refine rs_nil ?_
     refine ew_next ?_
     refine cw_cond rfl (fun h2 => ?_) (fun h2 => ?_)
     ·
      have h2 : y.w < 800 := by have h2 := of_decide_eq_true h2; omega
      have hst : rsStepE k y = ⟨y.d.set y.w (Q + 48), y.w + 1, M * 10, y.tr⟩ := by rw [hQ, hM]; unfold rsStepE; rw [if_pos h2]
      rw [hst] at hkeep hu hj2
      refine cw_seq ?_
      refine cw_region ?_
      refine rs_op rfl (ow_move rfl ?_)
      refine rs_op rfl (ow_move rfl ?_)
      refine rs_op rfl (ow_move rfl ?_)
      refine rs_op rfl (ow_add rfl rfl (wrap_u64 (by omega)) ?_)
      refine rs_op rfl (ow_conv Tryz.underlying5 Tryz.underlying144 rfl (wrap_u8 (by omega)) ?_)
      refine rs_op rfl (ow_nilCheck rfl ?_)
      refine rs_op rfl (ow_fieldAddr Tryz.underlying193 rfl sz191 (by decide) rfl ?_)
      refine rs_op rfl (ow_indexAddrZ (j := y.w) Tryz.underlying191 sz5 rfl rfl rfl (by omega) ?_)
      refine rs_set 111 (.int .u8 ((Q + 48 : Nat) : Int)) rfl (rfl) ?_
      refine rs_op0 (ow_storeE sz5 rfl rfl Ba rfl rfl (in_ hly (by omega)) (set_d hly (by omega)) ?_)
      intro w17 Bx Ea
      replace Ba : Blk w17 ga 193 (decC { t with d := y.d.set y.w (Q + 48), dp := t.dp - (((s.r : Nat) : Int) - 1), tr := y.tr }) := Bx
      clear Bx
      replace E := E.step1 Ea Mut.head
      clear Ea
      refine rs_nil ?_
      refine ew_next ?_
      refine cw_region ?_
      refine rs_op rfl (ow_move rfl ?_)
      refine rs_op rfl (ow_add rfl rfl (wrap_i64 (by omega)) ?_)
      refine rs_op rfl (ow_assign rfl ?_)
      refine rs_nil ?_
      refine ew_next ?_
      refine cw_region ?_
      refine rs_op rfl (ow_move rfl ?_)
      refine rs_op rfl (ow_mul rfl rfl (wrap_u64 (by omega)) ?_)
      refine rs_op rfl (ow_assign rfl ?_)
      refine rs_nil ?_
      refine ew_block_normal ?_
      refine ew_set 6 (.int .u64 ((M * 10 : Nat) : Int)) rfl (rfl) ?_
      refine ew_set 5 (.int .i64 ((y.w + 1 : Nat) : Int)) rfl (rfl) ?_
      exact ew_round (ι := RsE × Nat) (s := fun (y, j) => [(0, .pointer (some ⟨ga, 0, none⟩)), (1, .int .u64 ((k : Nat) : Int)), (5, .int .i64 ((y.w : Nat) : Int)), (6, .int .u64 ((y.n : Nat) : Int)), (8, .int .u64 ((2 ^ k - 1 : Nat) : Int))]) (R := fun (y, j) w' => Ext (Mut [(some ga)]) w9 w' ∧ Blk w' ga 193 (decC { t with d := y.d, dp := t.dp - (((s.r : Nat) : Int) - 1), tr := y.tr }) ∧ (RsEI t k s.r y ∧ until_ rsDoneE (rsStepE k) y = rsE t k ∧ (2 ^ j ∣ y.n ∧ j ≤ k + 1 ∧ (j = k + 1 → y.n = 0)))) (m := fun (y, j) => k + 1 - j) (i := ⟨y, j⟩) (⟨y.d.set y.w (Q + 48), y.w + 1, M * 10, y.tr⟩, j + 1) (by show k + 1 - (j + 1) < k + 1 - j; omega) ⟨rfl, rfl, rfl, rfl, rfl, trivial⟩ ⟨M15.step E XM15, (by exact Ba), hkeep, hu, hj2⟩
     ·
      have h2 : ¬ y.w < 800 := by have h2 := of_decide_eq_false h2; omega
      refine cw_seq ?_
      refine cw_region ?_
      refine rs_op rfl (ow_move rfl ?_)
      refine rs_op rfl (ow_gtr rfl rfl ?_)
      refine rs_nil ?_
      refine ew_next ?_
      refine cw_cond rfl (fun h3 => ?_) (fun h3 => ?_)
      ·
       have h3 : 0 < Q := by have h3 := of_decide_eq_true h3; omega
       have hst : rsStepE k y = ⟨y.d, y.w, M * 10, true⟩ := by rw [hQ] at h3; rw [hM]; unfold rsStepE; rw [if_neg h2, if_pos h3]
       rw [hst] at hkeep hu hj2
       refine cw_region ?_
       refine rs_op rfl (ow_move rfl ?_)
       refine rs_op rfl (ow_nilCheck rfl ?_)
       refine rs_op rfl (ow_fieldAddr Tryz.underlying193 rfl sz4 (by decide) rfl ?_)
       refine rs_op0 (ow_storeE sz4 rfl rfl Ba rfl rfl (in_ hly (by decide : 803 < 804)) (set_tr hly true) ?_)
       intro w18 Bx Ea
       replace Ba : Blk w18 ga 193 (decC { t with d := y.d, dp := t.dp - (((s.r : Nat) : Int) - 1), tr := true }) := Bx
       clear Bx
       replace E := E.step1 Ea Mut.head
       clear Ea
       refine rs_nil ?_
       refine ew_next ?_
       refine cw_region ?_
       refine rs_op rfl (ow_move rfl ?_)
       refine rs_op rfl (ow_mul rfl rfl (wrap_u64 (by omega)) ?_)
       refine rs_op rfl (ow_assign rfl ?_)
       refine rs_nil ?_
       refine ew_block_normal ?_
       refine ew_set 6 (.int .u64 ((M * 10 : Nat) : Int)) rfl (rfl) ?_
       exact ew_round (ι := RsE × Nat) (s := fun (y, j) => [(0, .pointer (some ⟨ga, 0, none⟩)), (1, .int .u64 ((k : Nat) : Int)), (5, .int .i64 ((y.w : Nat) : Int)), (6, .int .u64 ((y.n : Nat) : Int)), (8, .int .u64 ((2 ^ k - 1 : Nat) : Int))]) (R := fun (y, j) w' => Ext (Mut [(some ga)]) w9 w' ∧ Blk w' ga 193 (decC { t with d := y.d, dp := t.dp - (((s.r : Nat) : Int) - 1), tr := y.tr }) ∧ (RsEI t k s.r y ∧ until_ rsDoneE (rsStepE k) y = rsE t k ∧ (2 ^ j ∣ y.n ∧ j ≤ k + 1 ∧ (j = k + 1 → y.n = 0)))) (m := fun (y, j) => k + 1 - j) (i := ⟨y, j⟩) (⟨y.d, y.w, M * 10, true⟩, j + 1) (by show k + 1 - (j + 1) < k + 1 - j; omega) ⟨rfl, rfl, rfl, rfl, rfl, trivial⟩ ⟨M15.step E XM15, (by exact Ba), hkeep, hu, hj2⟩
      ·
       have h3 : ¬ 0 < Q := by have h3 := of_decide_eq_false h3; omega
       have hst : rsStepE k y = ⟨y.d, y.w, M * 10, y.tr⟩ := by rw [hQ] at h3; rw [hM]; unfold rsStepE; rw [if_neg h2, if_neg h3]
       rw [hst] at hkeep hu hj2
       refine cw_skip ?_
       refine ew_next ?_
       refine cw_region ?_
       refine rs_op rfl (ow_move rfl ?_)
       refine rs_op rfl (ow_mul rfl rfl (wrap_u64 (by omega)) ?_)
       refine rs_op rfl (ow_assign rfl ?_)
       refine rs_nil ?_
       refine ew_block_normal ?_
       refine ew_set 6 (.int .u64 ((M * 10 : Nat) : Int)) rfl (rfl) ?_
       exact ew_round (ι := RsE × Nat) (s := fun (y, j) => [(0, .pointer (some ⟨ga, 0, none⟩)), (1, .int .u64 ((k : Nat) : Int)), (5, .int .i64 ((y.w : Nat) : Int)), (6, .int .u64 ((y.n : Nat) : Int)), (8, .int .u64 ((2 ^ k - 1 : Nat) : Int))]) (R := fun (y, j) w' => Ext (Mut [(some ga)]) w9 w' ∧ Blk w' ga 193 (decC { t with d := y.d, dp := t.dp - (((s.r : Nat) : Int) - 1), tr := y.tr }) ∧ (RsEI t k s.r y ∧ until_ rsDoneE (rsStepE k) y = rsE t k ∧ (2 ^ j ∣ y.n ∧ j ≤ k + 1 ∧ (j = k + 1 → y.n = 0)))) (m := fun (y, j) => k + 1 - j) (i := ⟨y, j⟩) (⟨y.d, y.w, M * 10, y.tr⟩, j + 1) (by show k + 1 - (j + 1) < k + 1 - j; omega) ⟨rfl, rfl, rfl, rfl, rfl, trivial⟩ ⟨M15.step E XM15, (by exact Ba), hkeep, hu, hj2⟩
    ·
     have h1 : y.n = 0 := by have h1 := of_decide_eq_false h1; omega
     have hdone : rsDoneE y = true := decide_eq_true h1
     rw [until_stop hdone] at hu
     refine cw_exit ?_
     refine ew_then_exit ?_
     refine ew_then_exit ?_
     refine ew_block_here ?_
     exact ew_mid y ⟨rfl, rfl, trivial⟩ ⟨M13.step E XM13, (by exact Ba), hu⟩
   ·
    have LTa := (some_lt Ba.lt)
    clear Ba
    rintro y w14 ⟨M13, Ba, hy⟩
    have XM13 : ∀ q9, (Mut [(some ga)]) q9 → (Mut [(some ga)]) q9 ∨ w9.heap.size ≤ q9 := (Mut.grow Mut.none_ (fun k e => Or.inl (Mut.head k e)))
    replace E := E.trans M13
    replace HF := HF.on E
    replace LW := LW.step E XLW
    replace E := Ext.refl (Mut [(some ga)]) w14
    clear LTa
    obtain ⟨hE, _⟩ := rsE_ends ht hk.1 h0
    rw [← hy] at hE
    have hly : ({ t with d := y.d, dp := t.dp - (((s.r : Nat) : Int) - 1), tr := y.tr } : Dec).d.length = 800 := hE.len
    have hly2 : ({ t with d := y.d, nd := y.w, dp := t.dp - (((s.r : Nat) : Int) - 1), tr := y.tr } : Dec).d.length = 800 := hE.len
    refine cw_seq ?_
    refine cw_region ?_
    refine rs_op rfl (ow_move rfl ?_)
    refine rs_op rfl (ow_move rfl ?_)
    refine rs_op rfl (ow_nilCheck rfl ?_)
    refine rs_op rfl (ow_fieldAddr Tryz.underlying193 rfl sz3 (by decide) rfl ?_)
    refine rs_op0 (ow_storeE sz3 rfl rfl Ba rfl rfl (in_ hly (by decide : 800 < 804)) (set_nd hly y.w) ?_)
    intro w19 Bx Ea
    replace Ba : Blk w19 ga 193 (decC { t with d := y.d, nd := y.w, dp := t.dp - (((s.r : Nat) : Int) - 1), tr := y.tr }) := Bx
    clear Bx
    replace E := E.step1 Ea Mut.head
    clear Ea
    refine rs_nil ?_
    refine ew_next ?_
    refine cw_region ?_
    refine rs_op rfl (ow_move rfl ?_)
    refine rs_op rfl (ow_enter en202 rfl ((trim_any _ ga _ hly2 hE.hw Ba).mono ?_))
    rintro e w20 ⟨rfl, hB, hE⟩
    refine ⟨_, rfl, ?_⟩
    replace Ba := hB
    clear hB
    replace E := E.step1 hE Mut.head
    clear hE
    refine rs_nil ?_
    refine ew_end rfl ?_
    exact ⟨rfl, by unfold rshift; rw [← hy, ← hs]; exact Ba, (LW.step E XLW)⟩
end
end Go.Proofs.YtjdcjdohghkcgaaGreatDoor
namespace Go.Proofs.YtjdcjdohghkcgaaGreatDoor
open Go.RowKit
set_option maxRecDepth 100000
attribute [local irreducible] OW RS
theorem lcB_size {k : Nat} (h : Shl k) : (lcB k).size = (lcS k).length := by
 rw [← (lc_row h).2.1, List.length_map]
 show (Go.Pinned.cheatRows.getD k (0, [])).2.toArray.size = _
 rw [List.size_toArray]
theorem lcB_at {k : Nat} (h : Shl k) (i : Nat) (hi : i < (lcS k).length) : (lcS k)[i]? = some (bAt (lcB k) i) := by
 rw [← lcB_size h] at hi
 rw [← bAt_some hi, ← (lc_row h).2.1, List.getElem?_map]
 show _ = ((Go.Pinned.cheatRows.getD k (0, [])).2.toArray[i]?).map _
 rw [List.getElem?_toArray]
theorem shl_k {c k C : Nat} (hc : c ≤ 9) (hk : k ≤ 60) (hC : C = c * 2 ^ k) : IntKind.u64.wrap (((c : Nat) : Int) * 2 ^ (min ((k : Nat) : Int).toNat IntKind.u64.bits)) = ((C : Nat) : Int) := by
 rw [hC, shl_nat c k (by omega)]
 have h1 : 2 ^ k ≤ 2 ^ 60 := Nat.pow_le_pow_right (by decide) hk
 have h2 : (2 : Nat) ^ 60 = 1152921504606846976 := by decide
 have h3 : c * 2 ^ k ≤ 9 * 2 ^ k := Nat.mul_le_mul_right _ hc
 rw [Nat.mod_eq_of_lt (by omega)]
theorem quo10 (n D : Nat) (h : n < 18446744073709551616) (hD : D = n / 10) : IntKind.u64.wrap (((n : Nat) : Int).tdiv 10) = ((D : Nat) : Int) := by
 rw [hD, Int.tdiv_eq_ediv_of_nonneg (by omega)]
 exact wrap_u64 (by omega)
theorem put_in {d : List Nat} {w x : Nat} (h : w < 800) : lsPut d w x = d.set w (x + 48) := by unfold lsPut; rw [if_pos h]
theorem put_out {d : List Nat} {w x : Nat} (h : ¬ w < 800) : lsPut d w x = d := by unfold lsPut; rw [if_neg h]
theorem tr_in {b : Bool} {w x : Nat} (h : w < 800) : lsTr b w x = b := by unfold lsTr; rw [if_pos h]
theorem tr_out {b : Bool} {w x : Nat} (h : ¬ w < 800) (hx : x ≠ 0) : lsTr b w x = true := by unfold lsTr; rw [if_neg h, if_pos hx]
theorem tr_nil {b : Bool} {w x : Nat} (hx : x = 0) : lsTr b w x = b := by
 unfold lsTr
 split
 · rfl
 · rw [if_neg (fun h => h hx)]
section
variable (w : World) {bp op cp bf of cf bl ol cl : Nat}
theorem left_any (ga k : Nat) (t : Dec) (hk : Shl k) (ht : DecI t) (h0 : 0 < t.nd) (hdp : -20000000 ≤ t.dp ∧ t.dp ≤ 20000000) (hB : Blk w ga 193 (decC t)) (hT : Tabs bp op cp bf of cf bl ol cl w) (hg : TabsB bp bf bl ga) :
 Calls Tryz.prog 203 #[.pointer (some ⟨ga, 0, none⟩), .int .u64 ((k : Nat) : Int)] w fun e w' => e = .returned (.tuple #[]) ∧ Blk w' ga 193 (decC (lshift t k)) ∧ Ext (Mut [some ga]) w w' := by
 have hl := ht.len
 have hnd := ht.hn
 have hS := shl_ok hk
 have hk60 := hS.k1
 have hk61 := (lc_row hk).2.2
 have hd16 := hS.d1
 obtain ⟨hdl, _⟩ := delta_ok ht h0 hk
 obtain ⟨L, hL⟩ : ∃ L, L = lsDelta t k := ⟨_, rfl⟩
 rw [← hL] at hdl
 refine calls_cw Tryz.func203 rfl Tryz.ntmps203 rfl ?_
 have Ba := hB
 have HF : Per (Mut [(some ga)]) w (fun _ => True) := Per.true_
 have LW := Ext.refl (Mut [(some ga)]) w
 have XLW : ∀ q9, (Mut [(some ga)]) q9 → (Mut [(some ga)]) q9 ∨ w.heap.size ≤ q9 := fun _ h => Or.inl h
 have E := Ext.refl (Mut [(some ga)]) w
 replace HF := HF.on E
 replace LW := LW.step E XLW
 replace E := Ext.refl (Mut [(some ga)]) w
 replace HF := HF.and (Per.tabsB hT hg (fun q h => h.elim (fun e => Nat.le_of_eq (Option.some.inj e).symm) (fun e => e.elim)))
 refine cw_seq ?_
 refine cw_region ?_
 refine rs_op rfl (ow_load1 Tryz.underlying258 rfl rfl (HF.on E).here.2.cheat.head ?_)
 refine rs_op rfl (ow_move rfl ?_)
 refine rs_op rfl (ow_indexAddr (j := k) Tryz.underlying258 sz257 rfl rfl rfl hk61 ?_)
 refine rs_op rfl (ow_fieldAddr Tryz.underlying257 rfl sz3 (by decide) rfl ?_)
 refine rs_op rfl (ow_load1 Tryz.underlying3 rfl rfl ((HF.on E).here.2.cheat.delta k hk) ?_)
 refine rs_op rfl (ow_assign rfl ?_)
 refine rs_nil ?_
 refine ew_next ?_
 refine cw_seq ?_
 refine cw_seq ?_
 replace HF := HF.on E
 replace LW := LW.step E XLW
 replace E := Ext.refl (Mut [(some ga)]) w
 refine cw_join (ι := Unit) (fun _ => [(0, .pointer (some ⟨ga, 0, none⟩)), (1, .int .u64 ((k : Nat) : Int)), (4, .int .i64 ((lcD k : Nat) : Int)), (30, .bool (preLess (t.d.take t.nd) (lcS k)))]) (fun _ w' => Ext (Mut [(some ga)]) w w' ∧ Blk w' ga 193 (decC t) ∧ (True)) ?_ ?_
 ·
  have M1 := Ext.refl (Mut [(some ga)]) w
  have XM1 : ∀ q9, (Mut [(some ga)]) q9 → (Mut [(some ga)]) q9 ∨ w.heap.size ≤ q9 := fun _ h => Or.inl h
  have OY : ∀ q9, (Mut (outM [])) q9 → q9 < (World.drew w).heap.size → (Mut [(some ga)]) q9 := fun k h _ => (Mut.none_) k h
  refine cw_drawn (Mut [(some ga)]) (Mut.grow Mut.none_ (some_lt Ba.lt)) [] [] (fxAt [Fx.of (.pointer (some ⟨ga, 0, none⟩)),
   Fx.of (.pointer (some ⟨ga, 0, none⟩)),
   Fx.of (.pointer (some ⟨ga, 0, none⟩)),
   Fx.of (.pointer (some ⟨ga, 0, none⟩)),
   Fx.of (.pointer (some ⟨ga, 0, none⟩)),
   Fx.of (.pointer (some ⟨ga, 800, none⟩)),
   Fx.of (.int .i64 ((t.nd : Nat) : Int)),
   Fx.of (.slice (some ⟨ga, 0, none⟩) t.nd 800),
   Fx.of (.slice (some ⟨bl, ol, none⟩) 61 cl),
   Fx.of (.int .u64 ((k : Nat) : Int)),
   Fx.of (.pointer (some ⟨bl, ol + k * 2, none⟩)),
   Fx.of (.pointer (some ⟨bl, ol + k * 2 + 1, none⟩)),
   Fx.of (.string (lcB k)),
   Fx.of (.bool (preLess (t.d.take t.nd) (lcS k)))]) mixed rfl trivial (fun _ h => by cases h) ?_ ?_
  · refine ⟨?_, ?_, ?_, ?_, ?_, ?_, ?_, ?_, ?_, ?_, ?_, ?_, ?_, ?_, trivial⟩
    · intro vs X wq K
      have LE := K.1
      have XN := K.2.1
      have SQ := Nat.le_trans LW.size (Nat.le_trans E.size LE.size)
      exact ow_move rfl ⟨Below.refl _ _, Left.of rfl⟩
    · intro vs X wq K
      have LE := K.1
      have XN := K.2.1
      have SQ := Nat.le_trans LW.size (Nat.le_trans E.size LE.size)
      obtain ⟨_, e0, k0⟩ := K.dep 0 rfl rfl rfl
      refine ow_set 17 (.pointer (some ⟨ga, 0, none⟩)) rfl e0 ?_
      exact ow_nilCheck rfl ⟨Below.refl _ _, Left.of rfl⟩
    · intro vs X wq K
      have LE := K.1
      have XN := K.2.1
      have SQ := Nat.le_trans LW.size (Nat.le_trans E.size LE.size)
      obtain ⟨_, e1, k1⟩ := K.dep 1 rfl rfl rfl
      refine ow_set 18 (.pointer (some ⟨ga, 0, none⟩)) rfl e1 ?_
      exact ow_fieldAddr Tryz.underlying193 rfl sz191 (by decide) rfl ⟨Below.refl _ _, Left.of rfl⟩
    · intro vs X wq K
      have LE := K.1
      have XN := K.2.1
      have SQ := Nat.le_trans LW.size (Nat.le_trans E.size LE.size)
      exact ow_move rfl ⟨Below.refl _ _, Left.of rfl⟩
    · intro vs X wq K
      have LE := K.1
      have XN := K.2.1
      have SQ := Nat.le_trans LW.size (Nat.le_trans E.size LE.size)
      obtain ⟨_, e3, k3⟩ := K.dep 3 rfl rfl rfl
      refine ow_set 20 (.pointer (some ⟨ga, 0, none⟩)) rfl e3 ?_
      exact ow_nilCheck rfl ⟨Below.refl _ _, Left.of rfl⟩
    · intro vs X wq K
      have LE := K.1
      have XN := K.2.1
      have SQ := Nat.le_trans LW.size (Nat.le_trans E.size LE.size)
      obtain ⟨_, e4, k4⟩ := K.dep 4 rfl rfl rfl
      refine ow_set 21 (.pointer (some ⟨ga, 0, none⟩)) rfl e4 ?_
      exact ow_fieldAddr Tryz.underlying193 rfl sz3 (by decide) rfl ⟨Below.refl _ _, Left.of rfl⟩
    · intro vs X wq K
      have LE := K.1
      have XN := K.2.1
      have SQ := Nat.le_trans LW.size (Nat.le_trans E.size LE.size)
      obtain ⟨_, e5, k5⟩ := K.dep 5 rfl rfl rfl
      refine ow_set 22 (.pointer (some ⟨ga, 800, none⟩)) rfl e5 ?_
      exact ow_loadF Tryz.underlying3 rfl rfl (Ba.drew.extN LE NotIn.nil) (ndAt hl t.nd rfl) ⟨Below.refl _ _, Left.of rfl⟩
    · intro vs X wq K
      have LE := K.1
      have XN := K.2.1
      have SQ := Nat.le_trans LW.size (Nat.le_trans E.size LE.size)
      obtain ⟨_, e2, k2⟩ := K.dep 2 rfl rfl rfl
      refine ow_set 19 (.pointer (some ⟨ga, 0, none⟩)) rfl e2 ?_
      obtain ⟨_, e6, k6⟩ := K.dep 6 rfl rfl rfl
      refine ow_set 23 (.int .i64 ((t.nd : Nat) : Int)) rfl e6 ?_
      exact ow_sliceA0 (h := t.nd) Tryz.underlying191 sz5 rfl rfl rfl rfl hnd ⟨Below.refl _ _, Left.of rfl⟩
    · intro vs X wq K
      have LE := K.1
      have XN := K.2.1
      have SQ := Nat.le_trans LW.size (Nat.le_trans E.size LE.size)
      exact ow_load1 Tryz.underlying258 rfl rfl (HF.on (E.drew.trans (LE.mono OY))).here.2.cheat.head ⟨Below.refl _ _, Left.of rfl⟩
    · intro vs X wq K
      have LE := K.1
      have XN := K.2.1
      have SQ := Nat.le_trans LW.size (Nat.le_trans E.size LE.size)
      exact ow_move rfl ⟨Below.refl _ _, Left.of rfl⟩
    · intro vs X wq K
      have LE := K.1
      have XN := K.2.1
      have SQ := Nat.le_trans LW.size (Nat.le_trans E.size LE.size)
      obtain ⟨_, e8, k8⟩ := K.dep 8 rfl rfl rfl
      refine ow_set 25 (.slice (some ⟨bl, ol, none⟩) 61 cl) rfl e8 ?_
      obtain ⟨_, e9, k9⟩ := K.dep 9 rfl rfl rfl
      refine ow_set 26 (.int .u64 ((k : Nat) : Int)) rfl e9 ?_
      exact ow_indexAddr (j := k) Tryz.underlying258 sz257 rfl rfl rfl hk61 ⟨Below.refl _ _, Left.of rfl⟩
    · intro vs X wq K
      have LE := K.1
      have XN := K.2.1
      have SQ := Nat.le_trans LW.size (Nat.le_trans E.size LE.size)
      obtain ⟨_, e10, k10⟩ := K.dep 10 rfl rfl rfl
      refine ow_set 27 (.pointer (some ⟨bl, ol + k * 2, none⟩)) rfl e10 ?_
      exact ow_fieldAddr Tryz.underlying257 rfl sz9 (by decide) rfl ⟨Below.refl _ _, Left.of rfl⟩
    · intro vs X wq K
      have LE := K.1
      have XN := K.2.1
      have SQ := Nat.le_trans LW.size (Nat.le_trans E.size LE.size)
      obtain ⟨_, e11, k11⟩ := K.dep 11 rfl rfl rfl
      refine ow_set 28 (.pointer (some ⟨bl, ol + k * 2 + 1, none⟩)) rfl e11 ?_
      exact ow_load1 Tryz.underlying9 rfl rfl ((HF.on (E.drew.trans (LE.mono OY))).here.2.cheat.cut k hk) ⟨Below.refl _ _, Left.of rfl⟩
    · intro vs X wq K
      have LE := K.1
      have XN := K.2.1
      have SQ := Nat.le_trans LW.size (Nat.le_trans E.size LE.size)
      obtain ⟨_, e7, k7⟩ := K.dep 7 rfl rfl rfl
      refine ow_set 24 (.slice (some ⟨ga, 0, none⟩) t.nd 800) rfl e7 ?_
      obtain ⟨_, e12, k12⟩ := K.dep 12 rfl rfl rfl
      refine ow_set 29 (.string (lcB k)) rfl e12 ?_
      refine ow_enter en220 rfl ((prefix_any _ ga t t.nd (lcB k) (lcS k) hl hnd (lcB_size hk) (lcB_at hk) (Ba.drew.extN LE NotIn.nil)).mono ?_)
      rintro e w2 ⟨rfl, hb⟩
      exact ⟨_, rfl, hb, Left.of rfl⟩
  intro vs w3 LE AO AL AF AA
  have LBa := Ba
  replace Ba := Ba.drew.extN LE NotIn.nil
  replace E := E.drew.trans (LE.mono OY)
  obtain ⟨_, e13, k13⟩ := AL.2.2.2.2.2.2.2.2.2.2.2.2.2.1
  refine ew_sub (τ := [(0, _), (1, _), (4, _), (30, .bool (preLess (t.d.take t.nd) (lcS k)))]) ⟨rfl, rfl, rfl, congrArg some e13, trivial⟩ ?_
  clear AL AF AA LE AO OY e13 k13 LBa
  exact ew_mid () ⟨rfl, rfl, rfl, rfl, trivial⟩ ⟨M1.step E XM1, (by exact Ba), trivial⟩
 ·
  have LTa := (some_lt Ba.lt)
  clear Ba
  rintro _ w2 ⟨M1, Ba, _⟩
  have XM1 : ∀ q9, (Mut [(some ga)]) q9 → (Mut [(some ga)]) q9 ∨ w.heap.size ≤ q9 := (Mut.grow Mut.none_ (fun k e => Or.inl (Mut.head k e)))
  replace E := E.trans M1
  replace HF := HF.on E
  replace LW := LW.step E XLW
  replace E := Ext.refl (Mut [(some ga)]) w2
  clear LTa
  replace HF := HF.on E
  replace LW := LW.step E XLW
  replace E := Ext.refl (Mut [(some ga)]) w2
  refine cw_join (ι := Unit) (fun _ => [(0, .pointer (some ⟨ga, 0, none⟩)), (1, .int .u64 ((k : Nat) : Int)), (4, .int .i64 ((L : Nat) : Int))]) (fun _ w' => Ext (Mut [(some ga)]) w2 w' ∧ Blk w' ga 193 (decC t) ∧ (True)) ?_ ?_
  ·
   have M4 := Ext.refl (Mut [(some ga)]) w2
   have XM4 : ∀ q9, (Mut [(some ga)]) q9 → (Mut [(some ga)]) q9 ∨ w2.heap.size ≤ q9 := fun _ h => Or.inl h
   refine cw_cond rfl (fun hb => ?_) (fun hb => ?_)
   ·
    have e : L = lcD k - 1 := by rw [hL]; unfold lsDelta; rw [if_pos hb]
    refine cw_region ?_
    refine rs_op rfl (ow_move rfl ?_)
    refine rs_op rfl (ow_sub rfl rfl (wrap_i64 (by omega)) ?_)
    refine rs_op rfl (ow_assign rfl ?_)
    refine rs_nil ?_
    refine ew_set 4 (.int .i64 ((L : Nat) : Int)) rfl ((by congr 1; omega : (.int .i64 (((lcD k : Nat) : Int) - 1) : Value) = _)) ?_
    exact ew_mid () ⟨rfl, rfl, rfl, trivial⟩ ⟨M4.step E XM4, (by exact Ba), trivial⟩
   ·
    have e : L = lcD k := by rw [hL]; unfold lsDelta; rw [if_neg (by rw [hb]; decide)]
    refine cw_skip ?_
    refine ew_set 4 (.int .i64 ((L : Nat) : Int)) rfl ((by rw [e] : (.int .i64 ((lcD k : Nat) : Int) : Value) = _)) ?_
    exact ew_mid () ⟨rfl, rfl, rfl, trivial⟩ ⟨M4.step E XM4, (by exact Ba), trivial⟩
  ·
   have LTa := (some_lt Ba.lt)
   clear Ba
   rintro _ w5 ⟨M4, Ba, _⟩
   have XM4 : ∀ q9, (Mut [(some ga)]) q9 → (Mut [(some ga)]) q9 ∨ w2.heap.size ≤ q9 := (Mut.grow Mut.none_ (fun k e => Or.inl (Mut.head k e)))
   replace E := E.trans M4
   replace HF := HF.on E
   replace LW := LW.step E XLW
   replace E := Ext.refl (Mut [(some ga)]) w5
   clear LTa
   refine cw_seq ?_
   refine cw_region ?_
   refine rs_op rfl (ow_move rfl ?_)
   refine rs_op rfl (ow_nilCheck rfl ?_)
   refine rs_op rfl (ow_fieldAddr Tryz.underlying193 rfl sz3 (by decide) rfl ?_)
   refine rs_op rfl (ow_loadF Tryz.underlying3 rfl rfl Ba (ndAt hl (t.nd) rfl) ?_)
   refine rs_op rfl (ow_assign rfl ?_)
   refine rs_nil ?_
   refine ew_next ?_
   refine cw_seq ?_
   refine cw_region ?_
   refine rs_op rfl (ow_move rfl ?_)
   refine rs_op rfl (ow_nilCheck rfl ?_)
   refine rs_op rfl (ow_fieldAddr Tryz.underlying193 rfl sz3 (by decide) rfl ?_)
   refine rs_op rfl (ow_loadF Tryz.underlying3 rfl rfl Ba (ndAt hl (t.nd) rfl) ?_)
   refine rs_op rfl (ow_move rfl ?_)
   refine rs_op rfl (ow_add rfl rfl (wrap_i64 (by omega)) ?_)
   refine rs_op rfl (ow_assign rfl ?_)
   refine rs_nil ?_
   refine ew_next ?_
   refine cw_seq ?_
   refine cw_region ?_
   refine rs_op rfl (ow_assign rfl ?_)
   refine rs_nil ?_
   refine ew_next ?_
   refine cw_seq ?_
   refine cw_seq ?_
   refine cw_region ?_
   refine rs_op rfl (ow_move rfl ?_)
   refine rs_op rfl (ow_sub rfl rfl (wrap_i64 (by omega)) ?_)
   refine rs_op rfl (ow_assign rfl ?_)
   refine rs_nil ?_
   refine ew_next ?_
   replace HF := HF.on E
   replace LW := LW.step E XLW
   replace E := Ext.refl (Mut [(some ga)]) w5
   refine cw_join (ι := LsA) (fun x => [(0, .pointer (some ⟨ga, 0, none⟩)), (4, .int .i64 ((L : Nat) : Int)), (6, .int .i64 ((x.w : Nat) : Int)), (7, .int .u64 ((x.n : Nat) : Int))]) (fun x w' => Ext (Mut [(some ga)]) w5 w' ∧ Blk w' ga 193 (decC { t with d := x.d, tr := x.tr }) ∧ (x = lsA t k)) ?_ ?_
   ·
    have M6 := Ext.refl (Mut [(some ga)]) w5
    have XM6 : ∀ q9, (Mut [(some ga)]) q9 → (Mut [(some ga)]) q9 ∨ w5.heap.size ≤ q9 := fun _ h => Or.inl h
    refine cw_block ?_
    replace HF := HF.on E
    replace LW := LW.step E XLW
    replace M6 := M6.step E XM6
    replace E := Ext.refl (Mut [(some ga)]) w5
    refine cw_loop (ι := LsA) (fun x => [(0, .pointer (some ⟨ga, 0, none⟩)), (1, .int .u64 ((k : Nat) : Int)), (4, .int .i64 ((L : Nat) : Int)), (5, .int .i64 (((x.r : Nat) : Int) - 1)), (6, .int .i64 ((x.w : Nat) : Int)), (7, .int .u64 ((x.n : Nat) : Int))]) (fun x w' => Ext (Mut [(some ga)]) w5 w' ∧ Blk w' ga 193 (decC { t with d := x.d, tr := x.tr }) ∧ (LsAI t k x ∧ until_ lsDoneA (lsStepA k) x = lsA t k)) (fun x => x.r) (⟨t.d, t.nd, t.nd + L, 0, t.tr⟩) ⟨rfl, rfl, rfl, rfl, rfl, rfl, trivial⟩ ⟨Ext.refl _ _, (by exact Ba), by rw [hL]; exact lsA_start ht, by rw [hL]; rfl⟩ ?_
    have LTa := (some_lt Ba.lt)
    clear Ba
    rintro x w9 ⟨M8, Ba, ⟨hI, hu⟩⟩
    have XM8 : ∀ q9, (Mut [(some ga)]) q9 → (Mut [(some ga)]) q9 ∨ w5.heap.size ≤ q9 := (Mut.grow Mut.none_ (fun k e => Or.inl (Mut.head k e)))
    replace E := E.trans M8
    replace HF := HF.on E
    replace LW := LW.step E XLW
    replace M6 := M6.step E XM6
    replace E := Ext.refl (Mut [(some ga)]) w9
    clear LTa
    have hlx : ({ t with d := x.d, tr := x.tr } : Dec).d.length = 800 := hI.len
    have hxw := hI.hw
    rw [← hL] at hxw
    have hxr := hI.hr
    refine cw_seq ?_
    refine cw_seq ?_
    refine cw_region ?_
    refine rs_op rfl (ow_move rfl ?_)
    refine rs_op rfl (ow_geq rfl rfl ?_)
    refine rs_nil ?_
    refine ew_next ?_
    refine cw_cond rfl (fun h1 => ?_) (fun h1 => ?_)
    ·
     have h1 : 0 < x.r := by have h1 := of_decide_eq_true h1; omega
     have hdone : lsDoneA x = false := decide_eq_false (by omega)
     obtain ⟨hkeep, _, hN⟩ := lsA_keeps ht hI hdone
     have hN64 := two64 hN hk60.2
     have hdg := ht.dig (x.r - 1) (by omega)
     rw [← hI.old (x.r - 1) (by omega)] at hdg
     obtain ⟨C, hC⟩ : ∃ C, C = (dg x.d (x.r - 1) - 48) * 2 ^ k := ⟨_, rfl⟩
     obtain ⟨V, hV⟩ : ∃ V, V = lsN k x := ⟨_, rfl⟩
     have hVC : V = x.n + C := by rw [hV, hC]; rfl
     rw [← hV] at hN64
     obtain ⟨D, hD⟩ : ∃ D, D = V / 10 := ⟨_, rfl⟩
     obtain ⟨R, hR⟩ : ∃ R, R = V % 10 := ⟨_, rfl⟩
     have hst : lsStepA k x = ⟨lsPut x.d (x.w - 1) R, x.r - 1, x.w - 1, D, lsTr x.tr (x.w - 1) R⟩ := by rw [hR, hD, hV]; rfl
     rw [until_next hdone] at hu
     rw [hst] at hkeep hu
     refine cw_skip ?_
     refine ew_next ?_
     refine cw_seq ?_
     refine cw_block ?_
     refine cw_seq ?_
     refine cw_region ?_
     refine rs_op rfl (ow_move rfl ?_)
     refine rs_op rfl (ow_move rfl ?_)
     refine rs_op rfl (ow_move rfl ?_)
     refine rs_op rfl (ow_nilCheck rfl ?_)
     refine rs_op rfl (ow_fieldAddr Tryz.underlying193 rfl sz191 (by decide) rfl ?_)
     refine rs_op rfl (ow_indexAddrZ (j := x.r - 1) Tryz.underlying191 sz5 rfl rfl (by omega) (by omega) ?_)
     refine rs_op rfl (ow_loadF Tryz.underlying5 rfl rfl Ba (dAt hlx (dg x.d (x.r - 1)) (x.r - 1) rfl (by omega)) ?_)
     refine rs_op rfl (ow_conv Tryz.underlying144 Tryz.underlying5 rfl (wrap_u64 (by omega)) ?_)
     refine rs_op rfl (ow_sub rfl rfl (wrap_u64 (by omega)) ?_)
     refine rs_op rfl (ow_move rfl ?_)
     refine rs_set 57 (.int .u64 ((dg x.d (x.r - 1) - 48 : Nat) : Int)) rfl ((by congr 1; omega : (.int .u64 (((dg x.d (x.r - 1) : Nat) : Int) - 48) : Value) = _)) ?_
     refine rs_op rfl (ow_shl rfl rfl (by omega) (shl_k (by omega) hk60.2 hC) ?_)
     refine rs_op rfl (ow_add rfl rfl (wrap_u64 (by omega)) ?_)
     refine rs_op rfl (ow_assign rfl ?_)
     refine rs_nil ?_
     refine ew_next ?_
     refine cw_seq ?_
     refine cw_region ?_
     refine rs_op rfl (ow_move rfl ?_)
     refine rs_set 61 (.int .u64 ((V : Nat) : Int)) rfl ((by congr 1; omega : (.int .u64 (((x.n : Nat) : Int) + ((C : Nat) : Int)) : Value) = _)) ?_
     refine rs_op rfl (ow_quo rfl rfl (by decide) (quo10 V D (by omega) hD) ?_)
     refine rs_op rfl (ow_assign rfl ?_)
     refine rs_nil ?_
     refine ew_next ?_
     refine cw_seq ?_
     refine cw_region ?_
     refine rs_op rfl (ow_move rfl ?_)
     refine rs_op rfl (ow_move rfl ?_)
     refine rs_op rfl (ow_mul rfl rfl (wrap_u64 (by omega)) ?_)
     refine rs_op rfl (ow_sub rfl rfl (wrap_u64 (by omega)) ?_)
     refine rs_op rfl (ow_assign rfl ?_)
     refine rs_nil ?_
     refine ew_next ?_
     refine cw_seq ?_
     refine cw_region ?_
     refine rs_op rfl (ow_move rfl ?_)
     refine rs_op rfl (ow_sub rfl rfl (wrap_i64 (by omega)) ?_)
     refine rs_op rfl (ow_assign rfl ?_)
     refine rs_nil ?_
     refine ew_next ?_
     refine cw_seq ?_
     refine cw_seq ?_
     refine cw_region ?_
     refine rs_op rfl (ow_move rfl ?_)
     refine rs_op rfl (ow_lss rfl rfl ?_)
     refine rs_nil ?_
     refine ew_next ?_
     refine cw_set 9 (.int .u64 ((R : Nat) : Int)) rfl ((by congr 1; omega : (.int .u64 ((((x.n : Nat) : Int) + ((C : Nat) : Int)) - (10 * ((D : Nat) : Int))) : Value) = _)) ?_
     refine cw_cond rfl (fun h2 => ?_) (fun h2 => ?_)
     ·
      have h2 : x.w - 1 < 800 := by have h2 := of_decide_eq_true h2; omega
      rw [put_in h2, tr_in h2] at hu hkeep
      refine cw_region ?_
      refine rs_op rfl (ow_move rfl ?_)
      refine rs_op rfl (ow_move rfl ?_)
      refine rs_op rfl (ow_move rfl ?_)
      refine rs_op rfl (ow_add rfl rfl (wrap_u64 (by omega)) ?_)
      refine rs_op rfl (ow_conv Tryz.underlying5 Tryz.underlying144 rfl (wrap_u8 (by omega)) ?_)
      refine rs_op rfl (ow_nilCheck rfl ?_)
      refine rs_op rfl (ow_fieldAddr Tryz.underlying193 rfl sz191 (by decide) rfl ?_)
      refine rs_op rfl (ow_indexAddrZ (j := x.w - 1) Tryz.underlying191 sz5 rfl rfl (by omega) (by omega) ?_)
      refine rs_set 75 (.int .u8 ((R + 48 : Nat) : Int)) rfl (rfl) ?_
      refine rs_op0 (ow_storeE sz5 rfl rfl Ba rfl rfl (in_ hlx (by omega)) (set_d hlx (by omega)) ?_)
      intro w10 Bx Ea
      replace Ba : Blk w10 ga 193 (decC { t with d := x.d.set (x.w - 1) (R + 48), tr := x.tr }) := Bx
      clear Bx
      replace E := E.step1 Ea Mut.head
      clear Ea
      refine rs_nil ?_
      refine ew_next ?_
      refine cw_region ?_
      refine rs_op rfl (ow_move rfl ?_)
      refine rs_op rfl (ow_assign rfl ?_)
      refine rs_nil ?_
      refine ew_block_normal ?_
      refine ew_next ?_
      refine cw_region ?_
      refine rs_op rfl (ow_move rfl ?_)
      refine rs_op rfl (ow_sub rfl rfl (wrap_i64 (by omega)) ?_)
      refine rs_op rfl (ow_assign rfl ?_)
      refine rs_nil ?_
      refine ew_set 6 (.int .i64 ((x.w - 1 : Nat) : Int)) rfl ((by congr 1; omega : (.int .i64 (((x.w : Nat) : Int) - 1) : Value) = _)) ?_
      refine ew_set 5 (.int .i64 (((x.r - 1 : Nat) : Int) - 1)) rfl ((by congr 1; omega : (.int .i64 ((((x.r : Nat) : Int) - 1) - 1) : Value) = _)) ?_
      exact ew_round (ι := LsA) (s := fun x => [(0, .pointer (some ⟨ga, 0, none⟩)), (1, .int .u64 ((k : Nat) : Int)), (4, .int .i64 ((L : Nat) : Int)), (5, .int .i64 (((x.r : Nat) : Int) - 1)), (6, .int .i64 ((x.w : Nat) : Int)), (7, .int .u64 ((x.n : Nat) : Int))]) (R := fun x w' => Ext (Mut [(some ga)]) w5 w' ∧ Blk w' ga 193 (decC { t with d := x.d, tr := x.tr }) ∧ (LsAI t k x ∧ until_ lsDoneA (lsStepA k) x = lsA t k)) (m := fun x => x.r) (i := x) (⟨x.d.set (x.w - 1) (R + 48), x.r - 1, x.w - 1, D, x.tr⟩) (by show x.r - 1 < x.r; omega) ⟨rfl, rfl, rfl, rfl, rfl, rfl, trivial⟩ ⟨M8.step E XM8, (by exact Ba), hkeep, hu⟩
     ·
      have h2 : ¬ x.w - 1 < 800 := by have h2 := of_decide_eq_false h2; omega
      refine cw_seq ?_
      refine cw_region ?_
      refine rs_op rfl (ow_move rfl ?_)
      refine rs_op rfl (ow_neq rfl rfl ?_)
      refine rs_nil ?_
      refine ew_next ?_
      refine cw_cond rfl (fun h3 => ?_) (fun h3 => ?_)
      ·
       have h3 : R ≠ 0 := fun e => absurd h3 (by rw [e]; decide)
       rw [put_out h2, tr_out h2 h3] at hu hkeep
       refine cw_region ?_
       refine rs_op rfl (ow_move rfl ?_)
       refine rs_op rfl (ow_nilCheck rfl ?_)
       refine rs_op rfl (ow_fieldAddr Tryz.underlying193 rfl sz4 (by decide) rfl ?_)
       refine rs_op0 (ow_storeE sz4 rfl rfl Ba rfl rfl (in_ hlx (by decide : 803 < 804)) (set_tr hlx true) ?_)
       intro w11 Bx Ea
       replace Ba : Blk w11 ga 193 (decC { t with d := x.d, tr := true }) := Bx
       clear Bx
       replace E := E.step1 Ea Mut.head
       clear Ea
       refine rs_nil ?_
       refine ew_next ?_
       refine cw_region ?_
       refine rs_op rfl (ow_move rfl ?_)
       refine rs_op rfl (ow_assign rfl ?_)
       refine rs_nil ?_
       refine ew_block_normal ?_
       refine ew_next ?_
       refine cw_region ?_
       refine rs_op rfl (ow_move rfl ?_)
       refine rs_op rfl (ow_sub rfl rfl (wrap_i64 (by omega)) ?_)
       refine rs_op rfl (ow_assign rfl ?_)
       refine rs_nil ?_
       refine ew_set 6 (.int .i64 ((x.w - 1 : Nat) : Int)) rfl ((by congr 1; omega : (.int .i64 (((x.w : Nat) : Int) - 1) : Value) = _)) ?_
       refine ew_set 5 (.int .i64 (((x.r - 1 : Nat) : Int) - 1)) rfl ((by congr 1; omega : (.int .i64 ((((x.r : Nat) : Int) - 1) - 1) : Value) = _)) ?_
       exact ew_round (ι := LsA) (s := fun x => [(0, .pointer (some ⟨ga, 0, none⟩)), (1, .int .u64 ((k : Nat) : Int)), (4, .int .i64 ((L : Nat) : Int)), (5, .int .i64 (((x.r : Nat) : Int) - 1)), (6, .int .i64 ((x.w : Nat) : Int)), (7, .int .u64 ((x.n : Nat) : Int))]) (R := fun x w' => Ext (Mut [(some ga)]) w5 w' ∧ Blk w' ga 193 (decC { t with d := x.d, tr := x.tr }) ∧ (LsAI t k x ∧ until_ lsDoneA (lsStepA k) x = lsA t k)) (m := fun x => x.r) (i := x) (⟨x.d, x.r - 1, x.w - 1, D, true⟩) (by show x.r - 1 < x.r; omega) ⟨rfl, rfl, rfl, rfl, rfl, rfl, trivial⟩ ⟨M8.step E XM8, (by exact Ba), hkeep, hu⟩
      ·
       have h3 : R = 0 := by
        rcases Nat.decEq R 0 with h | h
        · rw [bne_iff_ne.2 (by omega)] at h3; cases h3
        · exact h
       rw [put_out h2, tr_nil h3] at hu hkeep
       refine cw_skip ?_
       refine ew_next ?_
       refine cw_region ?_
       refine rs_op rfl (ow_move rfl ?_)
       refine rs_op rfl (ow_assign rfl ?_)
       refine rs_nil ?_
       refine ew_block_normal ?_
       refine ew_next ?_
       refine cw_region ?_
       refine rs_op rfl (ow_move rfl ?_)
       refine rs_op rfl (ow_sub rfl rfl (wrap_i64 (by omega)) ?_)
       refine rs_op rfl (ow_assign rfl ?_)
       refine rs_nil ?_
       refine ew_set 6 (.int .i64 ((x.w - 1 : Nat) : Int)) rfl ((by congr 1; omega : (.int .i64 (((x.w : Nat) : Int) - 1) : Value) = _)) ?_
       refine ew_set 5 (.int .i64 (((x.r - 1 : Nat) : Int) - 1)) rfl ((by congr 1; omega : (.int .i64 ((((x.r : Nat) : Int) - 1) - 1) : Value) = _)) ?_
       exact ew_round (ι := LsA) (s := fun x => [(0, .pointer (some ⟨ga, 0, none⟩)), (1, .int .u64 ((k : Nat) : Int)), (4, .int .i64 ((L : Nat) : Int)), (5, .int .i64 (((x.r : Nat) : Int) - 1)), (6, .int .i64 ((x.w : Nat) : Int)), (7, .int .u64 ((x.n : Nat) : Int))]) (R := fun x w' => Ext (Mut [(some ga)]) w5 w' ∧ Blk w' ga 193 (decC { t with d := x.d, tr := x.tr }) ∧ (LsAI t k x ∧ until_ lsDoneA (lsStepA k) x = lsA t k)) (m := fun x => x.r) (i := x) (⟨x.d, x.r - 1, x.w - 1, D, x.tr⟩) (by show x.r - 1 < x.r; omega) ⟨rfl, rfl, rfl, rfl, rfl, rfl, trivial⟩ ⟨M8.step E XM8, (by exact Ba), hkeep, hu⟩
    ·
     have h1 : x.r = 0 := by have h1 := of_decide_eq_false h1; omega
     have hdone : lsDoneA x = true := decide_eq_true h1
     rw [until_stop hdone] at hu
     refine cw_exit ?_
     refine ew_then_exit ?_
     refine ew_then_exit ?_
     refine ew_block_here ?_
     exact ew_mid x ⟨rfl, rfl, rfl, rfl, trivial⟩ ⟨M6.step E XM6, (by exact Ba), hu⟩
   ·
    have LTa := (some_lt Ba.lt)
    clear Ba
    rintro x w7 ⟨M6, Ba, hx⟩
    have XM6 : ∀ q9, (Mut [(some ga)]) q9 → (Mut [(some ga)]) q9 ∨ w5.heap.size ≤ q9 := (Mut.grow Mut.none_ (fun k e => Or.inl (Mut.head k e)))
    replace E := E.trans M6
    replace HF := HF.on E
    replace LW := LW.step E XLW
    replace E := Ext.refl (Mut [(some ga)]) w7
    clear LTa
    refine cw_seq ?_
    replace HF := HF.on E
    replace LW := LW.step E XLW
    replace E := Ext.refl (Mut [(some ga)]) w7
    refine cw_join (ι := LsA) (fun x => [(0, .pointer (some ⟨ga, 0, none⟩)), (4, .int .i64 ((L : Nat) : Int))]) (fun x w' => Ext (Mut [(some ga)]) w7 w' ∧ Blk w' ga 193 (decC { t with d := x.d, tr := x.tr }) ∧ (x = lsB t k)) ?_ ?_
    ·
     have M12 := Ext.refl (Mut [(some ga)]) w7
     have XM12 : ∀ q9, (Mut [(some ga)]) q9 → (Mut [(some ga)]) q9 ∨ w7.heap.size ≤ q9 := fun _ h => Or.inl h
     have hS2 := lsB_start ht h0 hk
     refine cw_block ?_
     replace HF := HF.on E
     replace LW := LW.step E XLW
     replace M12 := M12.step E XM12
     replace E := Ext.refl (Mut [(some ga)]) w7
     refine cw_loop (ι := LsA) (fun x => [(0, .pointer (some ⟨ga, 0, none⟩)), (4, .int .i64 ((L : Nat) : Int)), (6, .int .i64 ((x.w : Nat) : Int)), (7, .int .u64 ((x.n : Nat) : Int))]) (fun x w' => Ext (Mut [(some ga)]) w7 w' ∧ Blk w' ga 193 (decC { t with d := x.d, tr := x.tr }) ∧ (LsBI t k x ∧ until_ lsDoneB lsStepB x = lsB t k)) (fun x => x.w) x ⟨rfl, rfl, rfl, rfl, trivial⟩ ⟨Ext.refl _ _, (by exact Ba), by rw [hx]; exact hS2, by rw [hx]; rfl⟩ ?_
     have LTa := (some_lt Ba.lt)
     clear Ba
     rintro x w15 ⟨M14, Ba, ⟨hI, hu⟩⟩
     have XM14 : ∀ q9, (Mut [(some ga)]) q9 → (Mut [(some ga)]) q9 ∨ w7.heap.size ≤ q9 := (Mut.grow Mut.none_ (fun k e => Or.inl (Mut.head k e)))
     replace E := E.trans M14
     replace HF := HF.on E
     replace LW := LW.step E XLW
     replace M12 := M12.step E XM12
     replace E := Ext.refl (Mut [(some ga)]) w15
     clear LTa
     have hlx : ({ t with d := x.d, tr := x.tr } : Dec).d.length = 800 := hI.len
     have hn60 := two60 hI.small hk60.2
     refine cw_seq ?_
     refine cw_seq ?_
     refine cw_region ?_
     refine rs_op rfl (ow_move rfl ?_)
     refine rs_op rfl (ow_gtr rfl rfl ?_)
     refine rs_nil ?_
     refine ew_next ?_
     refine cw_cond rfl (fun h1 => ?_) (fun h1 => ?_)
     ·
      have h1 : 0 < x.n := by have h1 := of_decide_eq_true h1; omega
      have hdone : lsDoneB x = false := decide_eq_false (by omega)
      obtain ⟨hkeep, hw1, hw2⟩ := lsB_keeps ht hk h0 hI hdone
      obtain ⟨D, hD⟩ : ∃ D, D = x.n / 10 := ⟨_, rfl⟩
      obtain ⟨R, hR⟩ : ∃ R, R = x.n % 10 := ⟨_, rfl⟩
      have hst : lsStepB x = ⟨lsPut x.d (x.w - 1) R, x.r, x.w - 1, D, lsTr x.tr (x.w - 1) R⟩ := by rw [hR, hD]; rfl
      rw [until_next hdone] at hu
      rw [hst] at hkeep hu
      refine cw_skip ?_
      refine ew_next ?_
      refine cw_block ?_
      refine cw_seq ?_
      refine cw_region ?_
      refine rs_op rfl (ow_move rfl ?_)
      refine rs_op rfl (ow_quo rfl rfl (by decide) (quo10 x.n D (by omega) hD) ?_)
      refine rs_op rfl (ow_assign rfl ?_)
      refine rs_nil ?_
      refine ew_next ?_
      refine cw_seq ?_
      refine cw_region ?_
      refine rs_op rfl (ow_move rfl ?_)
      refine rs_op rfl (ow_move rfl ?_)
      refine rs_op rfl (ow_mul rfl rfl (wrap_u64 (by omega)) ?_)
      refine rs_op rfl (ow_sub rfl rfl (wrap_u64 (by omega)) ?_)
      refine rs_op rfl (ow_assign rfl ?_)
      refine rs_nil ?_
      refine ew_next ?_
      refine cw_seq ?_
      refine cw_region ?_
      refine rs_op rfl (ow_move rfl ?_)
      refine rs_op rfl (ow_sub rfl rfl (wrap_i64 (by omega)) ?_)
      refine rs_op rfl (ow_assign rfl ?_)
      refine rs_nil ?_
      refine ew_next ?_
      refine cw_seq ?_
      refine cw_seq ?_
      refine cw_region ?_
      refine rs_op rfl (ow_move rfl ?_)
      refine rs_op rfl (ow_lss rfl rfl ?_)
      refine rs_nil ?_
      refine ew_next ?_
      refine cw_set 11 (.int .u64 ((R : Nat) : Int)) rfl ((by congr 1; omega : (.int .u64 (((x.n : Nat) : Int) - (10 * ((D : Nat) : Int))) : Value) = _)) ?_
      refine cw_cond rfl (fun h2 => ?_) (fun h2 => ?_)
      ·
       have h2 : x.w - 1 < 800 := by have h2 := of_decide_eq_true h2; omega
       rw [put_in h2, tr_in h2] at hu hkeep
       refine cw_region ?_
       refine rs_op rfl (ow_move rfl ?_)
       refine rs_op rfl (ow_move rfl ?_)
       refine rs_op rfl (ow_move rfl ?_)
       refine rs_op rfl (ow_add rfl rfl (wrap_u64 (by omega)) ?_)
       refine rs_op rfl (ow_conv Tryz.underlying5 Tryz.underlying144 rfl (wrap_u8 (by omega)) ?_)
       refine rs_op rfl (ow_nilCheck rfl ?_)
       refine rs_op rfl (ow_fieldAddr Tryz.underlying193 rfl sz191 (by decide) rfl ?_)
       refine rs_op rfl (ow_indexAddrZ (j := x.w - 1) Tryz.underlying191 sz5 rfl rfl (by omega) (by omega) ?_)
       refine rs_set 101 (.int .u8 ((R + 48 : Nat) : Int)) rfl (rfl) ?_
       refine rs_op0 (ow_storeE sz5 rfl rfl Ba rfl rfl (in_ hlx (by omega)) (set_d hlx (by omega)) ?_)
       intro w16 Bx Ea
       replace Ba : Blk w16 ga 193 (decC { t with d := x.d.set (x.w - 1) (R + 48), tr := x.tr }) := Bx
       clear Bx
       replace E := E.step1 Ea Mut.head
       clear Ea
       refine rs_nil ?_
       refine ew_next ?_
       refine cw_region ?_
       refine rs_op rfl (ow_move rfl ?_)
       refine rs_op rfl (ow_assign rfl ?_)
       refine rs_nil ?_
       refine ew_block_normal ?_
       refine ew_set 6 (.int .i64 ((x.w - 1 : Nat) : Int)) rfl ((by congr 1; omega : (.int .i64 (((x.w : Nat) : Int) - 1) : Value) = _)) ?_
       exact ew_round (ι := LsA) (s := fun x => [(0, .pointer (some ⟨ga, 0, none⟩)), (4, .int .i64 ((L : Nat) : Int)), (6, .int .i64 ((x.w : Nat) : Int)), (7, .int .u64 ((x.n : Nat) : Int))]) (R := fun x w' => Ext (Mut [(some ga)]) w7 w' ∧ Blk w' ga 193 (decC { t with d := x.d, tr := x.tr }) ∧ (LsBI t k x ∧ until_ lsDoneB lsStepB x = lsB t k)) (m := fun x => x.w) (i := x) (⟨x.d.set (x.w - 1) (R + 48), x.r, x.w - 1, D, x.tr⟩) (by show x.w - 1 < x.w; omega) ⟨rfl, rfl, rfl, rfl, trivial⟩ ⟨M14.step E XM14, (by exact Ba), hkeep, hu⟩
      ·
       have h2 : ¬ x.w - 1 < 800 := by have h2 := of_decide_eq_false h2; omega
       refine cw_seq ?_
       refine cw_region ?_
       refine rs_op rfl (ow_move rfl ?_)
       refine rs_op rfl (ow_neq rfl rfl ?_)
       refine rs_nil ?_
       refine ew_next ?_
       refine cw_cond rfl (fun h3 => ?_) (fun h3 => ?_)
       ·
        have h3 : R ≠ 0 := fun e => absurd h3 (by rw [e]; decide)
        rw [put_out h2, tr_out h2 h3] at hu hkeep
        refine cw_region ?_
        refine rs_op rfl (ow_move rfl ?_)
        refine rs_op rfl (ow_nilCheck rfl ?_)
        refine rs_op rfl (ow_fieldAddr Tryz.underlying193 rfl sz4 (by decide) rfl ?_)
        refine rs_op0 (ow_storeE sz4 rfl rfl Ba rfl rfl (in_ hlx (by decide : 803 < 804)) (set_tr hlx true) ?_)
        intro w17 Bx Ea
        replace Ba : Blk w17 ga 193 (decC { t with d := x.d, tr := true }) := Bx
        clear Bx
        replace E := E.step1 Ea Mut.head
        clear Ea
        refine rs_nil ?_
        refine ew_next ?_
        refine cw_region ?_
        refine rs_op rfl (ow_move rfl ?_)
        refine rs_op rfl (ow_assign rfl ?_)
        refine rs_nil ?_
        refine ew_block_normal ?_
        refine ew_set 6 (.int .i64 ((x.w - 1 : Nat) : Int)) rfl ((by congr 1; omega : (.int .i64 (((x.w : Nat) : Int) - 1) : Value) = _)) ?_
        exact ew_round (ι := LsA) (s := fun x => [(0, .pointer (some ⟨ga, 0, none⟩)), (4, .int .i64 ((L : Nat) : Int)), (6, .int .i64 ((x.w : Nat) : Int)), (7, .int .u64 ((x.n : Nat) : Int))]) (R := fun x w' => Ext (Mut [(some ga)]) w7 w' ∧ Blk w' ga 193 (decC { t with d := x.d, tr := x.tr }) ∧ (LsBI t k x ∧ until_ lsDoneB lsStepB x = lsB t k)) (m := fun x => x.w) (i := x) (⟨x.d, x.r, x.w - 1, D, true⟩) (by show x.w - 1 < x.w; omega) ⟨rfl, rfl, rfl, rfl, trivial⟩ ⟨M14.step E XM14, (by exact Ba), hkeep, hu⟩
       ·
        have h3 : R = 0 := by
         rcases Nat.decEq R 0 with h | h
         · rw [bne_iff_ne.2 (by omega)] at h3; cases h3
         · exact h
        rw [put_out h2, tr_nil h3] at hu hkeep
        refine cw_skip ?_
        refine ew_next ?_
        refine cw_region ?_
        refine rs_op rfl (ow_move rfl ?_)
        refine rs_op rfl (ow_assign rfl ?_)
        refine rs_nil ?_
        refine ew_block_normal ?_
        refine ew_set 6 (.int .i64 ((x.w - 1 : Nat) : Int)) rfl ((by congr 1; omega : (.int .i64 (((x.w : Nat) : Int) - 1) : Value) = _)) ?_
        exact ew_round (ι := LsA) (s := fun x => [(0, .pointer (some ⟨ga, 0, none⟩)), (4, .int .i64 ((L : Nat) : Int)), (6, .int .i64 ((x.w : Nat) : Int)), (7, .int .u64 ((x.n : Nat) : Int))]) (R := fun x w' => Ext (Mut [(some ga)]) w7 w' ∧ Blk w' ga 193 (decC { t with d := x.d, tr := x.tr }) ∧ (LsBI t k x ∧ until_ lsDoneB lsStepB x = lsB t k)) (m := fun x => x.w) (i := x) (⟨x.d, x.r, x.w - 1, D, x.tr⟩) (by show x.w - 1 < x.w; omega) ⟨rfl, rfl, rfl, rfl, trivial⟩ ⟨M14.step E XM14, (by exact Ba), hkeep, hu⟩
     ·
      have h1 : x.n = 0 := by have h1 := of_decide_eq_false h1; omega
      have hdone : lsDoneB x = true := decide_eq_true h1
      rw [until_stop hdone] at hu
      refine cw_exit ?_
      refine ew_then_exit ?_
      refine ew_then_exit ?_
      refine ew_block_here ?_
      exact ew_mid x ⟨rfl, rfl, trivial⟩ ⟨M12.step E XM12, (by exact Ba), hu⟩
    ·
     have LTa := (some_lt Ba.lt)
     clear Ba
     rintro x w13 ⟨M12, Ba, hx⟩
     have XM12 : ∀ q9, (Mut [(some ga)]) q9 → (Mut [(some ga)]) q9 ∨ w7.heap.size ≤ q9 := (Mut.grow Mut.none_ (fun k e => Or.inl (Mut.head k e)))
     replace E := E.trans M12
     replace HF := HF.on E
     replace LW := LW.step E XLW
     replace E := Ext.refl (Mut [(some ga)]) w13
     clear LTa
     obtain ⟨hE, _⟩ := lsB_ends ht h0 hk
     rw [← hx] at hE
     have hlx : ({ t with d := x.d, tr := x.tr } : Dec).d.length = 800 := hE.len
     refine cw_seq ?_
     refine cw_region ?_
     refine rs_op rfl (ow_move rfl ?_)
     refine rs_op rfl (ow_nilCheck rfl ?_)
     refine rs_op rfl (ow_fieldAddr Tryz.underlying193 rfl sz3 (by decide) rfl ?_)
     refine rs_op rfl (ow_loadF Tryz.underlying3 rfl rfl Ba (ndAt hlx (t.nd) rfl) ?_)
     refine rs_op rfl (ow_move rfl ?_)
     refine rs_op rfl (ow_add rfl rfl (wrap_i64 (by omega)) ?_)
     refine rs_op rfl (ow_nilCheck rfl ?_)
     refine rs_op rfl (ow_fieldAddr Tryz.underlying193 rfl sz3 (by decide) rfl ?_)
     refine rs_set 116 (.int .i64 ((t.nd + L : Nat) : Int)) rfl (rfl) ?_
     refine rs_op0 (ow_storeE sz3 rfl rfl Ba rfl rfl (in_ hlx (by decide : 800 < 804)) (set_nd hlx (t.nd + L)) ?_)
     intro w18 Bx Ea
     replace Ba : Blk w18 ga 193 (decC { t with d := x.d, nd := t.nd + L, tr := x.tr }) := Bx
     clear Bx
     replace E := E.step1 Ea Mut.head
     clear Ea
     have hly : ({ t with d := x.d, nd := t.nd + L, tr := x.tr } : Dec).d.length = 800 := hE.len
     refine rs_nil ?_
     refine ew_next ?_
     refine cw_seq ?_
     refine cw_seq ?_
     refine cw_region ?_
     refine rs_op rfl (ow_move rfl ?_)
     refine rs_op rfl (ow_nilCheck rfl ?_)
     refine rs_op rfl (ow_fieldAddr Tryz.underlying193 rfl sz3 (by decide) rfl ?_)
     refine rs_op rfl (ow_loadF Tryz.underlying3 rfl rfl Ba (ndAt hly (t.nd + L) rfl) ?_)
     refine rs_op rfl (ow_geq rfl rfl ?_)
     refine rs_nil ?_
     refine ew_next ?_
     replace HF := HF.on E
     replace LW := LW.step E XLW
     replace E := Ext.refl (Mut [(some ga)]) w18
     refine cw_join (ι := Unit) (fun _ => [(0, .pointer (some ⟨ga, 0, none⟩)), (4, .int .i64 ((L : Nat) : Int))]) (fun _ w' => Ext (Mut [(some ga)]) w18 w' ∧ Blk w' ga 193 (decC { t with d := x.d, nd := if 800 ≤ t.nd + L then 800 else t.nd + L, tr := x.tr }) ∧ (True)) ?_ ?_
     ·
      have M19 := Ext.refl (Mut [(some ga)]) w18
      have XM19 : ∀ q9, (Mut [(some ga)]) q9 → (Mut [(some ga)]) q9 ∨ w18.heap.size ≤ q9 := fun _ h => Or.inl h
      refine cw_cond rfl (fun h1 => ?_) (fun h1 => ?_)
      ·
       have h1 : 800 ≤ t.nd + L := by have h1 := of_decide_eq_true h1; omega
       refine cw_region ?_
       refine rs_op rfl (ow_move rfl ?_)
       refine rs_op rfl (ow_nilCheck rfl ?_)
       refine rs_op rfl (ow_fieldAddr Tryz.underlying193 rfl sz3 (by decide) rfl ?_)
       refine rs_op0 (ow_storeE sz3 rfl rfl Ba rfl rfl (in_ hly (by decide : 800 < 804)) (set_nd hly 800) ?_)
       intro w21 Bx Ea
       replace Ba : Blk w21 ga 193 (decC { t with d := x.d, nd := 800, tr := x.tr }) := Bx
       clear Bx
       replace E := E.step1 Ea Mut.head
       clear Ea
       refine rs_nil ?_
       replace Ba : Blk w21 ga 193 (decC { t with d := x.d, nd := if 800 ≤ t.nd + L then 800 else t.nd + L, tr := x.tr }) := by rw [if_pos h1]; exact Ba
       exact ew_mid () ⟨rfl, rfl, trivial⟩ ⟨M19.step E XM19, (by exact Ba), trivial⟩
      ·
       have h1 : ¬ 800 ≤ t.nd + L := by have h1 := of_decide_eq_false h1; omega
       refine cw_skip ?_
       replace Ba : Blk w18 ga 193 (decC { t with d := x.d, nd := if 800 ≤ t.nd + L then 800 else t.nd + L, tr := x.tr }) := by rw [if_neg h1]; exact Ba
       exact ew_mid () ⟨rfl, rfl, trivial⟩ ⟨M19.step E XM19, (by exact Ba), trivial⟩
     ·
      have LTa := (some_lt Ba.lt)
      clear Ba
      rintro _ w20 ⟨M19, Ba, _⟩
      have XM19 : ∀ q9, (Mut [(some ga)]) q9 → (Mut [(some ga)]) q9 ∨ w18.heap.size ≤ q9 := (Mut.grow Mut.none_ (fun k e => Or.inl (Mut.head k e)))
      replace E := E.trans M19
      replace HF := HF.on E
      replace LW := LW.step E XLW
      replace E := Ext.refl (Mut [(some ga)]) w20
      clear LTa
      have hlz : ({ t with d := x.d, nd := if 800 ≤ t.nd + L then 800 else t.nd + L, tr := x.tr } : Dec).d.length = 800 := hE.len
      have hlz2 : ({ t with d := x.d, nd := if 800 ≤ t.nd + L then 800 else t.nd + L, dp := t.dp + ((L : Nat) : Int), tr := x.tr } : Dec).d.length = 800 := hE.len
      refine cw_seq ?_
      refine cw_region ?_
      refine rs_op rfl (ow_move rfl ?_)
      refine rs_op rfl (ow_nilCheck rfl ?_)
      refine rs_op rfl (ow_fieldAddr Tryz.underlying193 rfl sz3 (by decide) rfl ?_)
      refine rs_op rfl (ow_loadF Tryz.underlying3 rfl rfl Ba (dpAt hlz t.dp rfl) ?_)
      refine rs_op rfl (ow_move rfl ?_)
      refine rs_op rfl (ow_add rfl rfl (wrap_i64 (by omega)) ?_)
      refine rs_op rfl (ow_nilCheck rfl ?_)
      refine rs_op rfl (ow_fieldAddr Tryz.underlying193 rfl sz3 (by decide) rfl ?_)
      refine rs_op0 (ow_storeE sz3 rfl rfl Ba rfl rfl (in_ hlz (by decide : 801 < 804)) (set_dp hlz (t.dp + ((L : Nat) : Int))) ?_)
      intro w22 Bx Ea
      replace Ba : Blk w22 ga 193 (decC { t with d := x.d, nd := if 800 ≤ t.nd + L then 800 else t.nd + L, dp := t.dp + ((L : Nat) : Int), tr := x.tr }) := Bx
      clear Bx
      replace E := E.step1 Ea Mut.head
      clear Ea
      refine rs_nil ?_
      refine ew_next ?_
      refine cw_region ?_
      refine rs_op rfl (ow_move rfl ?_)
      refine rs_op rfl (ow_enter en202 rfl ((trim_any _ ga _ hlz2 (by show (if 800 ≤ t.nd + L then 800 else t.nd + L) ≤ 800; split <;> omega) Ba).mono ?_))
      rintro e w23 ⟨rfl, hB, hE⟩
      refine ⟨_, rfl, ?_⟩
      replace Ba := hB
      clear hB
      replace E := E.step1 hE Mut.head
      clear hE
      refine rs_nil ?_
      refine ew_end rfl ?_
      exact ⟨rfl, by unfold lshift; rw [← hx, ← hL]; exact Ba, (LW.step E XLW)⟩
end
end Go.Proofs.YtjdcjdohghkcgaaGreatDoor
namespace Go.Proofs.YtjdcjdohghkcgaaGreatDoor
open Go.RowKit
set_option maxRecDepth 100000
attribute [local irreducible] OW RS
theorem shrD_one {t : Dec} {k : Nat} (h : k ≤ 60) : shrD t k = rshift t k := by
 unfold shrD shA
 rw [until_stop (done := shDone) (step := shStep) (s := ⟨t, k⟩) (decide_eq_true h)]
theorem mul10w (n : Nat) : IntKind.u64.wrap (((n : Nat) : Int) * 10) = ((n * 10 % 18446744073709551616 : Nat) : Int) := by
 have e : ((n : Nat) : Int) * 10 = ((n * 10 : Nat) : Int) := by omega
 rw [e]; exact wrap_mod _
theorem addw (n m : Nat) : IntKind.u64.wrap (((n : Nat) : Int) + ((m : Nat) : Int)) = (((n + m) % 18446744073709551616 : Nat) : Int) := by
 have e : ((n : Nat) : Int) + ((m : Nat) : Int) = ((n + m : Nat) : Int) := by omega
 rw [e]; exact wrap_mod _
theorem par_ne (c : Nat) : ((.bool (((c : Nat) : Int) % 2 != 0)) : Value) = .bool (decide (c % 2 ≠ 0)) := by
 congr 1
 by_cases h : c % 2 = 0
 · rw [decide_eq_false (fun e => e h), show ((c : Nat) : Int) % 2 = 0 by omega]; rfl
 · rw [decide_eq_true h]; exact bne_iff_ne.2 (by omega)
section
variable (w : World) {bp op cp bf of cf bl ol cl : Nat}
theorem shiftL_any (ga k : Nat) (t : Dec) (hk : Shl k) (ht : DecI t) (h0 : 0 < t.nd) (hdp : -20000000 ≤ t.dp ∧ t.dp ≤ 20000000) (hB : Blk w ga 193 (decC t)) (hT : Tabs bp op cp bf of cf bl ol cl w) (hg : TabsB bp bf bl ga) :
 Calls Tryz.prog 162 #[.pointer (some ⟨ga, 0, none⟩), .int .i64 ((k : Nat) : Int)] w fun e w' => e = .returned (.tuple #[]) ∧ Blk w' ga 193 (decC (lshift t k)) ∧ Ext (Mut [some ga]) w w' := by
 have hl := ht.len
 have hk60 := (shl_ok hk).k1
 refine calls_cw Tryz.func162 rfl Tryz.ntmps162 rfl ?_
 have Ba := hB
 have HF : Per (Mut [(some ga)]) w (fun _ => True) := Per.true_
 have LW := Ext.refl (Mut [(some ga)]) w
 have XLW : ∀ q9, (Mut [(some ga)]) q9 → (Mut [(some ga)]) q9 ∨ w.heap.size ≤ q9 := fun _ h => Or.inl h
 have E := Ext.refl (Mut [(some ga)]) w
 replace HF := HF.on E
 replace LW := LW.step E XLW
 replace E := Ext.refl (Mut [(some ga)]) w
 replace HF := HF.and (Per.tabsB hT hg (fun q h => h.elim (fun e => Nat.le_of_eq (Option.some.inj e).symm) (fun e => e.elim)))
 refine cw_block ?_
 refine cw_seq ?_
 refine cw_region ?_
 refine rs_op rfl (ow_move rfl ?_)
 refine rs_op rfl (ow_nilCheck rfl ?_)
 refine rs_op rfl (ow_fieldAddr Tryz.underlying193 rfl sz3 (by decide) rfl ?_)
 refine rs_op rfl (ow_loadF Tryz.underlying3 rfl rfl Ba (ndAt hl t.nd rfl) ?_)
 refine rs_op rfl (ow_eql rfl rfl ?_)
 refine rs_op rfl (ow_assign rfl ?_)
 refine rs_nil ?_
 refine ew_next ?_
 refine cw_set 4 (.bool false) rfl ((by rw [beq_no (by omega)] : (.bool (((t.nd : Nat) : Int) == 0) : Value) = _)) ?_
 refine cw_else rfl ?_
 refine cw_seq ?_
 refine cw_region ?_
 refine rs_op rfl (ow_move rfl ?_)
 refine rs_op rfl (ow_gtr rfl rfl ?_)
 refine rs_op rfl (ow_assign rfl ?_)
 refine rs_nil ?_
 refine ew_next ?_
 refine cw_set 10 (.bool true) rfl ((by rw [decide_eq_true (by omega)] : (.bool (decide (0 < ((k : Nat) : Int))) : Value) = _)) ?_
 refine cw_then rfl ?_
 refine cw_seq ?_
 refine cw_block ?_
 refine cw_unroll ?_
 refine cw_seq ?_
 refine cw_seq ?_
 refine cw_region ?_
 refine rs_op rfl (ow_move rfl ?_)
 refine rs_op rfl (ow_gtr rfl rfl ?_)
 refine rs_nil ?_
 refine ew_next ?_
 refine cw_set 14 (.bool false) rfl ((by rw [decide_eq_false (by omega)] : (.bool (decide (60 < ((k : Nat) : Int))) : Value) = _)) ?_
 refine cw_else rfl ?_
 refine cw_exit ?_
 refine ew_then_exit ?_
 refine ew_then_exit ?_
 refine ew_block_here ?_
 refine ew_next ?_
 refine cw_region ?_
 refine rs_op rfl (ow_move rfl ?_)
 refine rs_op rfl (ow_move rfl ?_)
 refine rs_op rfl (ow_conv Tryz.underlying144 Tryz.underlying3 rfl (wrap_u64 (by omega)) ?_)
 refine rs_op rfl (ow_enter en203 rfl ((left_any _ ga k t hk ht h0 hdp Ba (HF.on E).here.2 hg).mono ?_))
 rintro e w1 ⟨rfl, hB, hE⟩
 refine ⟨_, rfl, ?_⟩
 replace Ba := hB
 clear hB
 replace E := E.step1 hE Mut.head
 clear hE
 refine rs_nil ?_
 refine ew_block_normal ?_
 refine ew_end rfl ?_
 exact ⟨rfl, Ba, (LW.step E XLW)⟩
theorem shiftR_any (ga k : Nat) (t : Dec) (h : ShI ⟨t, k⟩) (hB : Blk w ga 193 (decC t)) :
 Calls Tryz.prog 162 #[.pointer (some ⟨ga, 0, none⟩), .int .i64 (-((k : Nat) : Int))] w fun e w' => e = .returned (.tuple #[]) ∧ Blk w' ga 193 (decC (shrD t k)) ∧ Ext (Mut [some ga]) w w' := by
 have hl : t.d.length = 800 := h.dec.len
 have h0 : 0 < t.nd := h.pos
 have hk1 : 1 ≤ k ∧ k ≤ 300000 := h.k1
 refine calls_cw Tryz.func162 rfl Tryz.ntmps162 rfl ?_
 have Ba := hB
 have HF : Per (Mut [(some ga)]) w (fun _ => True) := Per.true_
 have LW := Ext.refl (Mut [(some ga)]) w
 have XLW : ∀ q9, (Mut [(some ga)]) q9 → (Mut [(some ga)]) q9 ∨ w.heap.size ≤ q9 := fun _ h => Or.inl h
 have E := Ext.refl (Mut [(some ga)]) w
 refine cw_block ?_
 refine cw_seq ?_
 refine cw_region ?_
 refine rs_op rfl (ow_move rfl ?_)
 refine rs_op rfl (ow_nilCheck rfl ?_)
 refine rs_op rfl (ow_fieldAddr Tryz.underlying193 rfl sz3 (by decide) rfl ?_)
 refine rs_op rfl (ow_loadF Tryz.underlying3 rfl rfl Ba (ndAt hl t.nd rfl) ?_)
 refine rs_op rfl (ow_eql rfl rfl ?_)
 refine rs_op rfl (ow_assign rfl ?_)
 refine rs_nil ?_
 refine ew_next ?_
 refine cw_set 4 (.bool false) rfl ((by rw [beq_no (by omega)] : (.bool (((t.nd : Nat) : Int) == 0) : Value) = _)) ?_
 refine cw_else rfl ?_
 refine cw_seq ?_
 refine cw_region ?_
 refine rs_op rfl (ow_move rfl ?_)
 refine rs_op rfl (ow_gtr rfl rfl ?_)
 refine rs_op rfl (ow_assign rfl ?_)
 refine rs_nil ?_
 refine ew_next ?_
 refine cw_set 10 (.bool false) rfl ((by rw [decide_eq_false (by omega)] : (.bool (decide (0 < (-((k : Nat) : Int)))) : Value) = _)) ?_
 refine cw_else rfl ?_
 refine cw_seq ?_
 refine cw_region ?_
 refine rs_op rfl (ow_move rfl ?_)
 refine rs_op rfl (ow_lss rfl rfl ?_)
 refine rs_op rfl (ow_assign rfl ?_)
 refine rs_nil ?_
 refine ew_next ?_
 refine cw_set 23 (.bool true) rfl ((by rw [decide_eq_true (by omega)] : (.bool (decide ((-((k : Nat) : Int)) < 0)) : Value) = _)) ?_
 refine cw_then rfl ?_
 refine cw_seq ?_
 replace HF := HF.on E
 replace LW := LW.step E XLW
 replace E := Ext.refl (Mut [(some ga)]) w
 refine cw_join (ι := ShS) (fun s => [(0, .pointer (some ⟨ga, 0, none⟩)), (1, .int .i64 (-((s.k : Nat) : Int)))]) (fun s w' => Ext (Mut [(some ga)]) w w' ∧ Blk w' ga 193 (decC s.t) ∧ (s = shA t k)) ?_ ?_
 ·
  have M1 := Ext.refl (Mut [(some ga)]) w
  have XM1 : ∀ q9, (Mut [(some ga)]) q9 → (Mut [(some ga)]) q9 ∨ w.heap.size ≤ q9 := fun _ h => Or.inl h
  refine cw_block ?_
  replace HF := HF.on E
  replace LW := LW.step E XLW
  replace M1 := M1.step E XM1
  replace E := Ext.refl (Mut [(some ga)]) w
  refine cw_loop (ι := ShS) (fun s => [(0, .pointer (some ⟨ga, 0, none⟩)), (1, .int .i64 (-((s.k : Nat) : Int)))]) (fun s w' => Ext (Mut [(some ga)]) w w' ∧ Blk w' ga 193 (decC s.t) ∧ (ShI s ∧ until_ shDone shStep s = shA t k)) (fun s => s.k) (⟨t, k⟩) ⟨rfl, rfl, trivial⟩ ⟨Ext.refl _ _, (by exact Ba), h, rfl⟩ ?_
  have LTa := (some_lt Ba.lt)
  clear Ba
  rintro s w4 ⟨M3, Ba, ⟨hI, hu⟩⟩
  have XM3 : ∀ q9, (Mut [(some ga)]) q9 → (Mut [(some ga)]) q9 ∨ w.heap.size ≤ q9 := (Mut.grow Mut.none_ (fun k e => Or.inl (Mut.head k e)))
  replace E := E.trans M3
  replace HF := HF.on E
  replace LW := LW.step E XLW
  replace M1 := M1.step E XM1
  replace E := Ext.refl (Mut [(some ga)]) w4
  clear LTa
  have hk2 := hI.k1
  have hdp2 := hI.dp
  refine cw_seq ?_
  refine cw_seq ?_
  refine cw_region ?_
  refine rs_op rfl (ow_move rfl ?_)
  refine rs_op rfl (ow_lss rfl rfl ?_)
  refine rs_nil ?_
  refine ew_next ?_
  refine cw_cond rfl (fun h1 => ?_) (fun h1 => ?_)
  ·
   have h1 : 60 < s.k := by have h1 := of_decide_eq_true h1; omega
   have hdone : shDone s = false := decide_eq_false (by omega)
   obtain ⟨hkeep, hlt⟩ := sh_keeps hI hdone
   have hst : shStep s = ⟨rshift s.t 60, s.k - 60⟩ := rfl
   rw [until_next hdone] at hu
   rw [hst] at hu hkeep
   refine cw_skip ?_
   refine ew_next ?_
   refine cw_block ?_
   refine cw_seq ?_
   refine cw_region ?_
   refine rs_op rfl (ow_move rfl ?_)
   refine rs_op rfl (ow_enter en204 rfl ((right_any _ ga 60 s.t (by decide) hI.dec hI.pos (by omega) Ba).mono ?_))
   rintro e w5 ⟨rfl, hB, hE⟩
   refine ⟨_, rfl, ?_⟩
   replace Ba := hB
   clear hB
   replace E := E.step1 hE Mut.head
   clear hE
   refine rs_nil ?_
   refine ew_next ?_
   refine cw_region ?_
   refine rs_op rfl (ow_move rfl ?_)
   refine rs_op rfl (ow_add rfl rfl (wrap_i64 (by omega)) ?_)
   refine rs_op rfl (ow_assign rfl ?_)
   refine rs_nil ?_
   refine ew_block_normal ?_
   refine ew_set 1 (.int .i64 (-((s.k - 60 : Nat) : Int))) rfl ((by congr 1; omega : (.int .i64 ((-((s.k : Nat) : Int)) + 60) : Value) = _)) ?_
   exact ew_round (ι := ShS) (s := fun s => [(0, .pointer (some ⟨ga, 0, none⟩)), (1, .int .i64 (-((s.k : Nat) : Int)))]) (R := fun s w' => Ext (Mut [(some ga)]) w w' ∧ Blk w' ga 193 (decC s.t) ∧ (ShI s ∧ until_ shDone shStep s = shA t k)) (m := fun s => s.k) (i := s) (⟨rshift s.t 60, s.k - 60⟩) (by show s.k - 60 < s.k; omega) ⟨rfl, rfl, trivial⟩ ⟨M3.step E XM3, (by exact Ba), hkeep, hu⟩
  ·
   have h1 : s.k ≤ 60 := by have h1 := of_decide_eq_false h1; omega
   have hdone : shDone s = true := decide_eq_true h1
   rw [until_stop hdone] at hu
   refine cw_exit ?_
   refine ew_then_exit ?_
   refine ew_then_exit ?_
   refine ew_block_here ?_
   exact ew_mid s ⟨rfl, rfl, trivial⟩ ⟨M1.step E XM1, (by exact Ba), hu⟩
 ·
  have LTa := (some_lt Ba.lt)
  clear Ba
  rintro s w2 ⟨M1, Ba, hs⟩
  have XM1 : ∀ q9, (Mut [(some ga)]) q9 → (Mut [(some ga)]) q9 ∨ w.heap.size ≤ q9 := (Mut.grow Mut.none_ (fun k e => Or.inl (Mut.head k e)))
  replace E := E.trans M1
  replace HF := HF.on E
  replace LW := LW.step E XLW
  replace E := Ext.refl (Mut [(some ga)]) w2
  clear LTa
  obtain ⟨hE0, hd0⟩ := sh_ends h
  rw [← hs] at hE0 hd0
  have hd0 : s.k ≤ 60 := of_decide_eq_true hd0
  have hk2 := hE0.k1
  have hdp2 := hE0.dp
  refine cw_region ?_
  refine rs_op rfl (ow_move rfl ?_)
  refine rs_op rfl (ow_move rfl ?_)
  refine rs_op rfl (ow_neg rfl (wrap_i64 (by omega)) ?_)
  refine rs_op rfl (ow_conv Tryz.underlying144 Tryz.underlying3 rfl (wrap_u64 (by omega)) ?_)
  refine rs_set 35 (.int .u64 ((s.k : Nat) : Int)) rfl ((by congr 1; omega : (.int .u64 (0 - (-((s.k : Nat) : Int))) : Value) = _)) ?_
  refine rs_op rfl (ow_enter en204 rfl ((right_any _ ga s.k s.t (by omega) hE0.dec hE0.pos (by omega) Ba).mono ?_))
  rintro e w6 ⟨rfl, hB, hE⟩
  refine ⟨_, rfl, ?_⟩
  replace Ba := hB
  clear hB
  replace E := E.step1 hE Mut.head
  clear hE
  refine rs_nil ?_
  refine ew_block_normal ?_
  refine ew_end rfl ?_
  exact ⟨rfl, by unfold shrD; rw [← hs]; exact Ba, (LW.step E XLW)⟩
theorem rup_any (ga : Nat) (t : Dec) (p : Int) (ht : DecI t) (hp : -20000000 ≤ p ∧ p ≤ 20000000) (hB : Blk w ga 193 (decC t)) :
 Calls Tryz.prog 205 #[.pointer (some ⟨ga, 0, none⟩), .int .i64 p] w fun e w' => e = .returned (.bool (rup t p)) ∧ Below w.heap.size w w' := by
 have hl := ht.len
 have hnd := ht.hn
 refine calls_cw Tryz.func205 rfl Tryz.ntmps205 rfl ?_
 have HF : Per (No) w (fun _ => True) := Per.true_
 have LW := Ext.refl (No) w
 have XLW : ∀ q9, (No) q9 → (No) q9 ∨ w.heap.size ≤ q9 := fun _ h => Or.inl h
 have E := Ext.refl (No) w
 replace HF := HF.on E
 replace LW := LW.step E XLW
 replace E := Ext.refl (No) w
 replace HF := HF.and (Per.blk hB (fun h => h.elim))
 refine cw_seq ?_
 refine cw_region ?_
 refine rs_op rfl (ow_assign rfl ?_)
 refine rs_nil ?_
 refine ew_next ?_
 refine cw_seq ?_
 refine cw_seq ?_
 refine cw_region ?_
 refine rs_op rfl (ow_move rfl ?_)
 refine rs_op rfl (ow_lss rfl rfl ?_)
 refine rs_op rfl (ow_move rfl ?_)
 refine rs_split 7 rfl (fun h1 => ?_) (fun h1 => ?_)
 ·
  have h1 := of_decide_eq_true h1
  have e : rup t p = false := by unfold rup; rw [if_pos (.inl h1)]
  refine rs_op rfl (ow_off rfl ?_)
  refine rs_op rfl (ow_off rfl ?_)
  refine rs_op rfl (ow_off rfl ?_)
  refine rs_op rfl (ow_off rfl ?_)
  refine rs_op rfl (ow_off rfl ?_)
  refine rs_op rfl (ow_off rfl ?_)
  refine rs_op rfl (ow_pickT rfl rfl ?_)
  refine rs_nil ?_
  refine ew_next ?_
  refine cw_then rfl ?_
  refine cw_seq ?_
  refine cw_region ?_
  refine rs_op rfl (ow_assign rfl ?_)
  refine rs_nil ?_
  refine ew_next ?_
  refine cw_ret ?_
  refine ew_then_ret ?_
  refine ew_ret (rs := [.tmp 4]) (vs := [_]) rfl ⟨rfl, trivial⟩ ?_
  exact ⟨by rw [e]; rfl, (LW.step E XLW).toBelow⟩
 ·
  have h1 := of_decide_eq_false h1
  refine rs_op rfl (ow_on rfl (ow_move rfl ?_))
  refine rs_op rfl (ow_on rfl (ow_move rfl ?_))
  refine rs_op rfl (ow_on rfl (ow_nilCheck rfl ?_))
  refine rs_op rfl (ow_on rfl (ow_fieldAddr Tryz.underlying193 rfl sz3 (by decide) rfl ?_))
  refine rs_op rfl (ow_on rfl (ow_loadF Tryz.underlying3 rfl rfl (HF.on E).here.2 (ndAt hl t.nd rfl) ?_))
  refine rs_op rfl (ow_on rfl (ow_geq rfl rfl ?_))
  refine rs_op rfl (ow_pickF rfl rfl ?_)
  refine rs_nil ?_
  refine ew_next ?_
  refine cw_cond rfl (fun h2 => ?_) (fun h2 => ?_)
  ·
   have h2 := of_decide_eq_true h2
   have e : rup t p = false := by unfold rup; rw [if_pos (.inr h2)]
   refine cw_seq ?_
   refine cw_region ?_
   refine rs_op rfl (ow_assign rfl ?_)
   refine rs_nil ?_
   refine ew_next ?_
   refine cw_ret ?_
   refine ew_then_ret ?_
   refine ew_ret (rs := [.tmp 4]) (vs := [_]) rfl ⟨rfl, trivial⟩ ?_
   exact ⟨by rw [e]; rfl, (LW.step E XLW).toBelow⟩
  ·
   have h2 := of_decide_eq_false h2
   have hno : ¬ (p < 0 ∨ ((t.nd : Nat) : Int) ≤ p) := by omega
   have hg := ht.dig p.toNat (by omega)
   refine cw_skip ?_
   refine ew_next ?_
   refine cw_seq ?_
   refine cw_seq ?_
   refine cw_region ?_
   refine rs_op rfl (ow_move rfl ?_)
   refine rs_op rfl (ow_move rfl ?_)
   refine rs_op rfl (ow_nilCheck rfl ?_)
   refine rs_op rfl (ow_fieldAddr Tryz.underlying193 rfl sz191 (by decide) rfl ?_)
   refine rs_op rfl (ow_indexAddrZ (j := p.toNat) Tryz.underlying191 sz5 rfl rfl (by omega) (by omega) ?_)
   refine rs_op rfl (ow_loadF Tryz.underlying5 rfl rfl (HF.on E).here.2 (dAt hl (dg t.d (p.toNat)) (p.toNat) rfl (by omega)) ?_)
   refine rs_op rfl (ow_eql rfl rfl ?_)
   refine rs_op rfl (ow_move rfl ?_)
   refine rs_split 22 rfl (fun h3 => ?_) (fun h3 => ?_)
   ·
    have h3 : dg t.d p.toNat = 53 := by have h3 := eq_of_beq h3; omega
    refine rs_op rfl (ow_on rfl (ow_move rfl ?_))
    refine rs_op rfl (ow_on rfl (ow_add rfl rfl (wrap_i64 (by omega)) ?_))
    refine rs_op rfl (ow_on rfl (ow_move rfl ?_))
    refine rs_op rfl (ow_on rfl (ow_nilCheck rfl ?_))
    refine rs_op rfl (ow_on rfl (ow_fieldAddr Tryz.underlying193 rfl sz3 (by decide) rfl ?_))
    refine rs_op rfl (ow_on rfl (ow_loadF Tryz.underlying3 rfl rfl (HF.on E).here.2 (ndAt hl t.nd rfl) ?_))
    refine rs_op rfl (ow_on rfl (ow_eql rfl rfl ?_))
    refine rs_op rfl (ow_pickT rfl rfl ?_)
    refine rs_nil ?_
    refine ew_next ?_
    refine cw_cond rfl (fun h4 => ?_) (fun h4 => ?_)
    ·
     have h4 : p + 1 = ((t.nd : Nat) : Int) := eq_of_beq h4
     have e0 : rup t p = (if t.tr then true else if 0 < p then decide ((dg t.d (p.toNat - 1) - 48) % 2 ≠ 0) else false) := by unfold rup; rw [if_neg hno, if_pos ⟨h3, h4⟩]
     refine cw_seq ?_
     refine cw_seq ?_
     refine cw_region ?_
     refine rs_op rfl (ow_move rfl ?_)
     refine rs_op rfl (ow_nilCheck rfl ?_)
     refine rs_op rfl (ow_fieldAddr Tryz.underlying193 rfl sz4 (by decide) rfl ?_)
     refine rs_op rfl (ow_loadF Tryz.underlying4 rfl rfl (HF.on E).here.2 (trAt hl t.tr rfl) ?_)
     refine rs_nil ?_
     refine ew_next ?_
     refine cw_cond rfl (fun h5 => ?_) (fun h5 => ?_)
     ·
      have e : rup t p = true := by rw [e0, if_pos h5]
      refine cw_seq ?_
      refine cw_region ?_
      refine rs_op rfl (ow_assign rfl ?_)
      refine rs_nil ?_
      refine ew_next ?_
      refine cw_ret ?_
      refine ew_then_ret ?_
      refine ew_then_ret ?_
      refine ew_ret (rs := [.tmp 4]) (vs := [_]) rfl ⟨rfl, trivial⟩ ?_
      exact ⟨by rw [e]; rfl, (LW.step E XLW).toBelow⟩
     ·
      refine cw_skip ?_
      refine ew_next ?_
      refine cw_seq ?_
      refine cw_region ?_
      refine rs_op rfl (ow_move rfl ?_)
      refine rs_op rfl (ow_gtr rfl rfl ?_)
      refine rs_op rfl (ow_move rfl ?_)
      refine rs_split 37 rfl (fun h6 => ?_) (fun h6 => ?_)
      ·
       have h6 := of_decide_eq_true h6
       have hg2 := ht.dig (p.toNat - 1) (by omega)
       have e : rup t p = decide ((dg t.d (p.toNat - 1) - 48) % 2 ≠ 0) := by rw [e0, if_neg (by rw [h5]; decide), if_pos h6]
       refine rs_op rfl (ow_on rfl (ow_move rfl ?_))
       refine rs_op rfl (ow_on rfl (ow_move rfl ?_))
       refine rs_op rfl (ow_on rfl (ow_sub rfl rfl (wrap_i64 (by omega)) ?_))
       refine rs_op rfl (ow_on rfl (ow_nilCheck rfl ?_))
       refine rs_op rfl (ow_on rfl (ow_fieldAddr Tryz.underlying193 rfl sz191 (by decide) rfl ?_))
       refine rs_op rfl (ow_on rfl (ow_indexAddrZ (j := p.toNat - 1) Tryz.underlying191 sz5 rfl rfl (by omega) (by omega) ?_))
       refine rs_op rfl (ow_on rfl (ow_loadF Tryz.underlying5 rfl rfl (HF.on E).here.2 (dAt hl (dg t.d (p.toNat - 1)) (p.toNat - 1) rfl (by omega)) ?_))
       refine rs_op rfl (ow_on rfl (ow_sub rfl rfl (wrap_u8 (by omega)) ?_))
       refine rs_set 45 (.int .u8 ((dg t.d (p.toNat - 1) - 48 : Nat) : Int)) rfl ((by congr 1; omega : (.int .u8 (((dg t.d (p.toNat - 1) : Nat) : Int) - 48) : Value) = _)) ?_
       refine rs_op rfl (ow_on rfl (ow_rem rfl rfl (by decide) (Int.tmod_eq_emod_of_nonneg (by omega)) ?_))
       refine rs_op rfl (ow_on rfl (ow_neq rfl rfl ?_))
       refine rs_op rfl (ow_pickT rfl rfl ?_)
       refine rs_op rfl (ow_assign rfl ?_)
       refine rs_nil ?_
       refine ew_next ?_
       refine cw_ret ?_
       refine ew_then_ret ?_
       refine ew_set 4 (.bool (decide ((dg t.d (p.toNat - 1) - 48) % 2 ≠ 0))) rfl (par_ne _) ?_
       refine ew_ret (rs := [.tmp 4]) (vs := [_]) rfl ⟨rfl, trivial⟩ ?_
       exact ⟨by rw [e]; rfl, (LW.step E XLW).toBelow⟩
      ·
       have h6 := of_decide_eq_false h6
       have e : rup t p = false := by rw [e0, if_neg (by rw [h5]; decide), if_neg h6]
       refine rs_op rfl (ow_off rfl ?_)
       refine rs_op rfl (ow_off rfl ?_)
       refine rs_op rfl (ow_off rfl ?_)
       refine rs_op rfl (ow_off rfl ?_)
       refine rs_op rfl (ow_off rfl ?_)
       refine rs_op rfl (ow_off rfl ?_)
       refine rs_op rfl (ow_off rfl ?_)
       refine rs_op rfl (ow_off rfl ?_)
       refine rs_op rfl (ow_off rfl ?_)
       refine rs_op rfl (ow_off rfl ?_)
       refine rs_op rfl (ow_pickF rfl rfl ?_)
       refine rs_op rfl (ow_assign rfl ?_)
       refine rs_nil ?_
       refine ew_next ?_
       refine cw_ret ?_
       refine ew_then_ret ?_
       refine ew_ret (rs := [.tmp 4]) (vs := [_]) rfl ⟨rfl, trivial⟩ ?_
       exact ⟨by rw [e]; rfl, (LW.step E XLW).toBelow⟩
    ·
     have h4 : ¬ p + 1 = ((t.nd : Nat) : Int) := fun e => absurd h4 (by rw [e]; simp)
     have e : rup t p = decide (53 ≤ dg t.d p.toNat) := by unfold rup; rw [if_neg hno, if_neg (fun h => h4 h.2)]
     refine cw_skip ?_
     refine ew_next ?_
     refine cw_seq ?_
     refine cw_region ?_
     refine rs_op rfl (ow_move rfl ?_)
     refine rs_op rfl (ow_move rfl ?_)
     refine rs_op rfl (ow_nilCheck rfl ?_)
     refine rs_op rfl (ow_fieldAddr Tryz.underlying193 rfl sz191 (by decide) rfl ?_)
     refine rs_op rfl (ow_indexAddrZ (j := p.toNat) Tryz.underlying191 sz5 rfl rfl (by omega) (by omega) ?_)
     refine rs_op rfl (ow_loadF Tryz.underlying5 rfl rfl (HF.on E).here.2 (dAt hl (dg t.d (p.toNat)) (p.toNat) rfl (by omega)) ?_)
     refine rs_op rfl (ow_geq rfl rfl ?_)
     refine rs_op rfl (ow_assign rfl ?_)
     refine rs_nil ?_
     refine ew_next ?_
     refine cw_ret ?_
     refine ew_set 4 (.bool (decide (53 ≤ dg t.d p.toNat))) rfl (bool_dec (by omega)) ?_
     refine ew_ret (rs := [.tmp 4]) (vs := [_]) rfl ⟨rfl, trivial⟩ ?_
     exact ⟨by rw [e]; rfl, (LW.step E XLW).toBelow⟩
   ·
    have h3 : ¬ dg t.d p.toNat = 53 := fun e => absurd h3 (by rw [e]; decide)
    have e : rup t p = decide (53 ≤ dg t.d p.toNat) := by unfold rup; rw [if_neg hno, if_neg (fun h => h3 h.1)]
    refine rs_op rfl (ow_off rfl ?_)
    refine rs_op rfl (ow_off rfl ?_)
    refine rs_op rfl (ow_off rfl ?_)
    refine rs_op rfl (ow_off rfl ?_)
    refine rs_op rfl (ow_off rfl ?_)
    refine rs_op rfl (ow_off rfl ?_)
    refine rs_op rfl (ow_off rfl ?_)
    refine rs_op rfl (ow_pickF rfl rfl ?_)
    refine rs_nil ?_
    refine ew_next ?_
    refine cw_else rfl ?_
    refine cw_skip ?_
    refine ew_next ?_
    refine cw_seq ?_
    refine cw_region ?_
    refine rs_op rfl (ow_move rfl ?_)
    refine rs_op rfl (ow_move rfl ?_)
    refine rs_op rfl (ow_nilCheck rfl ?_)
    refine rs_op rfl (ow_fieldAddr Tryz.underlying193 rfl sz191 (by decide) rfl ?_)
    refine rs_op rfl (ow_indexAddrZ (j := p.toNat) Tryz.underlying191 sz5 rfl rfl (by omega) (by omega) ?_)
    refine rs_op rfl (ow_loadF Tryz.underlying5 rfl rfl (HF.on E).here.2 (dAt hl (dg t.d (p.toNat)) (p.toNat) rfl (by omega)) ?_)
    refine rs_op rfl (ow_geq rfl rfl ?_)
    refine rs_op rfl (ow_assign rfl ?_)
    refine rs_nil ?_
    refine ew_next ?_
    refine cw_ret ?_
    refine ew_set 4 (.bool (decide (53 ≤ dg t.d p.toNat))) rfl (bool_dec (by omega)) ?_
    refine ew_ret (rs := [.tmp 4]) (vs := [_]) rfl ⟨rfl, trivial⟩ ?_
    exact ⟨by rw [e]; rfl, (LW.step E XLW).toBelow⟩
theorem rint_any (ga : Nat) (t : Dec) (ht : DecI t) (hp : -20000000 ≤ t.dp ∧ t.dp ≤ 20000000) (hB : Blk w ga 193 (decC t)) :
 Calls Tryz.prog 216 #[.pointer (some ⟨ga, 0, none⟩)] w fun e w' => e = .returned (.int .u64 ((roundD t : Nat) : Int)) ∧ Below w.heap.size w w' := by
 have hl := ht.len
 have hnd := ht.hn
 refine calls_cw Tryz.func216 rfl Tryz.ntmps216 rfl ?_
 have HF : Per (No) w (fun _ => True) := Per.true_
 have LW := Ext.refl (No) w
 have XLW : ∀ q9, (No) q9 → (No) q9 ∨ w.heap.size ≤ q9 := fun _ h => Or.inl h
 have E := Ext.refl (No) w
 replace HF := HF.on E
 replace LW := LW.step E XLW
 replace E := Ext.refl (No) w
 replace HF := HF.and (Per.blk hB (fun h => h.elim))
 refine cw_seq ?_
 refine cw_region ?_
 refine rs_op rfl (ow_assign rfl ?_)
 refine rs_nil ?_
 refine ew_next ?_
 refine cw_seq ?_
 refine cw_seq ?_
 refine cw_region ?_
 refine rs_op rfl (ow_move rfl ?_)
 refine rs_op rfl (ow_nilCheck rfl ?_)
 refine rs_op rfl (ow_fieldAddr Tryz.underlying193 rfl sz3 (by decide) rfl ?_)
 refine rs_op rfl (ow_loadF Tryz.underlying3 rfl rfl (HF.on E).here.2 (dpAt hl t.dp rfl) ?_)
 refine rs_op rfl (ow_gtr rfl rfl ?_)
 refine rs_nil ?_
 refine ew_next ?_
 refine cw_cond rfl (fun h1 => ?_) (fun h1 => ?_)
 ·
  have h1 := of_decide_eq_true h1
  have e : roundD t = 18446744073709551615 := by unfold roundD; rw [if_pos h1]
  refine cw_seq ?_
  refine cw_region ?_
  refine rs_op rfl (ow_assign rfl ?_)
  refine rs_nil ?_
  refine ew_next ?_
  refine cw_ret ?_
  refine ew_then_ret ?_
  refine ew_ret (rs := [.tmp 2]) (vs := [_]) rfl ⟨rfl, trivial⟩ ?_
  exact ⟨by rw [e]; rfl, (LW.step E XLW).toBelow⟩
 ·
  have h1 := of_decide_eq_false h1
  have hp20 : t.dp ≤ 20 := by omega
  refine cw_skip ?_
  refine ew_next ?_
  refine cw_seq ?_
  refine cw_region ?_
  refine rs_op rfl (ow_assign rfl ?_)
  refine rs_nil ?_
  refine ew_next ?_
  refine cw_seq ?_
  refine cw_region ?_
  refine rs_op rfl (ow_assign rfl ?_)
  refine rs_nil ?_
  refine ew_next ?_
  refine cw_seq ?_
  refine cw_seq ?_
  refine cw_region ?_
  refine rs_op rfl (ow_assign rfl ?_)
  refine rs_nil ?_
  refine ew_next ?_
  replace HF := HF.on E
  replace LW := LW.step E XLW
  replace E := Ext.refl (No) w
  refine cw_join (ι := RsS) (fun s => [(0, .pointer (some ⟨ga, 0, none⟩)), (3, .int .i64 ((s.r : Nat) : Int)), (4, .int .u64 ((s.n : Nat) : Int))]) (fun s w' => Ext (No) w w' ∧ (s = riA t)) ?_ ?_
  ·
   have M1 := Ext.refl (No) w
   have XM1 : ∀ q9, (No) q9 → (No) q9 ∨ w.heap.size ≤ q9 := fun _ h => Or.inl h
   refine cw_block ?_
   replace HF := HF.on E
   replace LW := LW.step E XLW
   replace M1 := M1.step E XM1
   replace E := Ext.refl (No) w
   refine cw_loop (ι := RsS) (fun s => [(0, .pointer (some ⟨ga, 0, none⟩)), (3, .int .i64 ((s.r : Nat) : Int)), (4, .int .u64 ((s.n : Nat) : Int))]) (fun s w' => Ext (No) w w' ∧ (RiI s ∧ until_ (riDoneA t) (riStepA t) s = riA t)) (fun s => 20 - s.r) (⟨0, 0⟩) ⟨rfl, rfl, rfl, trivial⟩ ⟨Ext.refl _ _, ⟨Nat.zero_le _, by decide⟩, rfl⟩ ?_
   rintro s w4 ⟨M3, ⟨hI, hu⟩⟩
   have XM3 : ∀ q9, (No) q9 → (No) q9 ∨ w.heap.size ≤ q9 := fun _ h => Or.inl h
   replace E := E.trans M3
   replace HF := HF.on E
   replace LW := LW.step E XLW
   replace M1 := M1.step E XM1
   replace E := Ext.refl (No) w4
   have hr := hI.hr
   have hn := hI.hn
   refine cw_seq ?_
   refine cw_seq ?_
   refine cw_region ?_
   refine rs_op rfl (ow_move rfl ?_)
   refine rs_op rfl (ow_move rfl ?_)
   refine rs_op rfl (ow_nilCheck rfl ?_)
   refine rs_op rfl (ow_fieldAddr Tryz.underlying193 rfl sz3 (by decide) rfl ?_)
   refine rs_op rfl (ow_loadF Tryz.underlying3 rfl rfl (HF.on E).here.2 (dpAt hl t.dp rfl) ?_)
   refine rs_op rfl (ow_lss rfl rfl ?_)
   refine rs_op rfl (ow_move rfl ?_)
   refine rs_split 16 rfl (fun h2 => ?_) (fun h2 => ?_)
   ·
    have h2 := of_decide_eq_true h2
    refine rs_op rfl (ow_on rfl (ow_move rfl ?_))
    refine rs_op rfl (ow_on rfl (ow_move rfl ?_))
    refine rs_op rfl (ow_on rfl (ow_nilCheck rfl ?_))
    refine rs_op rfl (ow_on rfl (ow_fieldAddr Tryz.underlying193 rfl sz3 (by decide) rfl ?_))
    refine rs_op rfl (ow_on rfl (ow_loadF Tryz.underlying3 rfl rfl (HF.on E).here.2 (ndAt hl t.nd rfl) ?_))
    refine rs_op rfl (ow_on rfl (ow_lss rfl rfl ?_))
    refine rs_op rfl (ow_pickT rfl rfl ?_)
    refine rs_nil ?_
    refine ew_next ?_
    refine cw_cond rfl (fun h3 => ?_) (fun h3 => ?_)
    ·
     have h3 := of_decide_eq_true h3
     have hdone : riDoneA t s = false := decide_eq_false (fun h => h ⟨h2, by omega⟩)
     have hkeep := riA_keeps hp20 hI hdone
     have hst : riStepA t s = ⟨s.r + 1, (s.n * 10 % 18446744073709551616 + (dg t.d s.r - 48)) % 18446744073709551616⟩ := rfl
     have hg := ht.dig s.r (by omega)
     rw [until_next hdone] at hu
     rw [hst] at hu hkeep
     have hk1 := hkeep.hr
     have hk1 : s.r + 1 ≤ 20 := hk1
     refine cw_skip ?_
     refine ew_next ?_
     refine cw_seq ?_
     refine cw_block ?_
     refine cw_region ?_
     refine rs_op rfl (ow_move rfl ?_)
     refine rs_op rfl (ow_mul rfl rfl (mul10w s.n) ?_)
     refine rs_op rfl (ow_move rfl ?_)
     refine rs_op rfl (ow_move rfl ?_)
     refine rs_op rfl (ow_nilCheck rfl ?_)
     refine rs_op rfl (ow_fieldAddr Tryz.underlying193 rfl sz191 (by decide) rfl ?_)
     refine rs_op rfl (ow_indexAddrZ (j := s.r) Tryz.underlying191 sz5 rfl rfl (by omega) (by omega) ?_)
     refine rs_op rfl (ow_loadF Tryz.underlying5 rfl rfl (HF.on E).here.2 (dAt hl (dg t.d (s.r)) (s.r) rfl (by omega)) ?_)
     refine rs_op rfl (ow_sub rfl rfl (wrap_u8 (by omega)) ?_)
     refine rs_op rfl (ow_conv Tryz.underlying32 Tryz.underlying5 rfl (wrap_u64 (by omega)) ?_)
     refine rs_set 35 (.int .u64 ((dg t.d s.r - 48 : Nat) : Int)) rfl ((by congr 1; omega : (.int .u64 (((dg t.d (s.r) : Nat) : Int) - 48) : Value) = _)) ?_
     refine rs_op rfl (ow_add rfl rfl (addw _ _) ?_)
     refine rs_op rfl (ow_assign rfl ?_)
     refine rs_nil ?_
     refine ew_block_normal ?_
     refine ew_next ?_
     refine cw_region ?_
     refine rs_op rfl (ow_move rfl ?_)
     refine rs_op rfl (ow_add rfl rfl (wrap_i64 (by omega)) ?_)
     refine rs_op rfl (ow_assign rfl ?_)
     refine rs_nil ?_
     exact ew_round (ι := RsS) (s := fun s => [(0, .pointer (some ⟨ga, 0, none⟩)), (3, .int .i64 ((s.r : Nat) : Int)), (4, .int .u64 ((s.n : Nat) : Int))]) (R := fun s w' => Ext (No) w w' ∧ (RiI s ∧ until_ (riDoneA t) (riStepA t) s = riA t)) (m := fun s => 20 - s.r) (i := s) (⟨s.r + 1, (s.n * 10 % 18446744073709551616 + (dg t.d s.r - 48)) % 18446744073709551616⟩) (by show 20 - (s.r + 1) < 20 - s.r; omega) ⟨rfl, rfl, rfl, trivial⟩ ⟨M3.step E XM3, hkeep, hu⟩
    ·
     have h3 := of_decide_eq_false h3
     have hdone : riDoneA t s = true := decide_eq_true (by omega)
     rw [until_stop hdone] at hu
     refine cw_exit ?_
     refine ew_then_exit ?_
     refine ew_then_exit ?_
     refine ew_block_here ?_
     exact ew_mid s ⟨rfl, rfl, rfl, trivial⟩ ⟨M1.step E XM1, hu⟩
   ·
    have h2 := of_decide_eq_false h2
    have hdone : riDoneA t s = true := decide_eq_true (by omega)
    rw [until_stop hdone] at hu
    refine rs_op rfl (ow_off rfl ?_)
    refine rs_op rfl (ow_off rfl ?_)
    refine rs_op rfl (ow_off rfl ?_)
    refine rs_op rfl (ow_off rfl ?_)
    refine rs_op rfl (ow_off rfl ?_)
    refine rs_op rfl (ow_off rfl ?_)
    refine rs_op rfl (ow_pickF rfl rfl ?_)
    refine rs_nil ?_
    refine ew_next ?_
    refine cw_else rfl ?_
    refine cw_exit ?_
    refine ew_then_exit ?_
    refine ew_then_exit ?_
    refine ew_block_here ?_
    exact ew_mid s ⟨rfl, rfl, rfl, trivial⟩ ⟨M1.step E XM1, hu⟩
  ·
   rintro s w2 ⟨M1, hs⟩
   have XM1 : ∀ q9, (No) q9 → (No) q9 ∨ w.heap.size ≤ q9 := fun _ h => Or.inl h
   replace E := E.trans M1
   replace HF := HF.on E
   replace LW := LW.step E XLW
   replace E := Ext.refl (No) w2
   have hA := riA_ends hp20
   refine cw_seq ?_
   replace HF := HF.on E
   replace LW := LW.step E XLW
   replace E := Ext.refl (No) w2
   refine cw_join (ι := RsS) (fun x => [(0, .pointer (some ⟨ga, 0, none⟩)), (4, .int .u64 ((x.n : Nat) : Int))]) (fun x w' => Ext (No) w2 w' ∧ (x = riB t)) ?_ ?_
   ·
    have M5 := Ext.refl (No) w2
    have XM5 : ∀ q9, (No) q9 → (No) q9 ∨ w2.heap.size ≤ q9 := fun _ h => Or.inl h
    refine cw_block ?_
    replace HF := HF.on E
    replace LW := LW.step E XLW
    replace M5 := M5.step E XM5
    replace E := Ext.refl (No) w2
    refine cw_loop (ι := RsS) (fun x => [(0, .pointer (some ⟨ga, 0, none⟩)), (3, .int .i64 ((x.r : Nat) : Int)), (4, .int .u64 ((x.n : Nat) : Int))]) (fun x w' => Ext (No) w2 w' ∧ (RiI x ∧ until_ (riDoneB t) riStepB x = riB t)) (fun x => 20 - x.r) s ⟨rfl, rfl, rfl, trivial⟩ ⟨Ext.refl _ _, by rw [hs]; exact hA, by rw [hs]; rfl⟩ ?_
    rintro x w8 ⟨M7, ⟨hI, hu⟩⟩
    have XM7 : ∀ q9, (No) q9 → (No) q9 ∨ w2.heap.size ≤ q9 := fun _ h => Or.inl h
    replace E := E.trans M7
    replace HF := HF.on E
    replace LW := LW.step E XLW
    replace M5 := M5.step E XM5
    replace E := Ext.refl (No) w8
    have hr := hI.hr
    have hn := hI.hn
    refine cw_seq ?_
    refine cw_seq ?_
    refine cw_region ?_
    refine rs_op rfl (ow_move rfl ?_)
    refine rs_op rfl (ow_move rfl ?_)
    refine rs_op rfl (ow_nilCheck rfl ?_)
    refine rs_op rfl (ow_fieldAddr Tryz.underlying193 rfl sz3 (by decide) rfl ?_)
    refine rs_op rfl (ow_loadF Tryz.underlying3 rfl rfl (HF.on E).here.2 (dpAt hl t.dp rfl) ?_)
    refine rs_op rfl (ow_lss rfl rfl ?_)
    refine rs_nil ?_
    refine ew_next ?_
    refine cw_cond rfl (fun h2 => ?_) (fun h2 => ?_)
    ·
     have h2 := of_decide_eq_true h2
     have hdone : riDoneB t x = false := decide_eq_false (fun h => h h2)
     have hkeep := riB_keeps hp20 hI hdone
     have hst : riStepB x = ⟨x.r + 1, x.n * 10 % 18446744073709551616⟩ := rfl
     rw [until_next hdone] at hu
     rw [hst] at hu hkeep
     have hk1 : x.r + 1 ≤ 20 := hkeep.hr
     refine cw_skip ?_
     refine ew_next ?_
     refine cw_seq ?_
     refine cw_block ?_
     refine cw_region ?_
     refine rs_op rfl (ow_move rfl ?_)
     refine rs_op rfl (ow_mul rfl rfl (mul10w x.n) ?_)
     refine rs_op rfl (ow_assign rfl ?_)
     refine rs_nil ?_
     refine ew_block_normal ?_
     refine ew_next ?_
     refine cw_region ?_
     refine rs_op rfl (ow_move rfl ?_)
     refine rs_op rfl (ow_add rfl rfl (wrap_i64 (by omega)) ?_)
     refine rs_op rfl (ow_assign rfl ?_)
     refine rs_nil ?_
     exact ew_round (ι := RsS) (s := fun x => [(0, .pointer (some ⟨ga, 0, none⟩)), (3, .int .i64 ((x.r : Nat) : Int)), (4, .int .u64 ((x.n : Nat) : Int))]) (R := fun x w' => Ext (No) w2 w' ∧ (RiI x ∧ until_ (riDoneB t) riStepB x = riB t)) (m := fun x => 20 - x.r) (i := x) (⟨x.r + 1, x.n * 10 % 18446744073709551616⟩) (by show 20 - (x.r + 1) < 20 - x.r; omega) ⟨rfl, rfl, rfl, trivial⟩ ⟨M7.step E XM7, hkeep, hu⟩
    ·
     have h2 := of_decide_eq_false h2
     have hdone : riDoneB t x = true := decide_eq_true h2
     rw [until_stop hdone] at hu
     refine cw_exit ?_
     refine ew_then_exit ?_
     refine ew_then_exit ?_
     refine ew_block_here ?_
     exact ew_mid x ⟨rfl, rfl, trivial⟩ ⟨M5.step E XM5, hu⟩
   ·
    rintro x w6 ⟨M5, hx⟩
    have XM5 : ∀ q9, (No) q9 → (No) q9 ∨ w2.heap.size ≤ q9 := fun _ h => Or.inl h
    replace E := E.trans M5
    replace HF := HF.on E
    replace LW := LW.step E XLW
    replace E := Ext.refl (No) w6
    have hB2 := (riB_ends hp20).hn
    refine cw_seq ?_
    refine cw_seq ?_
    refine cw_region ?_
    refine rs_op rfl (ow_move rfl ?_)
    refine rs_op rfl (ow_move rfl ?_)
    refine rs_op rfl (ow_nilCheck rfl ?_)
    refine rs_op rfl (ow_fieldAddr Tryz.underlying193 rfl sz3 (by decide) rfl ?_)
    refine rs_op rfl (ow_loadF Tryz.underlying3 rfl rfl (HF.on E).here.2 (dpAt hl t.dp rfl) ?_)
    refine rs_op rfl (ow_enter en205 rfl ((rup_any _ ga t t.dp ht hp (HF.on E).here.2).mono ?_))
    rintro e w9 ⟨rfl, hb⟩
    refine ⟨_, rfl, ?_⟩
    have Ec := Ext.of_below hb No
    replace E := E.trans Ec.no
    clear hb Ec
    refine rs_nil ?_
    refine ew_next ?_
    refine cw_cond rfl (fun h3 => ?_) (fun h3 => ?_)
    ·
     have e : roundD t = ((riB t).n + 1) % 18446744073709551616 := by unfold roundD; rw [if_neg h1, if_pos h3]
     refine cw_region ?_
     refine rs_op rfl (ow_move rfl ?_)
     refine rs_op rfl (ow_add rfl rfl (addw x.n 1) ?_)
     refine rs_op rfl (ow_assign rfl ?_)
     refine rs_nil ?_
     refine ew_next ?_
     refine cw_seq ?_
     refine cw_region ?_
     refine rs_op rfl (ow_move rfl ?_)
     refine rs_op rfl (ow_assign rfl ?_)
     refine rs_nil ?_
     refine ew_next ?_
     refine cw_ret ?_
     refine ew_ret (rs := [.tmp 2]) (vs := [_]) rfl ⟨rfl, trivial⟩ ?_
     exact ⟨by rw [e, ← hx]; rfl, (LW.step E XLW).toBelow⟩
    ·
     have e : roundD t = (riB t).n := by unfold roundD; rw [if_neg h1, if_neg (by rw [h3]; decide)]
     refine cw_skip ?_
     refine ew_next ?_
     refine cw_seq ?_
     refine cw_region ?_
     refine rs_op rfl (ow_move rfl ?_)
     refine rs_op rfl (ow_assign rfl ?_)
     refine rs_nil ?_
     refine ew_next ?_
     refine cw_ret ?_
     refine ew_ret (rs := [.tmp 2]) (vs := [_]) rfl ⟨rfl, trivial⟩ ?_
     exact ⟨by rw [e, ← hx]; rfl, (LW.step E XLW).toBelow⟩
end
end Go.Proofs.YtjdcjdohghkcgaaGreatDoor

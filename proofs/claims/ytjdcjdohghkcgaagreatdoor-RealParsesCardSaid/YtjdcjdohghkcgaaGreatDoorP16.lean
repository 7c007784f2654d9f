/- The walk of strconv's decimal.set on a numeral. strconv's errors: an error beside nil; the error of a number out of range, by the shelf's contract. Numerals in the rest of a text, plain. The walk of strconv.ParseFloat on a numeral. The walks of both tests for a numeral: package real's and the document's. The walks of both readings of a text as a float: package real's Parse and the document's; RealParses. -/
import Derived.Test.YtjdcjdohghkcgaaGreatDoorP15
namespace Go.Proofs.YtjdcjdohghkcgaaGreatDoor
open Go.RowKit
set_option maxRecDepth 100000
attribute [local irreducible] OW RS
theorem putIn {s : ByteArray} {a : StS} (h1 : bAt s a.i ≠ 46) (h2 : ¬ (bAt s a.i = 48 ∧ a.t.nd = 0)) (h3 : a.t.nd < 800) : stStep s a = { a with i := a.i + 1, dig := true, t := { a.t with d := a.t.d.set a.t.nd (bAt s a.i), nd := a.t.nd + 1 } } := by
 unfold stStep; rw [if_neg h1, if_neg h2, if_pos h3]
theorem putOut {s : ByteArray} {a : StS} (h1 : bAt s a.i ≠ 46) (h2 : ¬ (bAt s a.i = 48 ∧ a.t.nd = 0)) (h3 : ¬ a.t.nd < 800) : stStep s a = { a with i := a.i + 1, dig := true, t := { a.t with tr := if bAt s a.i ≠ 48 then true else a.t.tr } } := by
 unfold stStep; rw [if_neg h1, if_neg h2, if_neg h3]
theorem pt190_1 : Gives 190 #[.int .u8 101] (.int .u8 101) := by
 intro w
 refine calls_cw Tryz.func190 rfl Tryz.ntmps190 rfl ?_
 have HF : Per (No) w (fun _ => True) := Per.true_
 have LW := Ext.refl (No) w
 have XLW : ∀ q9, (No) q9 → (No) q9 ∨ w.heap.size ≤ q9 := fun _ h => Or.inl h
 have E := Ext.refl (No) w
 refine cw_seq ?_
 refine cw_region ?_
 refine rs_op rfl (ow_assign rfl ?_)
 refine rs_nil ?_
 refine ew_next ?_
 refine cw_seq ?_
 refine cw_region ?_
 refine rs_op rfl (ow_move rfl ?_)
 refine rs_op rfl (ow_or (z := 101) rfl rfl (by kernel_rfl) ?_)
 refine rs_op rfl (ow_assign rfl ?_)
 refine rs_nil ?_
 refine ew_next ?_
 refine cw_ret ?_
 refine ew_ret (rs := [.tmp 2]) (vs := [.int .u8 101]) rfl ⟨rfl, trivial⟩ ?_
 exact ⟨rfl, (LW.step E XLW).toBelow⟩
section
variable (w : World)
theorem set_pos (ga : Nat) (s : ByteArray) {p Z q : Nat} (hs : Nm s 0 p Z q) (hl : s.size < 100000) (hB : Blk w ga 193 (decC (dec0 false))) :
 Calls Tryz.prog 179 #[.pointer (some ⟨ga, 0, none⟩), .string s] w fun e w' => e = .returned (.bool true) ∧ Blk w' ga 193 (decC (setD s 0 false)) ∧ Ext (Mut [some ga]) w w' := by
 have hfs : 0 < s.size := hs.size
 have hfd := hs.first
 have hl0 : (dec0 false).d.length = 800 := (dec0_ok false).len
 refine calls_cw Tryz.func179 rfl Tryz.ntmps179 rfl ?_
 have Ba := hB
 have HF : Per (Mut [(some ga)]) w (fun _ => True) := Per.true_
 have LW := Ext.refl (Mut [(some ga)]) w
 have XLW : ∀ q9, (Mut [(some ga)]) q9 → (Mut [(some ga)]) q9 ∨ w.heap.size ≤ q9 := fun _ h => Or.inl h
 have E := Ext.refl (Mut [(some ga)]) w
 refine cw_seq ?_
 refine cw_region ?_
 refine rs_op rfl (ow_assign rfl ?_)
 refine rs_nil ?_
 refine ew_next ?_
 refine cw_seq ?_
 refine cw_region ?_
 refine rs_op rfl (ow_assign rfl ?_)
 refine rs_nil ?_
 refine ew_next ?_
 refine cw_seq ?_
 refine cw_region ?_
 refine rs_op rfl (ow_move rfl ?_)
 refine rs_op rfl (ow_nilCheck rfl ?_)
 refine rs_op rfl (ow_fieldAddr Tryz.underlying193 rfl sz4 (by decide) rfl ?_)
 refine rs_op0 (ow_storeE sz4 rfl rfl Ba rfl rfl (in_ hl0 (by decide : 802 < 804)) (set_neg hl0 false) ?_)
 intro w1 Bx Ea
 replace Ba : Blk w1 ga 193 (decC (dec0 false)) := Bx
 clear Bx
 replace E := E.step1 Ea Mut.head
 clear Ea
 refine rs_nil ?_
 refine ew_next ?_
 refine cw_seq ?_
 refine cw_region ?_
 refine rs_op rfl (ow_move rfl ?_)
 refine rs_op rfl (ow_nilCheck rfl ?_)
 refine rs_op rfl (ow_fieldAddr Tryz.underlying193 rfl sz4 (by decide) rfl ?_)
 refine rs_op0 (ow_storeE sz4 rfl rfl Ba rfl rfl (in_ hl0 (by decide : 803 < 804)) (set_tr hl0 false) ?_)
 intro w2 Bx Ea
 replace Ba : Blk w2 ga 193 (decC (dec0 false)) := Bx
 clear Bx
 replace E := E.step1 Ea Mut.head
 clear Ea
 refine rs_nil ?_
 refine ew_next ?_
 refine cw_seq ?_
 refine cw_seq ?_
 refine cw_region ?_
 refine rs_op rfl (ow_move rfl ?_)
 refine rs_op rfl (ow_move rfl ?_)
 refine rs_op rfl (ow_lenS Tryz.underlying9 rfl ?_)
 refine rs_op rfl (ow_geq rfl rfl ?_)
 refine rs_nil ?_
 refine ew_next ?_
 refine cw_set 19 (.bool false) rfl ((by rw [decide_eq_false (by omega)] : (.bool (decide (((s.size : Nat) : Int) ≤ 0)) : Value) = _)) ?_
 refine cw_else rfl ?_
 refine cw_skip ?_
 refine ew_next ?_
 refine cw_seq ?_
 refine cw_seq ?_
 refine cw_region ?_
 refine rs_op rfl (ow_move rfl ?_)
 refine rs_op rfl (ow_move rfl ?_)
 refine rs_op rfl (ow_indexSL (j := 0) (b := bAt s 0) Tryz.underlying9 rfl rfl rfl (bAt_some hfs) ?_)
 refine rs_nil ?_
 refine ew_next ?_
 refine cw_block ?_
 refine cw_seq ?_
 refine cw_region ?_
 refine rs_op rfl (ow_eql rfl rfl ?_)
 refine rs_op rfl (ow_assign rfl ?_)
 refine rs_nil ?_
 refine ew_next ?_
 refine cw_set 23 (.bool false) rfl ((by rw [beq_no (by omega)] : (.bool (((bAt s 0 : Nat) : Int) == 43) : Value) = _)) ?_
 refine cw_else rfl ?_
 refine cw_seq ?_
 refine cw_region ?_
 refine rs_op rfl (ow_eql rfl rfl ?_)
 refine rs_op rfl (ow_assign rfl ?_)
 refine rs_nil ?_
 refine ew_next ?_
 refine cw_set 27 (.bool false) rfl ((by rw [beq_no (by omega)] : (.bool (((bAt s 0 : Nat) : Int) == 45) : Value) = _)) ?_
 refine cw_else rfl ?_
 refine cw_skip ?_
 refine ew_block_normal ?_
 refine ew_next ?_
 refine cw_seq ?_
 refine cw_region ?_
 refine rs_op rfl (ow_assign rfl ?_)
 refine rs_nil ?_
 refine ew_next ?_
 refine cw_seq ?_
 refine cw_region ?_
 refine rs_op rfl (ow_assign rfl ?_)
 refine rs_nil ?_
 refine ew_next ?_
 refine cw_seq ?_
 replace HF := HF.on E
 replace LW := LW.step E XLW
 replace E := Ext.refl (Mut [(some ga)]) w2
 refine cw_join (ι := StS) (fun x => [(0, .pointer (some ⟨ga, 0, none⟩)), (1, .string s), (4, .bool false), (5, .int .i64 ((x.i : Nat) : Int)), (6, .bool x.dot), (7, .bool x.dig)]) (fun x w' => Ext (Mut [(some ga)]) w2 w' ∧ Blk w' ga 193 (decC x.t) ∧ (x = stA s 0 false)) ?_ ?_
 ·
  have M3 := Ext.refl (Mut [(some ga)]) w2
  have XM3 : ∀ q9, (Mut [(some ga)]) q9 → (Mut [(some ga)]) q9 ∨ w2.heap.size ≤ q9 := fun _ h => Or.inl h
  refine cw_block ?_
  replace HF := HF.on E
  replace LW := LW.step E XLW
  replace M3 := M3.step E XM3
  replace E := Ext.refl (Mut [(some ga)]) w2
  refine cw_loop (ι := StS) (fun x => [(0, .pointer (some ⟨ga, 0, none⟩)), (1, .string s), (4, .bool false), (5, .int .i64 ((x.i : Nat) : Int)), (6, .bool x.dot), (7, .bool x.dig)]) (fun x w' => Ext (Mut [(some ga)]) w2 w' ∧ Blk w' ga 193 (decC x.t) ∧ (StN s 0 p Z q x ∧ until_ (stDone s) (stStep s) x = stA s 0 false)) (fun x => Z - x.i) (⟨0, false, false, dec0 false⟩) ⟨rfl, rfl, rfl, rfl, rfl, rfl, trivial⟩ ⟨Ext.refl _ _, (by exact Ba), stN_start false hs, rfl⟩ ?_
  have LTa := (some_lt Ba.lt)
  clear Ba
  rintro x w6 ⟨M5, Ba, ⟨hI, hu⟩⟩
  have XM5 : ∀ q9, (Mut [(some ga)]) q9 → (Mut [(some ga)]) q9 ∨ w2.heap.size ≤ q9 := (Mut.grow Mut.none_ (fun k e => Or.inl (Mut.head k e)))
  replace E := E.trans M5
  replace HF := HF.on E
  replace LW := LW.step E XLW
  replace M3 := M3.step E XM3
  replace E := Ext.refl (Mut [(some ga)]) w6
  clear LTa
  have hlx := hI.dec.len
  have hnx := hI.dec.hn
  have hsE := hs.hE
  have hiE := hI.iE
  have hfi := hI.fi
  have hpp := hI.hp
  refine cw_seq ?_
  refine cw_seq ?_
  refine cw_region ?_
  refine rs_op rfl (ow_move rfl ?_)
  refine rs_op rfl (ow_move rfl ?_)
  refine rs_op rfl (ow_lenS Tryz.underlying9 rfl ?_)
  refine rs_op rfl (ow_lss rfl rfl ?_)
  refine rs_nil ?_
  refine ew_next ?_
  refine cw_cond rfl (fun h1 => ?_) (fun h1 => ?_)
  ·
   have h1 : x.i < s.size := by have h1 := of_decide_eq_true h1; omega
   refine cw_skip ?_
   refine ew_next ?_
   refine cw_seq ?_
   refine cw_block ?_
   refine cw_seq ?_
   refine cw_block ?_
   refine cw_seq ?_
   refine cw_region ?_
   refine rs_op rfl (ow_move rfl ?_)
   refine rs_op rfl (ow_move rfl ?_)
   refine rs_op rfl (ow_indexSL (j := x.i) (b := bAt s (x.i)) Tryz.underlying9 rfl rfl rfl (bAt_some (by omega)) ?_)
   by_cases hE2 : x.i < Z
   ·
    have hdone := stN_cont hs hI hE2
    have hkeep := (stN_keeps hs hI hdone).1
    have hu2 := hu
    rw [until_next hdone] at hu2
    have hc := hs.at_ hfi hE2
    have hb := bAt_lt s x.i
    refine rs_op rfl (ow_eql rfl rfl ?_)
    refine rs_op rfl (ow_assign rfl ?_)
    refine rs_nil ?_
    refine ew_next ?_
    refine cw_set 40 (.bool false) rfl ((by rw [beq_no (by omega)] : (.bool (((bAt s (x.i) : Nat) : Int) == 95) : Value) = _)) ?_
    refine cw_else rfl ?_
    refine cw_seq ?_
    refine cw_region ?_
    refine rs_op rfl (ow_move rfl ?_)
    refine rs_op rfl (ow_move rfl ?_)
    refine rs_op rfl (ow_indexSL (j := x.i) (b := bAt s (x.i)) Tryz.underlying9 rfl rfl rfl (bAt_some (by omega)) ?_)
    refine rs_op rfl (ow_eql rfl rfl ?_)
    refine rs_op rfl (ow_assign rfl ?_)
    refine rs_nil ?_
    refine ew_next ?_
    by_cases hdot : bAt s x.i = 46
    ·
     have hstep : stStep s x = { x with i := x.i + 1, dot := true, t := { x.t with dp := ((x.t.nd : Nat) : Int) } } := by unfold stStep; rw [if_pos hdot]
     have hnodot : x.dot = false := by
      rcases hc with ⟨_, h3⟩ | ⟨h3, _⟩
      · omega
      · cases h4 : x.dot with
        | false => rfl
        | true => have := hI.dt h4; omega
     rw [hstep] at hkeep hu2
     refine cw_set 45 (.bool true) rfl ((by rw [hdot]; rfl : (.bool (((bAt s (x.i) : Nat) : Int) == 46) : Value) = _)) ?_
     refine cw_then rfl ?_
     refine cw_seq ?_
     refine cw_seq ?_
     refine cw_region ?_
     refine rs_op rfl (ow_move rfl ?_)
     refine rs_nil ?_
     refine ew_next ?_
     refine cw_set 50 (.bool false) rfl ((by rw [hnodot] : (.bool x.dot : Value) = _)) ?_
     refine cw_else rfl ?_
     refine cw_skip ?_
     refine ew_next ?_
     refine cw_seq ?_
     refine cw_region ?_
     refine rs_op rfl (ow_assign rfl ?_)
     refine rs_nil ?_
     refine ew_next ?_
     refine cw_seq ?_
     refine cw_region ?_
     refine rs_op rfl (ow_move rfl ?_)
     refine rs_op rfl (ow_move rfl ?_)
     refine rs_op rfl (ow_nilCheck rfl ?_)
     refine rs_op rfl (ow_fieldAddr Tryz.underlying193 rfl sz3 (by decide) rfl ?_)
     refine rs_op rfl (ow_loadF Tryz.underlying3 rfl rfl Ba (ndAt hlx (x.t.nd) rfl) ?_)
     refine rs_op rfl (ow_nilCheck rfl ?_)
     refine rs_op rfl (ow_fieldAddr Tryz.underlying193 rfl sz3 (by decide) rfl ?_)
     refine rs_op0 (ow_storeE sz3 rfl rfl Ba rfl rfl (in_ hlx (by decide : 801 < 804)) (set_dp hlx ((x.t.nd : Nat) : Int)) ?_)
     intro w7 Bx Ea
     replace Ba : Blk w7 ga 193 (decC { x.t with dp := ((x.t.nd : Nat) : Int) }) := Bx
     clear Bx
     replace E := E.step1 Ea Mut.head
     clear Ea
     refine rs_nil ?_
     refine ew_next ?_
     refine cw_exit ?_
     refine ew_block_past rfl ?_
     refine ew_then_exit ?_
     refine ew_block_here ?_
     refine ew_next ?_
     refine cw_region ?_
     refine rs_op rfl (ow_move rfl ?_)
     refine rs_op rfl (ow_add rfl rfl (wrap_i64 (by omega)) ?_)
     refine rs_op rfl (ow_assign rfl ?_)
     refine rs_nil ?_
     refine ew_set 5 (.int .i64 ((x.i + 1 : Nat) : Int)) rfl (rfl) ?_
     exact ew_round (ι := StS) (s := fun x => [(0, .pointer (some ⟨ga, 0, none⟩)), (1, .string s), (4, .bool false), (5, .int .i64 ((x.i : Nat) : Int)), (6, .bool x.dot), (7, .bool x.dig)]) (R := fun x w' => Ext (Mut [(some ga)]) w2 w' ∧ Blk w' ga 193 (decC x.t) ∧ (StN s 0 p Z q x ∧ until_ (stDone s) (stStep s) x = stA s 0 false)) (m := fun x => Z - x.i) (i := x) ({ x with i := x.i + 1, dot := true, t := { x.t with dp := ((x.t.nd : Nat) : Int) } }) (by show Z - (x.i + 1) < Z - x.i; omega) ⟨rfl, rfl, rfl, rfl, rfl, rfl, trivial⟩ ⟨M5.step E XM5, (by exact Ba), hkeep, hu2⟩
    ·
     have hc : 48 ≤ bAt s x.i ∧ bAt s x.i ≤ 57 := by omega
     refine cw_set 45 (.bool false) rfl ((by rw [beq_no (by omega)] : (.bool (((bAt s (x.i) : Nat) : Int) == 46) : Value) = _)) ?_
     refine cw_else rfl ?_
     refine cw_seq ?_
     refine cw_region ?_
     refine rs_op rfl (ow_move rfl ?_)
     refine rs_op rfl (ow_move rfl ?_)
     refine rs_op rfl (ow_indexSL (j := x.i) (b := bAt s (x.i)) Tryz.underlying9 rfl rfl rfl (bAt_some (by omega)) ?_)
     refine rs_op rfl (ow_leq rfl rfl ?_)
     refine rs_op rfl (ow_move rfl ?_)
     refine rs_set 63 (.bool true) rfl ((by rw [decide_eq_true (by omega)] : (.bool (decide (48 ≤ ((bAt s (x.i) : Nat) : Int))) : Value) = _)) ?_
     refine rs_op rfl (ow_on rfl (ow_move rfl ?_))
     refine rs_op rfl (ow_on rfl (ow_move rfl ?_))
     refine rs_op rfl (ow_on rfl (ow_indexSL (j := x.i) (b := bAt s (x.i)) Tryz.underlying9 rfl rfl rfl (bAt_some (by omega)) ?_))
     refine rs_op rfl (ow_on rfl (ow_leq rfl rfl ?_))
     refine rs_op rfl (ow_pickT rfl rfl ?_)
     refine rs_op rfl (ow_assign rfl ?_)
     refine rs_nil ?_
     refine ew_next ?_
     refine cw_set 58 (.bool true) rfl ((by rw [decide_eq_true (by omega)] : (.bool (decide (((bAt s (x.i) : Nat) : Int) ≤ 57)) : Value) = _)) ?_
     refine cw_then rfl ?_
     refine cw_seq ?_
     refine cw_region ?_
     refine rs_op rfl (ow_assign rfl ?_)
     refine rs_nil ?_
     refine ew_next ?_
     refine cw_seq ?_
     refine cw_seq ?_
     refine cw_region ?_
     refine rs_op rfl (ow_move rfl ?_)
     refine rs_op rfl (ow_move rfl ?_)
     refine rs_op rfl (ow_indexSL (j := x.i) (b := bAt s (x.i)) Tryz.underlying9 rfl rfl rfl (bAt_some (by omega)) ?_)
     refine rs_op rfl (ow_eql rfl rfl ?_)
     refine rs_op rfl (ow_move rfl ?_)
     refine rs_split 73 rfl (fun h3 => ?_) (fun h3 => ?_)
     ·
      have h3 : bAt s x.i = 48 := by have h3 := eq_of_beq h3; omega
      refine rs_op rfl (ow_on rfl (ow_move rfl ?_))
      refine rs_op rfl (ow_on rfl (ow_nilCheck rfl ?_))
      refine rs_op rfl (ow_on rfl (ow_fieldAddr Tryz.underlying193 rfl sz3 (by decide) rfl ?_))
      refine rs_op rfl (ow_on rfl (ow_loadF Tryz.underlying3 rfl rfl Ba (ndAt hlx (x.t.nd) rfl) ?_))
      refine rs_op rfl (ow_on rfl (ow_eql rfl rfl ?_))
      refine rs_op rfl (ow_pickT rfl rfl ?_)
      refine rs_nil ?_
      refine ew_next ?_
      refine cw_cond rfl (fun h4 => ?_) (fun h4 => ?_)
      ·
       have h4 : x.t.nd = 0 := by have h4 := eq_of_beq h4; omega
       have hstep : stStep s x = { x with i := x.i + 1, dig := true, t := { x.t with dp := x.t.dp - 1 } } := by unfold stStep; rw [if_neg hdot, if_pos ⟨h3, h4⟩]
       rw [hstep] at hkeep hu2
       refine cw_seq ?_
       refine cw_region ?_
       refine rs_op rfl (ow_move rfl ?_)
       refine rs_op rfl (ow_nilCheck rfl ?_)
       refine rs_op rfl (ow_fieldAddr Tryz.underlying193 rfl sz3 (by decide) rfl ?_)
       refine rs_op rfl (ow_loadF Tryz.underlying3 rfl rfl Ba (dpAt hlx x.t.dp rfl) ?_)
       refine rs_op rfl (ow_sub rfl rfl (wrap_i64 (by omega)) ?_)
       refine rs_op rfl (ow_nilCheck rfl ?_)
       refine rs_op rfl (ow_fieldAddr Tryz.underlying193 rfl sz3 (by decide) rfl ?_)
       refine rs_op0 (ow_storeE sz3 rfl rfl Ba rfl rfl (in_ hlx (by decide : 801 < 804)) (set_dp hlx (x.t.dp - 1)) ?_)
       intro w8 Bx Ea
       replace Ba : Blk w8 ga 193 (decC { x.t with dp := x.t.dp - 1 }) := Bx
       clear Bx
       replace E := E.step1 Ea Mut.head
       clear Ea
       refine rs_nil ?_
       refine ew_next ?_
       refine cw_exit ?_
       refine ew_then_exit ?_
       refine ew_block_past rfl ?_
       refine ew_then_exit ?_
       refine ew_block_here ?_
       refine ew_next ?_
       refine cw_region ?_
       refine rs_op rfl (ow_move rfl ?_)
       refine rs_op rfl (ow_add rfl rfl (wrap_i64 (by omega)) ?_)
       refine rs_op rfl (ow_assign rfl ?_)
       refine rs_nil ?_
       refine ew_set 5 (.int .i64 ((x.i + 1 : Nat) : Int)) rfl (rfl) ?_
       exact ew_round (ι := StS) (s := fun x => [(0, .pointer (some ⟨ga, 0, none⟩)), (1, .string s), (4, .bool false), (5, .int .i64 ((x.i : Nat) : Int)), (6, .bool x.dot), (7, .bool x.dig)]) (R := fun x w' => Ext (Mut [(some ga)]) w2 w' ∧ Blk w' ga 193 (decC x.t) ∧ (StN s 0 p Z q x ∧ until_ (stDone s) (stStep s) x = stA s 0 false)) (m := fun x => Z - x.i) (i := x) ({ x with i := x.i + 1, dig := true, t := { x.t with dp := x.t.dp - 1 } }) (by show Z - (x.i + 1) < Z - x.i; omega) ⟨rfl, rfl, rfl, rfl, rfl, rfl, trivial⟩ ⟨M5.step E XM5, (by exact Ba), hkeep, hu2⟩
      ·
       have hnz : ¬ (bAt s x.i = 48 ∧ x.t.nd = 0) := fun h => absurd h4 (by rw [h.2]; decide)
       refine cw_skip ?_
       refine ew_next ?_
       refine cw_seq ?_
       refine cw_seq ?_
       refine cw_region ?_
       refine rs_op rfl (ow_move rfl ?_)
       refine rs_op rfl (ow_nilCheck rfl ?_)
       refine rs_op rfl (ow_fieldAddr Tryz.underlying193 rfl sz3 (by decide) rfl ?_)
       refine rs_op rfl (ow_loadF Tryz.underlying3 rfl rfl Ba (ndAt hlx (x.t.nd) rfl) ?_)
       refine rs_op rfl (ow_lss rfl rfl ?_)
       refine rs_nil ?_
       refine ew_next ?_
       refine cw_cond rfl (fun h5 => ?_) (fun h5 => ?_)
       ·
        have h5 : x.t.nd < 800 := by have h5 := of_decide_eq_true h5; omega
        have hst := putIn hdot hnz h5
        have hst2 : (x.t.d.set x.t.nd (bAt s x.i)).length = 800 := by rw [List.length_set]; exact hlx
        have hly : ({ x.t with d := x.t.d.set x.t.nd (bAt s x.i) } : Dec).d.length = 800 := hst2
        rw [hst] at hkeep hu2
        refine cw_seq ?_
        have OY : ∀ q9, (Mut (outM [])) q9 → q9 < (World.drew w6).heap.size → (Mut [(some ga)]) q9 := fun k h _ => (Mut.none_) k h
        refine cw_any mixed (ak_cut 11 rfl ?_)
        refine aw_drawn (Mut [(some ga)]) (Mut.grow Mut.none_ (some_lt Ba.lt)) [] [] (fxAt [Fx.of (.pointer (some ⟨ga, 0, none⟩)),
         Fx.of (.pointer (some ⟨ga, 0, none⟩)),
         Fx.of (.pointer (some ⟨ga, 0, none⟩)),
         Fx.of (.pointer (some ⟨ga, 800, none⟩)),
         Fx.of (.int .i64 ((x.t.nd : Nat) : Int)),
         Fx.of (.string s),
         Fx.of (.int .i64 ((x.i : Nat) : Int)),
         Fx.of (.int .u8 ((bAt s x.i : Nat) : Int)),
         Fx.of (.pointer (some ⟨ga, 0, none⟩)),
         Fx.of (.pointer (some ⟨ga, 0, none⟩)),
         Fx.of (.pointer (some ⟨ga, x.t.nd, none⟩))]) rfl trivial (fun _ h => by cases h) ?_ ?_
        · refine ⟨?_, ?_, ?_, ?_, ?_, ?_, ?_, ?_, ?_, ?_, ?_, trivial⟩
          · intro vs X wq K
            have LE := K.1
            have XN := K.2.1
            have SQ := Nat.le_trans LW.size (Nat.le_trans E.size LE.size)
            exact ow_move rfl ⟨Below.refl _ _, Left.of rfl⟩
          · intro vs X wq K
            have LE := K.1
            have XN := K.2.1
            have SQ := Nat.le_trans LW.size (Nat.le_trans E.size LE.size)
            exact ow_move rfl ⟨Below.refl _ _, Left.of rfl⟩
          · intro vs X wq K
            have LE := K.1
            have XN := K.2.1
            have SQ := Nat.le_trans LW.size (Nat.le_trans E.size LE.size)
            obtain ⟨_, e1, k1⟩ := K.dep 1 rfl rfl rfl
            refine ow_set 93 (.pointer (some ⟨ga, 0, none⟩)) rfl e1 ?_
            exact ow_nilCheck rfl ⟨Below.refl _ _, Left.of rfl⟩
          · intro vs X wq K
            have LE := K.1
            have XN := K.2.1
            have SQ := Nat.le_trans LW.size (Nat.le_trans E.size LE.size)
            obtain ⟨_, e2, k2⟩ := K.dep 2 rfl rfl rfl
            refine ow_set 94 (.pointer (some ⟨ga, 0, none⟩)) rfl e2 ?_
            exact ow_fieldAddr Tryz.underlying193 rfl sz3 (by decide) rfl ⟨Below.refl _ _, Left.of rfl⟩
          · intro vs X wq K
            have LE := K.1
            have XN := K.2.1
            have SQ := Nat.le_trans LW.size (Nat.le_trans E.size LE.size)
            obtain ⟨_, e3, k3⟩ := K.dep 3 rfl rfl rfl
            refine ow_set 95 (.pointer (some ⟨ga, 800, none⟩)) rfl e3 ?_
            exact ow_loadF Tryz.underlying3 rfl rfl (Ba.drew.extN LE NotIn.nil) (ndAt hlx x.t.nd rfl) ⟨Below.refl _ _, Left.of rfl⟩
          · intro vs X wq K
            have LE := K.1
            have XN := K.2.1
            have SQ := Nat.le_trans LW.size (Nat.le_trans E.size LE.size)
            exact ow_move rfl ⟨Below.refl _ _, Left.of rfl⟩
          · intro vs X wq K
            have LE := K.1
            have XN := K.2.1
            have SQ := Nat.le_trans LW.size (Nat.le_trans E.size LE.size)
            exact ow_move rfl ⟨Below.refl _ _, Left.of rfl⟩
          · intro vs X wq K
            have LE := K.1
            have XN := K.2.1
            have SQ := Nat.le_trans LW.size (Nat.le_trans E.size LE.size)
            obtain ⟨_, e5, k5⟩ := K.dep 5 rfl rfl rfl
            refine ow_set 97 (.string s) rfl e5 ?_
            obtain ⟨_, e6, k6⟩ := K.dep 6 rfl rfl rfl
            refine ow_set 98 (.int .i64 ((x.i : Nat) : Int)) rfl e6 ?_
            exact ow_indexSL (j := x.i) (b := bAt s x.i) Tryz.underlying9 rfl rfl rfl (bAt_some (by omega)) ⟨Below.refl _ _, Left.of rfl⟩
          · intro vs X wq K
            have LE := K.1
            have XN := K.2.1
            have SQ := Nat.le_trans LW.size (Nat.le_trans E.size LE.size)
            obtain ⟨_, e0, k0⟩ := K.dep 0 rfl rfl rfl
            refine ow_set 92 (.pointer (some ⟨ga, 0, none⟩)) rfl e0 ?_
            exact ow_nilCheck rfl ⟨Below.refl _ _, Left.of rfl⟩
          · intro vs X wq K
            have LE := K.1
            have XN := K.2.1
            have SQ := Nat.le_trans LW.size (Nat.le_trans E.size LE.size)
            obtain ⟨_, e8, k8⟩ := K.dep 8 rfl rfl rfl
            refine ow_set 100 (.pointer (some ⟨ga, 0, none⟩)) rfl e8 ?_
            exact ow_fieldAddr Tryz.underlying193 rfl sz191 (by decide) rfl ⟨Below.refl _ _, Left.of rfl⟩
          · intro vs X wq K
            have LE := K.1
            have XN := K.2.1
            have SQ := Nat.le_trans LW.size (Nat.le_trans E.size LE.size)
            obtain ⟨_, e9, k9⟩ := K.dep 9 rfl rfl rfl
            refine ow_set 101 (.pointer (some ⟨ga, 0, none⟩)) rfl e9 ?_
            obtain ⟨_, e4, k4⟩ := K.dep 4 rfl rfl rfl
            refine ow_set 96 (.int .i64 ((x.t.nd : Nat) : Int)) rfl e4 ?_
            exact ow_indexAddrZ (j := x.t.nd) Tryz.underlying191 sz5 rfl rfl rfl (by omega) ⟨Below.refl _ _, Left.of rfl⟩
        intro vs w9 LE AO AL AF AA
        have LBa := Ba
        replace Ba := Ba.drew.extN LE NotIn.nil
        replace E := E.drew.trans (LE.mono OY)
        obtain ⟨_, e7, k7⟩ := AL.2.2.2.2.2.2.2.1
        obtain ⟨_, e10, k10⟩ := AL.2.2.2.2.2.2.2.2.2.2.1
        refine ew_sub (τ := [(0, _), (1, _), (4, _), (5, _), (6, _), (7, _), (99, .int .u8 ((bAt s x.i : Nat) : Int)), (102, .pointer (some ⟨ga, x.t.nd, none⟩))]) ⟨rfl, rfl, rfl, rfl, rfl, rfl, congrArg some e7, congrArg some e10, trivial⟩ ?_
        clear AL AF AA LE AO OY e7 e10 k7 k10 LBa
        refine ew_ak (ak_of_rs (by kernel_rfl) (fun _ _ d_ _ _ h => by cases d_ <;> exact h) ?_)
        refine rs_op0 (ow_storeE sz5 rfl rfl Ba rfl rfl (in_ hlx (by omega)) (set_d hlx (by omega)) ?_)
        intro w10 Bx Ea
        replace Ba : Blk w10 ga 193 (decC { x.t with d := x.t.d.set x.t.nd (bAt s x.i) }) := Bx
        clear Bx
        replace E := E.step1 Ea Mut.head
        clear Ea
        refine rs_nil ?_
        refine ew_next ?_
        refine cw_region ?_
        refine rs_op rfl (ow_move rfl ?_)
        refine rs_op rfl (ow_nilCheck rfl ?_)
        refine rs_op rfl (ow_fieldAddr Tryz.underlying193 rfl sz3 (by decide) rfl ?_)
        refine rs_op rfl (ow_loadF Tryz.underlying3 rfl rfl Ba (ndAt hly (x.t.nd) rfl) ?_)
        refine rs_op rfl (ow_add rfl rfl (wrap_i64 (by omega)) ?_)
        refine rs_op rfl (ow_nilCheck rfl ?_)
        refine rs_op rfl (ow_fieldAddr Tryz.underlying193 rfl sz3 (by decide) rfl ?_)
        refine rs_set 107 (.int .i64 ((x.t.nd + 1 : Nat) : Int)) rfl (rfl) ?_
        refine rs_op0 (ow_storeE sz3 rfl rfl Ba rfl rfl (in_ hly (by decide : 800 < 804)) (set_nd hly (x.t.nd + 1)) ?_)
        intro w11 Bx Ea
        replace Ba : Blk w11 ga 193 (decC { x.t with d := x.t.d.set x.t.nd (bAt s x.i), nd := x.t.nd + 1 }) := Bx
        clear Bx
        replace E := E.step1 Ea Mut.head
        clear Ea
        refine rs_nil ?_
        refine ew_next ?_
        refine cw_exit ?_
        refine ew_block_past rfl ?_
        refine ew_then_exit ?_
        refine ew_block_here ?_
        refine ew_next ?_
        refine cw_region ?_
        refine rs_op rfl (ow_move rfl ?_)
        refine rs_op rfl (ow_add rfl rfl (wrap_i64 (by omega)) ?_)
        refine rs_op rfl (ow_assign rfl ?_)
        refine rs_nil ?_
        refine ew_set 5 (.int .i64 ((x.i + 1 : Nat) : Int)) rfl (rfl) ?_
        exact ew_round (ι := StS) (s := fun x => [(0, .pointer (some ⟨ga, 0, none⟩)), (1, .string s), (4, .bool false), (5, .int .i64 ((x.i : Nat) : Int)), (6, .bool x.dot), (7, .bool x.dig)]) (R := fun x w' => Ext (Mut [(some ga)]) w2 w' ∧ Blk w' ga 193 (decC x.t) ∧ (StN s 0 p Z q x ∧ until_ (stDone s) (stStep s) x = stA s 0 false)) (m := fun x => Z - x.i) (i := x) ({ x with i := x.i + 1, dig := true, t := { x.t with d := x.t.d.set x.t.nd (bAt s x.i), nd := x.t.nd + 1 } }) (by show Z - (x.i + 1) < Z - x.i; omega) ⟨rfl, rfl, rfl, rfl, rfl, rfl, trivial⟩ ⟨M5.step E XM5, (by exact Ba), hkeep, hu2⟩
       ·
        have h5 : ¬ x.t.nd < 800 := by have h5 := of_decide_eq_false h5; omega
        have hst := putOut hdot hnz h5
        refine cw_seq ?_
        refine cw_region ?_
        refine rs_op rfl (ow_move rfl ?_)
        refine rs_op rfl (ow_move rfl ?_)
        refine rs_op rfl (ow_indexSL (j := x.i) (b := bAt s (x.i)) Tryz.underlying9 rfl rfl rfl (bAt_some (by omega)) ?_)
        refine rs_op rfl (ow_neq rfl rfl ?_)
        refine rs_nil ?_
        refine ew_next ?_
        refine cw_cond rfl (fun h6 => ?_) (fun h6 => ?_)
        ·
         have h6 : bAt s x.i ≠ 48 := fun e => absurd h6 (by rw [e]; decide)
         rw [if_pos h6] at hst
         rw [hst] at hkeep hu2
         refine cw_region ?_
         refine rs_op rfl (ow_move rfl ?_)
         refine rs_op rfl (ow_nilCheck rfl ?_)
         refine rs_op rfl (ow_fieldAddr Tryz.underlying193 rfl sz4 (by decide) rfl ?_)
         refine rs_op0 (ow_storeE sz4 rfl rfl Ba rfl rfl (in_ hlx (by decide : 803 < 804)) (set_tr hlx true) ?_)
         intro w12 Bx Ea
         replace Ba : Blk w12 ga 193 (decC { x.t with tr := true }) := Bx
         clear Bx
         replace E := E.step1 Ea Mut.head
         clear Ea
         refine rs_nil ?_
         refine ew_next ?_
         refine cw_exit ?_
         refine ew_block_past rfl ?_
         refine ew_then_exit ?_
         refine ew_block_here ?_
         refine ew_next ?_
         refine cw_region ?_
         refine rs_op rfl (ow_move rfl ?_)
         refine rs_op rfl (ow_add rfl rfl (wrap_i64 (by omega)) ?_)
         refine rs_op rfl (ow_assign rfl ?_)
         refine rs_nil ?_
         refine ew_set 5 (.int .i64 ((x.i + 1 : Nat) : Int)) rfl (rfl) ?_
         exact ew_round (ι := StS) (s := fun x => [(0, .pointer (some ⟨ga, 0, none⟩)), (1, .string s), (4, .bool false), (5, .int .i64 ((x.i : Nat) : Int)), (6, .bool x.dot), (7, .bool x.dig)]) (R := fun x w' => Ext (Mut [(some ga)]) w2 w' ∧ Blk w' ga 193 (decC x.t) ∧ (StN s 0 p Z q x ∧ until_ (stDone s) (stStep s) x = stA s 0 false)) (m := fun x => Z - x.i) (i := x) ({ x with i := x.i + 1, dig := true, t := { x.t with tr := true } }) (by show Z - (x.i + 1) < Z - x.i; omega) ⟨rfl, rfl, rfl, rfl, rfl, rfl, trivial⟩ ⟨M5.step E XM5, (by exact Ba), hkeep, hu2⟩
        ·
         have h6 : bAt s x.i = 48 := by
          rcases Nat.decEq (bAt s x.i) 48 with h7 | h7
          · rw [bne_iff_ne.2 (by omega)] at h6; cases h6
          · exact h7
         rw [if_neg (fun h => h h6)] at hst
         rw [hst] at hkeep hu2
         refine cw_skip ?_
         refine ew_next ?_
         refine cw_exit ?_
         refine ew_block_past rfl ?_
         refine ew_then_exit ?_
         refine ew_block_here ?_
         refine ew_next ?_
         refine cw_region ?_
         refine rs_op rfl (ow_move rfl ?_)
         refine rs_op rfl (ow_add rfl rfl (wrap_i64 (by omega)) ?_)
         refine rs_op rfl (ow_assign rfl ?_)
         refine rs_nil ?_
         refine ew_set 5 (.int .i64 ((x.i + 1 : Nat) : Int)) rfl (rfl) ?_
         exact ew_round (ι := StS) (s := fun x => [(0, .pointer (some ⟨ga, 0, none⟩)), (1, .string s), (4, .bool false), (5, .int .i64 ((x.i : Nat) : Int)), (6, .bool x.dot), (7, .bool x.dig)]) (R := fun x w' => Ext (Mut [(some ga)]) w2 w' ∧ Blk w' ga 193 (decC x.t) ∧ (StN s 0 p Z q x ∧ until_ (stDone s) (stStep s) x = stA s 0 false)) (m := fun x => Z - x.i) (i := x) ({ x with i := x.i + 1, dig := true, t := { x.t with tr := x.t.tr } }) (by show Z - (x.i + 1) < Z - x.i; omega) ⟨rfl, rfl, rfl, rfl, rfl, rfl, trivial⟩ ⟨M5.step E XM5, (by exact Ba), hkeep, hu2⟩
     ·
      have hnz : ¬ (bAt s x.i = 48 ∧ x.t.nd = 0) := fun h => absurd h3 (by rw [h.1]; decide)
      refine rs_op rfl (ow_off rfl ?_)
      refine rs_op rfl (ow_off rfl ?_)
      refine rs_op rfl (ow_off rfl ?_)
      refine rs_op rfl (ow_off rfl ?_)
      refine rs_op rfl (ow_off rfl ?_)
      refine rs_op rfl (ow_pickF rfl rfl ?_)
      refine rs_nil ?_
      refine ew_next ?_
      refine cw_else rfl ?_
      refine cw_skip ?_
      refine ew_next ?_
      refine cw_seq ?_
      refine cw_seq ?_
      refine cw_region ?_
      refine rs_op rfl (ow_move rfl ?_)
      refine rs_op rfl (ow_nilCheck rfl ?_)
      refine rs_op rfl (ow_fieldAddr Tryz.underlying193 rfl sz3 (by decide) rfl ?_)
      refine rs_op rfl (ow_loadF Tryz.underlying3 rfl rfl Ba (ndAt hlx (x.t.nd) rfl) ?_)
      refine rs_op rfl (ow_lss rfl rfl ?_)
      refine rs_nil ?_
      refine ew_next ?_
      refine cw_cond rfl (fun h5 => ?_) (fun h5 => ?_)
      ·
       have h5 : x.t.nd < 800 := by have h5 := of_decide_eq_true h5; omega
       have hst := putIn hdot hnz h5
       have hst2 : (x.t.d.set x.t.nd (bAt s x.i)).length = 800 := by rw [List.length_set]; exact hlx
       have hly : ({ x.t with d := x.t.d.set x.t.nd (bAt s x.i) } : Dec).d.length = 800 := hst2
       rw [hst] at hkeep hu2
       refine cw_seq ?_
       have OY : ∀ q9, (Mut (outM [])) q9 → q9 < (World.drew w6).heap.size → (Mut [(some ga)]) q9 := fun k h _ => (Mut.none_) k h
       refine cw_any mixed (ak_cut 11 rfl ?_)
       refine aw_drawn (Mut [(some ga)]) (Mut.grow Mut.none_ (some_lt Ba.lt)) [] [] (fxAt [Fx.of (.pointer (some ⟨ga, 0, none⟩)),
        Fx.of (.pointer (some ⟨ga, 0, none⟩)),
        Fx.of (.pointer (some ⟨ga, 0, none⟩)),
        Fx.of (.pointer (some ⟨ga, 800, none⟩)),
        Fx.of (.int .i64 ((x.t.nd : Nat) : Int)),
        Fx.of (.string s),
        Fx.of (.int .i64 ((x.i : Nat) : Int)),
        Fx.of (.int .u8 ((bAt s x.i : Nat) : Int)),
        Fx.of (.pointer (some ⟨ga, 0, none⟩)),
        Fx.of (.pointer (some ⟨ga, 0, none⟩)),
        Fx.of (.pointer (some ⟨ga, x.t.nd, none⟩))]) rfl trivial (fun _ h => by cases h) ?_ ?_
       · refine ⟨?_, ?_, ?_, ?_, ?_, ?_, ?_, ?_, ?_, ?_, ?_, trivial⟩
         · intro vs X wq K
           have LE := K.1
           have XN := K.2.1
           have SQ := Nat.le_trans LW.size (Nat.le_trans E.size LE.size)
           exact ow_move rfl ⟨Below.refl _ _, Left.of rfl⟩
         · intro vs X wq K
           have LE := K.1
           have XN := K.2.1
           have SQ := Nat.le_trans LW.size (Nat.le_trans E.size LE.size)
           exact ow_move rfl ⟨Below.refl _ _, Left.of rfl⟩
         · intro vs X wq K
           have LE := K.1
           have XN := K.2.1
           have SQ := Nat.le_trans LW.size (Nat.le_trans E.size LE.size)
           obtain ⟨_, e1, k1⟩ := K.dep 1 rfl rfl rfl
           refine ow_set 93 (.pointer (some ⟨ga, 0, none⟩)) rfl e1 ?_
           exact ow_nilCheck rfl ⟨Below.refl _ _, Left.of rfl⟩
         · intro vs X wq K
           have LE := K.1
           have XN := K.2.1
           have SQ := Nat.le_trans LW.size (Nat.le_trans E.size LE.size)
           obtain ⟨_, e2, k2⟩ := K.dep 2 rfl rfl rfl
           refine ow_set 94 (.pointer (some ⟨ga, 0, none⟩)) rfl e2 ?_
           exact ow_fieldAddr Tryz.underlying193 rfl sz3 (by decide) rfl ⟨Below.refl _ _, Left.of rfl⟩
         · intro vs X wq K
           have LE := K.1
           have XN := K.2.1
           have SQ := Nat.le_trans LW.size (Nat.le_trans E.size LE.size)
           obtain ⟨_, e3, k3⟩ := K.dep 3 rfl rfl rfl
           refine ow_set 95 (.pointer (some ⟨ga, 800, none⟩)) rfl e3 ?_
           exact ow_loadF Tryz.underlying3 rfl rfl (Ba.drew.extN LE NotIn.nil) (ndAt hlx x.t.nd rfl) ⟨Below.refl _ _, Left.of rfl⟩
         · intro vs X wq K
           have LE := K.1
           have XN := K.2.1
           have SQ := Nat.le_trans LW.size (Nat.le_trans E.size LE.size)
           exact ow_move rfl ⟨Below.refl _ _, Left.of rfl⟩
         · intro vs X wq K
           have LE := K.1
           have XN := K.2.1
           have SQ := Nat.le_trans LW.size (Nat.le_trans E.size LE.size)
           exact ow_move rfl ⟨Below.refl _ _, Left.of rfl⟩
         · intro vs X wq K
           have LE := K.1
           have XN := K.2.1
           have SQ := Nat.le_trans LW.size (Nat.le_trans E.size LE.size)
           obtain ⟨_, e5, k5⟩ := K.dep 5 rfl rfl rfl
           refine ow_set 97 (.string s) rfl e5 ?_
           obtain ⟨_, e6, k6⟩ := K.dep 6 rfl rfl rfl
           refine ow_set 98 (.int .i64 ((x.i : Nat) : Int)) rfl e6 ?_
           exact ow_indexSL (j := x.i) (b := bAt s x.i) Tryz.underlying9 rfl rfl rfl (bAt_some (by omega)) ⟨Below.refl _ _, Left.of rfl⟩
         · intro vs X wq K
           have LE := K.1
           have XN := K.2.1
           have SQ := Nat.le_trans LW.size (Nat.le_trans E.size LE.size)
           obtain ⟨_, e0, k0⟩ := K.dep 0 rfl rfl rfl
           refine ow_set 92 (.pointer (some ⟨ga, 0, none⟩)) rfl e0 ?_
           exact ow_nilCheck rfl ⟨Below.refl _ _, Left.of rfl⟩
         · intro vs X wq K
           have LE := K.1
           have XN := K.2.1
           have SQ := Nat.le_trans LW.size (Nat.le_trans E.size LE.size)
           obtain ⟨_, e8, k8⟩ := K.dep 8 rfl rfl rfl
           refine ow_set 100 (.pointer (some ⟨ga, 0, none⟩)) rfl e8 ?_
           exact ow_fieldAddr Tryz.underlying193 rfl sz191 (by decide) rfl ⟨Below.refl _ _, Left.of rfl⟩
         · intro vs X wq K
           have LE := K.1
           have XN := K.2.1
           have SQ := Nat.le_trans LW.size (Nat.le_trans E.size LE.size)
           obtain ⟨_, e9, k9⟩ := K.dep 9 rfl rfl rfl
           refine ow_set 101 (.pointer (some ⟨ga, 0, none⟩)) rfl e9 ?_
           obtain ⟨_, e4, k4⟩ := K.dep 4 rfl rfl rfl
           refine ow_set 96 (.int .i64 ((x.t.nd : Nat) : Int)) rfl e4 ?_
           exact ow_indexAddrZ (j := x.t.nd) Tryz.underlying191 sz5 rfl rfl rfl (by omega) ⟨Below.refl _ _, Left.of rfl⟩
       intro vs w13 LE AO AL AF AA
       have LBa := Ba
       replace Ba := Ba.drew.extN LE NotIn.nil
       replace E := E.drew.trans (LE.mono OY)
       obtain ⟨_, e7, k7⟩ := AL.2.2.2.2.2.2.2.1
       obtain ⟨_, e10, k10⟩ := AL.2.2.2.2.2.2.2.2.2.2.1
       refine ew_sub (τ := [(0, _), (1, _), (4, _), (5, _), (6, _), (7, _), (99, .int .u8 ((bAt s x.i : Nat) : Int)), (102, .pointer (some ⟨ga, x.t.nd, none⟩))]) ⟨rfl, rfl, rfl, rfl, rfl, rfl, congrArg some e7, congrArg some e10, trivial⟩ ?_
       clear AL AF AA LE AO OY e7 e10 k7 k10 LBa
       refine ew_ak (ak_of_rs (by kernel_rfl) (fun _ _ d_ _ _ h => by cases d_ <;> exact h) ?_)
       refine rs_op0 (ow_storeE sz5 rfl rfl Ba rfl rfl (in_ hlx (by omega)) (set_d hlx (by omega)) ?_)
       intro w14 Bx Ea
       replace Ba : Blk w14 ga 193 (decC { x.t with d := x.t.d.set x.t.nd (bAt s x.i) }) := Bx
       clear Bx
       replace E := E.step1 Ea Mut.head
       clear Ea
       refine rs_nil ?_
       refine ew_next ?_
       refine cw_region ?_
       refine rs_op rfl (ow_move rfl ?_)
       refine rs_op rfl (ow_nilCheck rfl ?_)
       refine rs_op rfl (ow_fieldAddr Tryz.underlying193 rfl sz3 (by decide) rfl ?_)
       refine rs_op rfl (ow_loadF Tryz.underlying3 rfl rfl Ba (ndAt hly (x.t.nd) rfl) ?_)
       refine rs_op rfl (ow_add rfl rfl (wrap_i64 (by omega)) ?_)
       refine rs_op rfl (ow_nilCheck rfl ?_)
       refine rs_op rfl (ow_fieldAddr Tryz.underlying193 rfl sz3 (by decide) rfl ?_)
       refine rs_set 107 (.int .i64 ((x.t.nd + 1 : Nat) : Int)) rfl (rfl) ?_
       refine rs_op0 (ow_storeE sz3 rfl rfl Ba rfl rfl (in_ hly (by decide : 800 < 804)) (set_nd hly (x.t.nd + 1)) ?_)
       intro w15 Bx Ea
       replace Ba : Blk w15 ga 193 (decC { x.t with d := x.t.d.set x.t.nd (bAt s x.i), nd := x.t.nd + 1 }) := Bx
       clear Bx
       replace E := E.step1 Ea Mut.head
       clear Ea
       refine rs_nil ?_
       refine ew_next ?_
       refine cw_exit ?_
       refine ew_block_past rfl ?_
       refine ew_then_exit ?_
       refine ew_block_here ?_
       refine ew_next ?_
       refine cw_region ?_
       refine rs_op rfl (ow_move rfl ?_)
       refine rs_op rfl (ow_add rfl rfl (wrap_i64 (by omega)) ?_)
       refine rs_op rfl (ow_assign rfl ?_)
       refine rs_nil ?_
       refine ew_set 5 (.int .i64 ((x.i + 1 : Nat) : Int)) rfl (rfl) ?_
       exact ew_round (ι := StS) (s := fun x => [(0, .pointer (some ⟨ga, 0, none⟩)), (1, .string s), (4, .bool false), (5, .int .i64 ((x.i : Nat) : Int)), (6, .bool x.dot), (7, .bool x.dig)]) (R := fun x w' => Ext (Mut [(some ga)]) w2 w' ∧ Blk w' ga 193 (decC x.t) ∧ (StN s 0 p Z q x ∧ until_ (stDone s) (stStep s) x = stA s 0 false)) (m := fun x => Z - x.i) (i := x) ({ x with i := x.i + 1, dig := true, t := { x.t with d := x.t.d.set x.t.nd (bAt s x.i), nd := x.t.nd + 1 } }) (by show Z - (x.i + 1) < Z - x.i; omega) ⟨rfl, rfl, rfl, rfl, rfl, rfl, trivial⟩ ⟨M5.step E XM5, (by exact Ba), hkeep, hu2⟩
      ·
       have h5 : ¬ x.t.nd < 800 := by have h5 := of_decide_eq_false h5; omega
       have hst := putOut hdot hnz h5
       refine cw_seq ?_
       refine cw_region ?_
       refine rs_op rfl (ow_move rfl ?_)
       refine rs_op rfl (ow_move rfl ?_)
       refine rs_op rfl (ow_indexSL (j := x.i) (b := bAt s (x.i)) Tryz.underlying9 rfl rfl rfl (bAt_some (by omega)) ?_)
       refine rs_op rfl (ow_neq rfl rfl ?_)
       refine rs_nil ?_
       refine ew_next ?_
       refine cw_cond rfl (fun h6 => ?_) (fun h6 => ?_)
       ·
        have h6 : bAt s x.i ≠ 48 := fun e => absurd h6 (by rw [e]; decide)
        rw [if_pos h6] at hst
        rw [hst] at hkeep hu2
        refine cw_region ?_
        refine rs_op rfl (ow_move rfl ?_)
        refine rs_op rfl (ow_nilCheck rfl ?_)
        refine rs_op rfl (ow_fieldAddr Tryz.underlying193 rfl sz4 (by decide) rfl ?_)
        refine rs_op0 (ow_storeE sz4 rfl rfl Ba rfl rfl (in_ hlx (by decide : 803 < 804)) (set_tr hlx true) ?_)
        intro w16 Bx Ea
        replace Ba : Blk w16 ga 193 (decC { x.t with tr := true }) := Bx
        clear Bx
        replace E := E.step1 Ea Mut.head
        clear Ea
        refine rs_nil ?_
        refine ew_next ?_
        refine cw_exit ?_
        refine ew_block_past rfl ?_
        refine ew_then_exit ?_
        refine ew_block_here ?_
        refine ew_next ?_
        refine cw_region ?_
        refine rs_op rfl (ow_move rfl ?_)
        refine rs_op rfl (ow_add rfl rfl (wrap_i64 (by omega)) ?_)
        refine rs_op rfl (ow_assign rfl ?_)
        refine rs_nil ?_
        refine ew_set 5 (.int .i64 ((x.i + 1 : Nat) : Int)) rfl (rfl) ?_
        exact ew_round (ι := StS) (s := fun x => [(0, .pointer (some ⟨ga, 0, none⟩)), (1, .string s), (4, .bool false), (5, .int .i64 ((x.i : Nat) : Int)), (6, .bool x.dot), (7, .bool x.dig)]) (R := fun x w' => Ext (Mut [(some ga)]) w2 w' ∧ Blk w' ga 193 (decC x.t) ∧ (StN s 0 p Z q x ∧ until_ (stDone s) (stStep s) x = stA s 0 false)) (m := fun x => Z - x.i) (i := x) ({ x with i := x.i + 1, dig := true, t := { x.t with tr := true } }) (by show Z - (x.i + 1) < Z - x.i; omega) ⟨rfl, rfl, rfl, rfl, rfl, rfl, trivial⟩ ⟨M5.step E XM5, (by exact Ba), hkeep, hu2⟩
       ·
        have h6 : bAt s x.i = 48 := by
         rcases Nat.decEq (bAt s x.i) 48 with h7 | h7
         · rw [bne_iff_ne.2 (by omega)] at h6; cases h6
         · exact h7
        rw [if_neg (fun h => h h6)] at hst
        rw [hst] at hkeep hu2
        refine cw_skip ?_
        refine ew_next ?_
        refine cw_exit ?_
        refine ew_block_past rfl ?_
        refine ew_then_exit ?_
        refine ew_block_here ?_
        refine ew_next ?_
        refine cw_region ?_
        refine rs_op rfl (ow_move rfl ?_)
        refine rs_op rfl (ow_add rfl rfl (wrap_i64 (by omega)) ?_)
        refine rs_op rfl (ow_assign rfl ?_)
        refine rs_nil ?_
        refine ew_set 5 (.int .i64 ((x.i + 1 : Nat) : Int)) rfl (rfl) ?_
        exact ew_round (ι := StS) (s := fun x => [(0, .pointer (some ⟨ga, 0, none⟩)), (1, .string s), (4, .bool false), (5, .int .i64 ((x.i : Nat) : Int)), (6, .bool x.dot), (7, .bool x.dig)]) (R := fun x w' => Ext (Mut [(some ga)]) w2 w' ∧ Blk w' ga 193 (decC x.t) ∧ (StN s 0 p Z q x ∧ until_ (stDone s) (stStep s) x = stA s 0 false)) (m := fun x => Z - x.i) (i := x) ({ x with i := x.i + 1, dig := true, t := { x.t with tr := x.t.tr } }) (by show Z - (x.i + 1) < Z - x.i; omega) ⟨rfl, rfl, rfl, rfl, rfl, rfl, trivial⟩ ⟨M5.step E XM5, (by exact Ba), hkeep, hu2⟩
   ·
    have e : x.i = Z := by omega
    have hb : bAt s x.i = 101 := by rw [e]; exact (hs.exp (by omega)).1
    have hdone : stDone s x = true := by
     unfold stDone
     rw [Bool.or_eq_true]
     right
     rw [hb]
     rfl
    rw [until_stop hdone] at hu
    refine rs_op rfl (ow_eql rfl rfl ?_)
    refine rs_op rfl (ow_assign rfl ?_)
    refine rs_nil ?_
    refine ew_next ?_
    refine cw_set 40 (.bool false) rfl ((by rw [hb]; rfl : (.bool (((bAt s (x.i) : Nat) : Int) == 95) : Value) = _)) ?_
    refine cw_else rfl ?_
    refine cw_seq ?_
    refine cw_region ?_
    refine rs_op rfl (ow_move rfl ?_)
    refine rs_op rfl (ow_move rfl ?_)
    refine rs_op rfl (ow_indexSL (j := x.i) (b := bAt s (x.i)) Tryz.underlying9 rfl rfl rfl (bAt_some (by omega)) ?_)
    refine rs_op rfl (ow_eql rfl rfl ?_)
    refine rs_op rfl (ow_assign rfl ?_)
    refine rs_nil ?_
    refine ew_next ?_
    refine cw_set 45 (.bool false) rfl ((by rw [hb]; rfl : (.bool (((bAt s (x.i) : Nat) : Int) == 46) : Value) = _)) ?_
    refine cw_else rfl ?_
    refine cw_seq ?_
    refine cw_region ?_
    refine rs_op rfl (ow_move rfl ?_)
    refine rs_op rfl (ow_move rfl ?_)
    refine rs_op rfl (ow_indexSL (j := x.i) (b := bAt s (x.i)) Tryz.underlying9 rfl rfl rfl (bAt_some (by omega)) ?_)
    refine rs_op rfl (ow_leq rfl rfl ?_)
    refine rs_op rfl (ow_move rfl ?_)
    refine rs_set 63 (.bool true) rfl ((by rw [hb]; rfl : (.bool (decide (48 ≤ ((bAt s (x.i) : Nat) : Int))) : Value) = _)) ?_
    refine rs_op rfl (ow_on rfl (ow_move rfl ?_))
    refine rs_op rfl (ow_on rfl (ow_move rfl ?_))
    refine rs_op rfl (ow_on rfl (ow_indexSL (j := x.i) (b := bAt s (x.i)) Tryz.underlying9 rfl rfl rfl (bAt_some (by omega)) ?_))
    refine rs_op rfl (ow_on rfl (ow_leq rfl rfl ?_))
    refine rs_op rfl (ow_pickT rfl rfl ?_)
    refine rs_op rfl (ow_assign rfl ?_)
    refine rs_nil ?_
    refine ew_next ?_
    refine cw_set 58 (.bool false) rfl ((by rw [hb]; rfl : (.bool (decide (((bAt s (x.i) : Nat) : Int) ≤ 57)) : Value) = _)) ?_
    refine cw_else rfl ?_
    refine cw_skip ?_
    refine ew_block_normal ?_
    refine ew_next ?_
    refine cw_exit ?_
    refine ew_block_past rfl ?_
    refine ew_then_exit ?_
    refine ew_then_exit ?_
    refine ew_block_here ?_
    exact ew_mid x ⟨rfl, rfl, rfl, rfl, rfl, rfl, trivial⟩ ⟨M3.step E XM3, (by exact Ba), hu⟩
  ·
   have h1 : ¬ x.i < s.size := by have h1 := of_decide_eq_false h1; omega
   have hdone : stDone s x = true := by
    unfold stDone
    rw [decide_eq_true (by omega)]; rfl
   rw [until_stop hdone] at hu
   refine cw_exit ?_
   refine ew_then_exit ?_
   refine ew_then_exit ?_
   refine ew_block_here ?_
   exact ew_mid x ⟨rfl, rfl, rfl, rfl, rfl, rfl, trivial⟩ ⟨M3.step E XM3, (by exact Ba), hu⟩
 ·
  have LTa := (some_lt Ba.lt)
  clear Ba
  rintro x w4 ⟨M3, Ba, hx⟩
  have XM3 : ∀ q9, (Mut [(some ga)]) q9 → (Mut [(some ga)]) q9 ∨ w2.heap.size ≤ q9 := (Mut.grow Mut.none_ (fun k e => Or.inl (Mut.head k e)))
  replace E := E.trans M3
  replace HF := HF.on E
  replace LW := LW.step E XLW
  replace E := Ext.refl (Mut [(some ga)]) w4
  clear LTa
  obtain ⟨hR, hRi⟩ := stA_ends false hs
  rw [← hx] at hR hRi
  have hfp := hs.fp
  have hpE := hs.pE
  have hsE := hs.hE
  have hdig : x.dig = true := hR.dg (by omega)
  have hlx := hR.dec.len
  have hnx := hR.dec.hn
  have hpp := hR.hp
  have hti := hR.iE
  refine cw_seq ?_
  refine cw_seq ?_
  refine cw_region ?_
  refine rs_op rfl (ow_move rfl ?_)
  refine rs_op rfl (ow_not rfl ?_)
  refine rs_nil ?_
  refine ew_next ?_
  refine cw_set 118 (.bool false) rfl ((by rw [hdig]; rfl : (.bool (!x.dig) : Value) = _)) ?_
  refine cw_else rfl ?_
  refine cw_skip ?_
  refine ew_next ?_
  refine cw_seq ?_
  refine cw_seq ?_
  refine cw_region ?_
  refine rs_op rfl (ow_move rfl ?_)
  refine rs_op rfl (ow_not rfl ?_)
  refine rs_nil ?_
  refine ew_next ?_
  replace HF := HF.on E
  replace LW := LW.step E XLW
  replace E := Ext.refl (Mut [(some ga)]) w4
  refine cw_join (ι := Int) (fun d2 => [(0, .pointer (some ⟨ga, 0, none⟩)), (1, .string s), (4, .bool false), (5, .int .i64 ((x.i : Nat) : Int))]) (fun d2 w' => Ext (Mut [(some ga)]) w4 w' ∧ Blk w' ga 193 (decC { x.t with dp := d2 }) ∧ (d2 = (if x.dot then x.t.dp else ((x.t.nd : Nat) : Int)))) ?_ ?_
  ·
   have M17 := Ext.refl (Mut [(some ga)]) w4
   have XM17 : ∀ q9, (Mut [(some ga)]) q9 → (Mut [(some ga)]) q9 ∨ w4.heap.size ≤ q9 := fun _ h => Or.inl h
   by_cases hdd : x.dot = true
   ·
    refine cw_set 120 (.bool false) rfl ((by rw [hdd]; rfl : (.bool (!x.dot) : Value) = _)) ?_
    refine cw_else rfl ?_
    refine cw_skip ?_
    replace Ba : Blk w4 ga 193 (decC { x.t with dp := x.t.dp }) := Ba
    exact ew_mid x.t.dp ⟨rfl, rfl, rfl, rfl, trivial⟩ ⟨M17.step E XM17, (by exact Ba), by rw [hdd, if_pos rfl]⟩
   ·
    refine cw_set 120 (.bool true) rfl ((by rw [Bool.eq_false_iff.2 hdd]; rfl : (.bool (!x.dot) : Value) = _)) ?_
    refine cw_then rfl ?_
    refine cw_region ?_
    refine rs_op rfl (ow_move rfl ?_)
    refine rs_op rfl (ow_move rfl ?_)
    refine rs_op rfl (ow_nilCheck rfl ?_)
    refine rs_op rfl (ow_fieldAddr Tryz.underlying193 rfl sz3 (by decide) rfl ?_)
    refine rs_op rfl (ow_loadF Tryz.underlying3 rfl rfl Ba (ndAt hlx (x.t.nd) rfl) ?_)
    refine rs_op rfl (ow_nilCheck rfl ?_)
    refine rs_op rfl (ow_fieldAddr Tryz.underlying193 rfl sz3 (by decide) rfl ?_)
    refine rs_op0 (ow_storeE sz3 rfl rfl Ba rfl rfl (in_ hlx (by decide : 801 < 804)) (set_dp hlx ((x.t.nd : Nat) : Int)) ?_)
    intro w19 Bx Ea
    replace Ba : Blk w19 ga 193 (decC { x.t with dp := ((x.t.nd : Nat) : Int) }) := Bx
    clear Bx
    replace E := E.step1 Ea Mut.head
    clear Ea
    refine rs_nil ?_
    exact ew_mid ((x.t.nd : Nat) : Int) ⟨rfl, rfl, rfl, rfl, trivial⟩ ⟨M17.step E XM17, (by exact Ba), by rw [if_neg hdd]⟩
  ·
   have LTa := (some_lt Ba.lt)
   clear Ba
   rintro d2 w18 ⟨M17, Ba, hd2⟩
   have XM17 : ∀ q9, (Mut [(some ga)]) q9 → (Mut [(some ga)]) q9 ∨ w4.heap.size ≤ q9 := (Mut.grow Mut.none_ (fun k e => Or.inl (Mut.head k e)))
   replace E := E.trans M17
   replace HF := HF.on E
   replace LW := LW.step E XLW
   replace E := Ext.refl (Mut [(some ga)]) w18
   clear LTa
   have hb2 : -100000 ≤ d2 ∧ d2 ≤ 100000 := by rw [hd2]; split <;> omega
   have hl2 : ({ x.t with dp := d2 } : Dec).d.length = 800 := hlx
   have hP0 : setD s 0 false = { x.t with dp := d2 + expo s Z } := by unfold setD; rw [← hx, hRi, hd2]
   by_cases he : Z < s.size
   ·
    obtain ⟨hx1, hx2, hx3, hx4⟩ := hs.exp he
    have hb : bAt s x.i = 101 := by rw [hRi]; exact hx1
    refine cw_seq ?_
    refine cw_seq ?_
    refine cw_region ?_
    refine rs_op rfl (ow_move rfl ?_)
    refine rs_op rfl (ow_move rfl ?_)
    refine rs_op rfl (ow_lenS Tryz.underlying9 rfl ?_)
    refine rs_op rfl (ow_lss rfl rfl ?_)
    refine rs_op rfl (ow_move rfl ?_)
    refine rs_set 132 (.bool true) rfl ((by rw [decide_eq_true (by omega)] : (.bool (decide (((x.i : Nat) : Int) < ((s.size : Nat) : Int))) : Value) = _)) ?_
    refine rs_op rfl (ow_on rfl (ow_move rfl ?_))
    refine rs_op rfl (ow_on rfl (ow_move rfl ?_))
    refine rs_op rfl (ow_on rfl (ow_indexSL (j := x.i) (b := bAt s (x.i)) Tryz.underlying9 rfl rfl rfl (bAt_some (by omega)) ?_))
    refine rs_set 135 (.int .u8 101) rfl ((by rw [hb]; rfl : (.int .u8 ((bAt s (x.i) : Nat) : Int) : Value) = _)) ?_
    refine rs_op rfl (ow_on rfl (ow_enter en190 rfl ((pt190_1 _).mono ?_)))
    rintro e w20 ⟨rfl, hb⟩
    refine ⟨_, rfl, ?_⟩
    have Ec := Ext.of_below hb No
    replace Ba := Ba.extN Ec NotIn.nil
    replace E := E.trans Ec.no
    clear hb Ec
    refine rs_op rfl (ow_on rfl (ow_eql rfl rfl ?_))
    refine rs_op rfl (ow_pickT rfl rfl ?_)
    refine rs_nil ?_
    refine ew_next ?_
    refine cw_then rfl ?_
    refine cw_seq ?_
    refine cw_region ?_
    refine rs_op rfl (ow_move rfl ?_)
    refine rs_op rfl (ow_add rfl rfl (wrap_i64 (by omega)) ?_)
    refine rs_op rfl (ow_assign rfl ?_)
    refine rs_nil ?_
    refine ew_next ?_
    refine cw_seq ?_
    refine cw_seq ?_
    refine cw_region ?_
    refine rs_op rfl (ow_move rfl ?_)
    refine rs_op rfl (ow_move rfl ?_)
    refine rs_op rfl (ow_lenS Tryz.underlying9 rfl ?_)
    refine rs_op rfl (ow_geq rfl rfl ?_)
    refine rs_nil ?_
    refine ew_next ?_
    refine cw_set 144 (.bool false) rfl ((by rw [decide_eq_false (by omega)] : (.bool (decide (((s.size : Nat) : Int) ≤ (((x.i : Nat) : Int) + 1))) : Value) = _)) ?_
    refine cw_else rfl ?_
    refine cw_skip ?_
    refine ew_next ?_
    refine cw_seq ?_
    refine cw_region ?_
    refine rs_op rfl (ow_assign rfl ?_)
    refine rs_nil ?_
    refine ew_next ?_
    refine cw_seq ?_
    refine cw_seq ?_
    refine cw_region ?_
    refine rs_op rfl (ow_move rfl ?_)
    refine rs_op rfl (ow_move rfl ?_)
    refine rs_op rfl (ow_indexSL (j := x.i + 1) (b := bAt s (x.i + 1)) Tryz.underlying9 rfl rfl rfl (bAt_some (by omega)) ?_)
    rw [← hRi] at hx2
    refine rs_nil ?_
    refine ew_next ?_
    replace HF := HF.on E
    replace LW := LW.step E XLW
    replace E := Ext.refl (Mut [(some ga)]) w20
    refine cw_join (ι := Nat × Int) (fun (k, g) => [(0, .pointer (some ⟨ga, 0, none⟩)), (1, .string s), (4, .bool false), (5, .int .i64 ((k : Nat) : Int)), (8, .int .i64 g)]) (fun (k, g) w' => Ext (Mut [(some ga)]) w20 w' ∧ Blk w' ga 193 (decC { x.t with dp := d2 }) ∧ (k = q ∧ g = (if bAt s (x.i + 1) = 45 then -1 else 1))) ?_ ?_
    ·
     have M21 := Ext.refl (Mut [(some ga)]) w20
     have XM21 : ∀ q9, (Mut [(some ga)]) q9 → (Mut [(some ga)]) q9 ∨ w20.heap.size ≤ q9 := fun _ h => Or.inl h
     refine cw_block ?_
     refine cw_seq ?_
     refine cw_region ?_
     refine rs_op rfl (ow_eql rfl rfl ?_)
     refine rs_op rfl (ow_assign rfl ?_)
     refine rs_nil ?_
     refine ew_next ?_
     by_cases c43 : bAt s (x.i + 1) = 43
     ·
      refine cw_set 148 (.bool true) rfl ((by rw [c43]; rfl : (.bool (((bAt s (x.i + 1) : Nat) : Int) == 43) : Value) = _)) ?_
      refine cw_then rfl ?_
      refine cw_region ?_
      refine rs_op rfl (ow_move rfl ?_)
      refine rs_op rfl (ow_add rfl rfl (wrap_i64 (by omega)) ?_)
      refine rs_op rfl (ow_assign rfl ?_)
      refine rs_nil ?_
      refine ew_block_normal ?_
      exact ew_mid (x.i + 2, 1) ⟨rfl, rfl, rfl, rfl, rfl, trivial⟩ ⟨M21.step E XM21, (by exact Ba), by omega, by rw [if_neg (by omega)]⟩
     ·
      refine cw_set 148 (.bool false) rfl ((by rw [beq_no (by omega)] : (.bool (((bAt s (x.i + 1) : Nat) : Int) == 43) : Value) = _)) ?_
      refine cw_else rfl ?_
      refine cw_seq ?_
      refine cw_region ?_
      refine rs_op rfl (ow_eql rfl rfl ?_)
      refine rs_op rfl (ow_assign rfl ?_)
      refine rs_nil ?_
      refine ew_next ?_
      by_cases c45 : bAt s (x.i + 1) = 45
      ·
       refine cw_set 152 (.bool true) rfl ((by rw [c45]; rfl : (.bool (((bAt s (x.i + 1) : Nat) : Int) == 45) : Value) = _)) ?_
       refine cw_then rfl ?_
       refine cw_seq ?_
       refine cw_region ?_
       refine rs_op rfl (ow_move rfl ?_)
       refine rs_op rfl (ow_add rfl rfl (wrap_i64 (by omega)) ?_)
       refine rs_op rfl (ow_assign rfl ?_)
       refine rs_nil ?_
       refine ew_next ?_
       refine cw_region ?_
       refine rs_op rfl (ow_assign rfl ?_)
       refine rs_nil ?_
       refine ew_block_normal ?_
       exact ew_mid (x.i + 2, -1) ⟨rfl, rfl, rfl, rfl, rfl, trivial⟩ ⟨M21.step E XM21, (by exact Ba), by omega, by rw [if_pos c45]⟩
      ·
       refine cw_set 152 (.bool false) rfl ((by rw [beq_no (by omega)] : (.bool (((bAt s (x.i + 1) : Nat) : Int) == 45) : Value) = _)) ?_
       refine cw_else rfl ?_
       refine cw_skip ?_
       refine ew_block_normal ?_
       exact ew_mid (x.i + 1, 1) ⟨rfl, rfl, rfl, rfl, rfl, trivial⟩ ⟨M21.step E XM21, (by exact Ba), by omega, by rw [if_neg c45]⟩
    ·
     have LTa := (some_lt Ba.lt)
     clear Ba
     rintro ⟨k, g⟩ w22 ⟨M21, Ba, ⟨hk, hg⟩⟩
     have XM21 : ∀ q9, (Mut [(some ga)]) q9 → (Mut [(some ga)]) q9 ∨ w20.heap.size ≤ q9 := (Mut.grow Mut.none_ (fun k e => Or.inl (Mut.head k e)))
     replace E := E.trans M21
     replace HF := HF.on E
     replace LW := LW.step E XLW
     replace E := Ext.refl (Mut [(some ga)]) w22
     clear LTa
     subst hk
     have hdq := hx4 k (Nat.le_refl _) hx3
     refine cw_seq ?_
     refine cw_seq ?_
     refine cw_region ?_
     refine rs_op rfl (ow_move rfl ?_)
     refine rs_op rfl (ow_move rfl ?_)
     refine rs_op rfl (ow_lenS Tryz.underlying9 rfl ?_)
     refine rs_op rfl (ow_geq rfl rfl ?_)
     refine rs_op rfl (ow_move rfl ?_)
     refine rs_set 160 (.bool false) rfl ((by rw [decide_eq_false (by omega)] : (.bool (decide (((s.size : Nat) : Int) ≤ ((k : Nat) : Int))) : Value) = _)) ?_
     refine rs_op rfl (ow_on rfl (ow_move rfl ?_))
     refine rs_op rfl (ow_on rfl (ow_move rfl ?_))
     refine rs_op rfl (ow_on rfl (ow_indexSL (j := k) (b := bAt s (k)) Tryz.underlying9 rfl rfl rfl (bAt_some (by omega)) ?_))
     refine rs_op rfl (ow_on rfl (ow_lss rfl rfl ?_))
     refine rs_op rfl (ow_pickF rfl rfl ?_)
     refine rs_op rfl (ow_move rfl ?_)
     refine rs_set 166 (.bool false) rfl ((by rw [decide_eq_false (by omega)] : (.bool (decide (((bAt s (k) : Nat) : Int) < 48)) : Value) = _)) ?_
     refine rs_op rfl (ow_on rfl (ow_move rfl ?_))
     refine rs_op rfl (ow_on rfl (ow_move rfl ?_))
     refine rs_op rfl (ow_on rfl (ow_indexSL (j := k) (b := bAt s (k)) Tryz.underlying9 rfl rfl rfl (bAt_some (by omega)) ?_))
     refine rs_op rfl (ow_on rfl (ow_gtr rfl rfl ?_))
     refine rs_op rfl (ow_pickF rfl rfl ?_)
     refine rs_nil ?_
     refine ew_next ?_
     refine cw_set 171 (.bool false) rfl ((by rw [decide_eq_false (by omega)] : (.bool (decide (57 < ((bAt s (k) : Nat) : Int))) : Value) = _)) ?_
     refine cw_else rfl ?_
     refine cw_skip ?_
     refine ew_next ?_
     refine cw_seq ?_
     refine cw_region ?_
     refine rs_op rfl (ow_assign rfl ?_)
     refine rs_nil ?_
     refine ew_next ?_
     refine cw_seq ?_
     replace HF := HF.on E
     replace LW := LW.step E XLW
     replace E := Ext.refl (Mut [(some ga)]) w22
     refine cw_join (ι := ExS) (fun y => [(0, .pointer (some ⟨ga, 0, none⟩)), (1, .string s), (4, .bool false), (5, .int .i64 ((y.i : Nat) : Int)), (8, .int .i64 g), (9, .int .i64 ((y.e : Nat) : Int))]) (fun y w' => Ext (Mut [(some ga)]) w22 w' ∧ Blk w' ga 193 (decC { x.t with dp := d2 }) ∧ (y = exA s k)) ?_ ?_
     ·
      have M23 := Ext.refl (Mut [(some ga)]) w22
      have XM23 : ∀ q9, (Mut [(some ga)]) q9 → (Mut [(some ga)]) q9 ∨ w22.heap.size ≤ q9 := fun _ h => Or.inl h
      refine cw_block ?_
      replace HF := HF.on E
      replace LW := LW.step E XLW
      replace M23 := M23.step E XM23
      replace E := Ext.refl (Mut [(some ga)]) w22
      refine cw_loop (ι := ExS) (fun y => [(0, .pointer (some ⟨ga, 0, none⟩)), (1, .string s), (4, .bool false), (5, .int .i64 ((y.i : Nat) : Int)), (8, .int .i64 g), (9, .int .i64 ((y.e : Nat) : Int))]) (fun y w' => Ext (Mut [(some ga)]) w22 w' ∧ Blk w' ga 193 (decC { x.t with dp := d2 }) ∧ (ExI s k y ∧ until_ (exDone s) (exStep s) y = exA s k)) (fun y => s.size - y.i) (⟨k, 0⟩) ⟨rfl, rfl, rfl, rfl, rfl, rfl, trivial⟩ ⟨Ext.refl _ _, (by exact Ba), ⟨⟨Nat.le_refl _, Nat.le_of_lt hx3⟩, by show 0 < 100000; decide⟩, rfl⟩ ?_
      have LTa := (some_lt Ba.lt)
      clear Ba
      rintro y w26 ⟨M25, Ba, ⟨hI, hu⟩⟩
      have XM25 : ∀ q9, (Mut [(some ga)]) q9 → (Mut [(some ga)]) q9 ∨ w22.heap.size ≤ q9 := (Mut.grow Mut.none_ (fun k e => Or.inl (Mut.head k e)))
      replace E := E.trans M25
      replace HF := HF.on E
      replace LW := LW.step E XLW
      replace M23 := M23.step E XM23
      replace E := Ext.refl (Mut [(some ga)]) w26
      clear LTa
      have hhi := hI.hi
      have hhe := hI.he
      refine cw_seq ?_
      refine cw_seq ?_
      refine cw_region ?_
      refine rs_op rfl (ow_move rfl ?_)
      refine rs_op rfl (ow_move rfl ?_)
      refine rs_op rfl (ow_lenS Tryz.underlying9 rfl ?_)
      refine rs_op rfl (ow_lss rfl rfl ?_)
      refine rs_op rfl (ow_move rfl ?_)
      refine rs_split 176 rfl (fun h7 => ?_) (fun h7 => ?_)
      ·
       have h7 : y.i < s.size := by have h7 := of_decide_eq_true h7; omega
       have hc := hx4 y.i hhi.1 h7
       have hdone : exDone s y = false := by unfold exDone; rw [decide_eq_false (by omega), isDg_of hc]; rfl
       have hkeep := (ex_keeps hI hdone).1
       rw [until_next hdone] at hu
       refine rs_op rfl (ow_on rfl (ow_move rfl ?_))
       refine rs_op rfl (ow_on rfl (ow_move rfl ?_))
       refine rs_op rfl (ow_on rfl (ow_indexSL (j := y.i) (b := bAt s (y.i)) Tryz.underlying9 rfl rfl rfl (bAt_some (by omega)) ?_))
       refine rs_op rfl (ow_on rfl (ow_leq rfl rfl ?_))
       refine rs_op rfl (ow_on rfl (ow_move rfl ?_))
       refine rs_set 181 (.bool true) rfl ((by rw [decide_eq_true (by omega)] : (.bool (decide (48 ≤ ((bAt s (y.i) : Nat) : Int))) : Value) = _)) ?_
       refine rs_op rfl (ow_on rfl (ow_move rfl ?_))
       refine rs_op rfl (ow_on rfl (ow_move rfl ?_))
       refine rs_op rfl (ow_on rfl (ow_indexSL (j := y.i) (b := bAt s (y.i)) Tryz.underlying9 rfl rfl rfl (bAt_some (by omega)) ?_))
       refine rs_op rfl (ow_on rfl (ow_leq rfl rfl ?_))
       refine rs_op rfl (ow_on rfl (ow_pickT rfl rfl ?_))
       refine rs_op rfl (ow_on rfl (ow_move rfl ?_))
       refine rs_set 187 (.bool true) rfl ((by rw [decide_eq_true (by omega)] : (.bool (decide (((bAt s (y.i) : Nat) : Int) ≤ 57)) : Value) = _)) ?_
       refine rs_op rfl (ow_off rfl ?_)
       refine rs_op rfl (ow_off rfl ?_)
       refine rs_op rfl (ow_off rfl ?_)
       refine rs_op rfl (ow_off rfl ?_)
       refine rs_op rfl (ow_on rfl (ow_pickT rfl rfl ?_))
       refine rs_op rfl (ow_pickT rfl rfl ?_)
       refine rs_nil ?_
       refine ew_next ?_
       refine cw_then rfl ?_
       refine cw_skip ?_
       refine ew_next ?_
       refine cw_seq ?_
       refine cw_block ?_
       refine cw_seq ?_
       refine cw_seq ?_
       refine cw_region ?_
       refine rs_op rfl (ow_move rfl ?_)
       refine rs_op rfl (ow_move rfl ?_)
       refine rs_op rfl (ow_indexSL (j := y.i) (b := bAt s (y.i)) Tryz.underlying9 rfl rfl rfl (bAt_some (by omega)) ?_)
       refine rs_op rfl (ow_eql rfl rfl ?_)
       refine rs_nil ?_
       refine ew_next ?_
       refine cw_set 199 (.bool false) rfl ((by rw [beq_no (by omega)] : (.bool (((bAt s (y.i) : Nat) : Int) == 95) : Value) = _)) ?_
       refine cw_else rfl ?_
       refine cw_skip ?_
       refine ew_next ?_
       refine cw_seq ?_
       refine cw_region ?_
       refine rs_op rfl (ow_move rfl ?_)
       refine rs_op rfl (ow_lss rfl rfl ?_)
       refine rs_nil ?_
       refine ew_next ?_
       refine cw_cond rfl (fun h8 => ?_) (fun h8 => ?_)
       ·
        have h8 : y.e < 10000 := by have h8 := of_decide_eq_true h8; omega
        have hstep : exStep s y = ⟨y.i + 1, y.e * 10 + (bAt s y.i - 48)⟩ := by unfold exStep; rw [if_pos h8]
        rw [hstep] at hkeep hu
        refine cw_region ?_
        refine rs_op rfl (ow_move rfl ?_)
        refine rs_op rfl (ow_mul rfl rfl (wrap_i64 (by omega)) ?_)
        refine rs_op rfl (ow_move rfl ?_)
        refine rs_op rfl (ow_move rfl ?_)
        refine rs_op rfl (ow_indexSL (j := y.i) (b := bAt s (y.i)) Tryz.underlying9 rfl rfl rfl (bAt_some (by omega)) ?_)
        refine rs_op rfl (ow_conv Tryz.underlying3 Tryz.underlying5 rfl (wrap_i64 (by omega)) ?_)
        refine rs_op rfl (ow_add rfl rfl (wrap_i64 (by omega)) ?_)
        refine rs_op rfl (ow_sub rfl rfl (wrap_i64 (by omega)) ?_)
        refine rs_op rfl (ow_assign rfl ?_)
        refine rs_nil ?_
        refine ew_block_normal ?_
        refine ew_next ?_
        refine cw_region ?_
        refine rs_op rfl (ow_move rfl ?_)
        refine rs_op rfl (ow_add rfl rfl (wrap_i64 (by omega)) ?_)
        refine rs_op rfl (ow_assign rfl ?_)
        refine rs_nil ?_
        refine ew_set 9 (.int .i64 ((y.e * 10 + (bAt s y.i - 48) : Nat) : Int)) rfl ((by congr 1; omega : (.int .i64 (((((y.e : Nat) : Int) * 10) + ((bAt s (y.i) : Nat) : Int)) - 48) : Value) = _)) ?_
        exact ew_round (ι := ExS) (s := fun y => [(0, .pointer (some ⟨ga, 0, none⟩)), (1, .string s), (4, .bool false), (5, .int .i64 ((y.i : Nat) : Int)), (8, .int .i64 g), (9, .int .i64 ((y.e : Nat) : Int))]) (R := fun y w' => Ext (Mut [(some ga)]) w22 w' ∧ Blk w' ga 193 (decC { x.t with dp := d2 }) ∧ (ExI s k y ∧ until_ (exDone s) (exStep s) y = exA s k)) (m := fun y => s.size - y.i) (i := y) (⟨y.i + 1, y.e * 10 + (bAt s y.i - 48)⟩) (by show s.size - (y.i + 1) < s.size - y.i; omega) ⟨rfl, rfl, rfl, rfl, rfl, rfl, trivial⟩ ⟨M25.step E XM25, (by exact Ba), hkeep, hu⟩
       ·
        have h8 : ¬ y.e < 10000 := by have h8 := of_decide_eq_false h8; omega
        have hstep : exStep s y = ⟨y.i + 1, y.e⟩ := by unfold exStep; rw [if_neg h8]
        rw [hstep] at hkeep hu
        refine cw_skip ?_
        refine ew_block_normal ?_
        refine ew_next ?_
        refine cw_region ?_
        refine rs_op rfl (ow_move rfl ?_)
        refine rs_op rfl (ow_add rfl rfl (wrap_i64 (by omega)) ?_)
        refine rs_op rfl (ow_assign rfl ?_)
        refine rs_nil ?_
        exact ew_round (ι := ExS) (s := fun y => [(0, .pointer (some ⟨ga, 0, none⟩)), (1, .string s), (4, .bool false), (5, .int .i64 ((y.i : Nat) : Int)), (8, .int .i64 g), (9, .int .i64 ((y.e : Nat) : Int))]) (R := fun y w' => Ext (Mut [(some ga)]) w22 w' ∧ Blk w' ga 193 (decC { x.t with dp := d2 }) ∧ (ExI s k y ∧ until_ (exDone s) (exStep s) y = exA s k)) (m := fun y => s.size - y.i) (i := y) (⟨y.i + 1, y.e⟩) (by show s.size - (y.i + 1) < s.size - y.i; omega) ⟨rfl, rfl, rfl, rfl, rfl, rfl, trivial⟩ ⟨M25.step E XM25, (by exact Ba), hkeep, hu⟩
      ·
       have h7 : ¬ y.i < s.size := by have h7 := of_decide_eq_false h7; omega
       have hdone : exDone s y = true := by unfold exDone; rw [decide_eq_true (by omega)]; rfl
       rw [until_stop hdone] at hu
       refine rs_op rfl (ow_off rfl ?_)
       refine rs_op rfl (ow_off rfl ?_)
       refine rs_op rfl (ow_off rfl ?_)
       refine rs_op rfl (ow_off rfl ?_)
       refine rs_op rfl (ow_off rfl ?_)
       refine rs_op rfl (ow_offU rfl rfl ?_)
       refine rs_op rfl (ow_offU rfl rfl ?_)
       refine rs_op rfl (ow_offU rfl rfl ?_)
       refine rs_op rfl (ow_offU rfl rfl ?_)
       refine rs_op rfl (ow_off rfl ?_)
       refine rs_op rfl (ow_off rfl ?_)
       refine rs_op rfl (ow_offU rfl rfl ?_)
       refine rs_op rfl (ow_offU rfl rfl ?_)
       refine rs_op rfl (ow_offU rfl rfl ?_)
       refine rs_op rfl (ow_offU rfl rfl ?_)
       refine rs_op rfl (ow_off rfl ?_)
       refine rs_op rfl (ow_pickF rfl rfl ?_)
       refine rs_nil ?_
       refine ew_next ?_
       refine cw_else rfl ?_
       refine cw_exit ?_
       refine ew_then_exit ?_
       refine ew_then_exit ?_
       refine ew_block_here ?_
       exact ew_mid y ⟨rfl, rfl, rfl, rfl, rfl, rfl, trivial⟩ ⟨M23.step E XM23, (by exact Ba), hu⟩
     ·
      have LTa := (some_lt Ba.lt)
      clear Ba
      rintro y w24 ⟨M23, Ba, hy⟩
      have XM23 : ∀ q9, (Mut [(some ga)]) q9 → (Mut [(some ga)]) q9 ∨ w22.heap.size ≤ q9 := (Mut.grow Mut.none_ (fun k e => Or.inl (Mut.head k e)))
      replace E := E.trans M23
      replace HF := HF.on E
      replace LW := LW.step E XLW
      replace E := Ext.refl (Mut [(some ga)]) w24
      clear LTa
      obtain ⟨hI, hdx⟩ := exA_ends (s := s) (q := k) (by omega)
      rw [← hy] at hI hdx
      have hxi := ex_out hx4 hI hdx
      have hxe := hI.he
      have hX : IntKind.i64.wrap (((y.e : Nat) : Int) * g) = expo s Z := by
       have e9 : expo s Z = ((y.e : Nat) : Int) * g := by
        unfold expo
        rw [if_neg (by omega), ← hRi, hg, hy]
        rcases hx2 with ⟨h9, h10, h11⟩ | ⟨h9, h10⟩
        · rw [if_neg h11, if_neg h10, if_neg h11, ← h9, Int.mul_one]
        · rcases h10 with h10 | h10
          · rw [if_neg (by omega), if_pos h10, if_neg (by omega), ← h9, Int.mul_one]
          · rw [if_pos h10, if_pos h10, ← h9, Int.mul_neg, Int.mul_one]
       have h12 := expo_le hs
       rw [← e9]
       exact wrap_i64 (by omega)
      have h12 := expo_le hs
      refine cw_region ?_
      refine rs_op rfl (ow_move rfl ?_)
      refine rs_op rfl (ow_nilCheck rfl ?_)
      refine rs_op rfl (ow_fieldAddr Tryz.underlying193 rfl sz3 (by decide) rfl ?_)
      refine rs_op rfl (ow_loadF Tryz.underlying3 rfl rfl Ba (dpAt hl2 d2 rfl) ?_)
      refine rs_op rfl (ow_move rfl ?_)
      refine rs_op rfl (ow_move rfl ?_)
      refine rs_op rfl (ow_mul rfl rfl hX ?_)
      refine rs_op rfl (ow_add rfl rfl (wrap_i64 (by omega)) ?_)
      refine rs_op rfl (ow_nilCheck rfl ?_)
      refine rs_op rfl (ow_fieldAddr Tryz.underlying193 rfl sz3 (by decide) rfl ?_)
      refine rs_op0 (ow_storeE sz3 rfl rfl Ba rfl rfl (in_ hl2 (by decide : 801 < 804)) (set_dp hl2 (d2 + expo s Z)) ?_)
      intro w27 Bx Ea
      replace Ba : Blk w27 ga 193 (decC { x.t with dp := d2 + expo s Z }) := Bx
      clear Bx
      replace E := E.step1 Ea Mut.head
      clear Ea
      refine rs_nil ?_
      refine ew_next ?_
      refine cw_seq ?_
      refine cw_seq ?_
      refine cw_region ?_
      refine rs_op rfl (ow_move rfl ?_)
      refine rs_op rfl (ow_move rfl ?_)
      refine rs_op rfl (ow_lenS Tryz.underlying9 rfl ?_)
      refine rs_op rfl (ow_neq rfl rfl ?_)
      refine rs_nil ?_
      refine ew_next ?_
      refine cw_set 223 (.bool false) rfl ((by rw [hxi]; simp : (.bool (((y.i : Nat) : Int) != ((s.size : Nat) : Int)) : Value) = _)) ?_
      refine cw_else rfl ?_
      refine cw_skip ?_
      refine ew_next ?_
      refine cw_seq ?_
      refine cw_region ?_
      refine rs_op rfl (ow_assign rfl ?_)
      refine rs_nil ?_
      refine ew_next ?_
      refine cw_ret ?_
      refine ew_ret (rs := [.tmp 4]) (vs := [_]) rfl ⟨rfl, trivial⟩ ?_
      exact ⟨rfl, by rw [hP0]; exact Ba, (LW.step E XLW)⟩
   ·
    have hz : expo s Z = 0 := by unfold expo; rw [if_pos (by omega)]
    refine cw_seq ?_
    refine cw_seq ?_
    refine cw_region ?_
    refine rs_op rfl (ow_move rfl ?_)
    refine rs_op rfl (ow_move rfl ?_)
    refine rs_op rfl (ow_lenS Tryz.underlying9 rfl ?_)
    refine rs_op rfl (ow_lss rfl rfl ?_)
    refine rs_op rfl (ow_move rfl ?_)
    refine rs_set 132 (.bool false) rfl ((by rw [decide_eq_false (by omega)] : (.bool (decide (((x.i : Nat) : Int) < ((s.size : Nat) : Int))) : Value) = _)) ?_
    refine rs_op rfl (ow_off rfl ?_)
    refine rs_op rfl (ow_off rfl ?_)
    refine rs_op rfl (ow_off rfl ?_)
    refine rs_op rfl (ow_off rfl ?_)
    refine rs_op rfl (ow_off rfl ?_)
    refine rs_op rfl (ow_pickF rfl rfl ?_)
    refine rs_nil ?_
    refine ew_next ?_
    refine cw_else rfl ?_
    refine cw_skip ?_
    refine ew_next ?_
    refine cw_seq ?_
    refine cw_seq ?_
    refine cw_region ?_
    refine rs_op rfl (ow_move rfl ?_)
    refine rs_op rfl (ow_move rfl ?_)
    refine rs_op rfl (ow_lenS Tryz.underlying9 rfl ?_)
    refine rs_op rfl (ow_neq rfl rfl ?_)
    refine rs_nil ?_
    refine ew_next ?_
    refine cw_set 223 (.bool false) rfl ((by rw [show x.i = s.size by omega]; simp : (.bool (((x.i : Nat) : Int) != ((s.size : Nat) : Int)) : Value) = _)) ?_
    refine cw_else rfl ?_
    refine cw_skip ?_
    refine ew_next ?_
    refine cw_seq ?_
    refine cw_region ?_
    refine rs_op rfl (ow_assign rfl ?_)
    refine rs_nil ?_
    refine ew_next ?_
    refine cw_ret ?_
    refine ew_ret (rs := [.tmp 4]) (vs := [_]) rfl ⟨rfl, trivial⟩ ?_
    exact ⟨rfl, by rw [hP0, hz, Int.add_zero]; exact Ba, (LW.step E XLW)⟩
end
end Go.Proofs.YtjdcjdohghkcgaaGreatDoor
namespace Go.Proofs.YtjdcjdohghkcgaaGreatDoor
open Go.RowKit
set_option maxRecDepth 100000
theorem run_equalIN {P : Program} {w : World} {T U : TypeId} {v : Value} {ms : Array (String × TypeId)} (hd : P.underlying T = some (.interface ms)) : (Op.equal T (.iface U v) .nilIface).run P w = .ok false w := by
  have e : Op.maxDepth = 9999 + 1 := rfl
  have key : ∀ d : Nat, (Op.equalIn (d + 1) T (.iface U v) .nilIface).run P w = .ok false w := by
    intro d
    rw [Op.equalIn]
    simp only [Sem.run_bind, run_underlying hd, Result.andThen_ok]
    rfl
  unfold Op.equal
  rw [e]
  exact key 9999
theorem ow_neqI {P : Program} {N : Nat} {ops : Array Oper} {Q : Exit → Act → World → Prop} {σ : Env} {w : World} {ty : TypeId} {pos : String} {af : Array Edge} {dst : Option Nat} {Post : Value → World → Prop} {T U D : TypeId} {v : Value} {x : Operand} {ms : Array (String × TypeId)} (hd : P.underlying T = some (.interface ms)) (hx : ev σ x = some (.iface D v)) (k : Post (.bool true) w) : OW P N ops Q ⟨dst, .binOp .neq T x (.const .nilIface) U, ty, pos, af, none⟩ σ w Post :=
  ow_val (fun ρ ha => by
    have e := run_equalIN (P := P) (w := w) (U := D) (v := v) hd
    have hc : ρ (.const .nilIface) = .nilIface := ha rfl
    simp only [execOp, ha hx, hc, eqGuard, binOp]
    simp only [Bool.not_true, Bool.false_eq_true, if_false, Sem.run_bind, e, Result.andThen_ok, Sem.run_pure]
    rfl) k
theorem range_err (fn s : ByteArray) (base bits : Int) (w : World) (hl : s.size < 100000) (hv : ∃ te pe, w.cell? ⟨4, 0, none⟩ = some (.iface te pe)) :
    Calls Tryz.prog 86 #[.string fn, .string s, .int .i64 base, .int .i64 bits, rangeE] w fun e w' => (∃ er, e = .returned er) ∧ Below w.heap.size w w' := by
  obtain ⟨te, pe, hv⟩ := hv
  refine (AnyPu.strconv_toError_range (ρ := Tryz.laysPu14_ren) { Tryz.laysPu14 with } fn s base bits (.iface te pe) w (by omega) hv (.inr ⟨te, pe, rfl⟩)).mono ?_
  rintro e w' ⟨N, rfl, _, _, hb⟩
  exact ⟨⟨_, rfl⟩, hb⟩
theorem zrDec : ZeroIs Tryz.prog 193 (.agg (decC (dec0 false))) := by
  unfold decC decL
  exact (by kernel_rfl : (Tryz.prog.info? 193).map (·.zero) = some (some (.agg ((dec0 false).d.map (fun b => (.int .u8 ((b : Nat) : Int) : Value)) ++ ([.int .i64 (((dec0 false).nd : Nat) : Int), .int .i64 (dec0 false).dp, .bool (dec0 false).neg, .bool (dec0 false).tr] : List Value)).toArray)))
theorem bAt_extract {s : ByteArray} {k i : Nat} : bAt (s.extract k s.size) i = bAt s (k + i) := by
  unfold bAt
  rw [ByteArray.data_extract, Array.getElem?_extract]
  by_cases h : i < s.size - k
  · rw [if_pos (by show i < min s.size s.data.size - k; rw [show s.data.size = s.size from rfl, Nat.min_self]; exact h)]
  · rw [if_neg (by show ¬ i < min s.size s.data.size - k; rw [show s.data.size = s.size from rfl, Nat.min_self]; exact h)]
    have : s.data[k + i]? = none := Array.getElem?_eq_none (by show s.size ≤ k + i; omega)
    rw [this]
theorem extract_all (s : ByteArray) : s.extract 0 s.size = s := by
  apply ByteArray.ext
  rw [ByteArray.data_extract]
  exact Array.extract_eq_self_of_le (Nat.le_refl _)
theorem extract_size {s : ByteArray} {k : Nat} : (s.extract k s.size).size = s.size - k := by
  rw [ByteArray.size_extract, Nat.min_self]
theorem setD_dp {s : ByteArray} {f p Z q : Nat} (neg : Bool) (hs : Nm s f p Z q) (hl : s.size < 100000) : -20000000 ≤ (setD s f neg).dp ∧ (setD s f neg).dp ≤ 20000000 := by
  obtain ⟨h, hi⟩ := stA_ends neg hs
  have h1 := h.hp
  have h2 := h.dec.hn
  have h3 := h.iE
  have h4 := hs.hE
  have h5 := expo_le hs
  rw [← hi] at h5
  unfold setD
  show -20000000 ≤ (if (stA s f neg).dot = true then (stA s f neg).t.dp else (((stA s f neg).t.nd : Nat) : Int)) + expo s (stA s f neg).i ∧ (if (stA s f neg).dot = true then (stA s f neg).t.dp else (((stA s f neg).t.nd : Nat) : Int)) + expo s (stA s f neg).i ≤ 20000000
  split <;> omega
end Go.Proofs.YtjdcjdohghkcgaaGreatDoor
namespace Go.Proofs.YtjdcjdohghkcgaaGreatDoor
open Go.RowKit
set_option maxRecDepth 100000
theorem ru_shift {s : ByteArray} {f i : Nat} : ruDone (s.extract f s.size) i = ruDone s (f + i) := by
  unfold ruDone
  rw [bAt_extract, extract_size]
  congr 1
  exact decide_eq_decide.2 (by omega)
theorem run_shift {s : ByteArray} {f a : Nat} (h : f + a ≤ s.size) : runD s (f + a) = f + runD (s.extract f s.size) a := by
  obtain ⟨h1, h2⟩ := runD_ends (s := s.extract f s.size) (a := a) (by rw [extract_size]; omega)
  have h3 := h1.lo
  have h4 := h1.hi
  rw [extract_size] at h4
  refine runD_eq ⟨by omega, by omega, fun j hj hk => ?_⟩ (by rw [← ru_shift]; exact h2)
  have := h1.dig (j - f) (by omega) (by omega)
  rw [bAt_extract, show f + (j - f) = j by omega] at this
  exact this
theorem nQ_shift {s : ByteArray} {f b : Nat} : nQ s (f + b) = f + nQ (s.extract f s.size) b := by
  unfold nQ
  rw [bAt_extract, show f + (b + 1) = f + b + 1 by omega]
  split <;> omega
theorem nB_shift {s : ByteArray} {f a : Nat} : nB s (f + a) = f + nB (s.extract f s.size) a := by
  unfold nB
  rw [bAt_extract]
  split
  · rename_i h
    have := bAt_in (s := s) (i := f + a) (by omega)
    rw [show f + a + 1 = f + (a + 1) by omega, run_shift (by omega)]
  · rfl
theorem nC_shift {s : ByteArray} {f b : Nat} : nC s (f + b) = f + nC (s.extract f s.size) b := by
  unfold nC
  rw [bAt_extract]
  split
  · rename_i h
    have := bAt_in (s := s) (i := f + b) (by omega)
    have h1 := nQ_le (s := s) (b := f + b) this
    rw [nQ_shift] at h1 ⊢
    exact run_shift h1
  · rfl
theorem num_shift {s : ByteArray} {f : Nat} (hf : f ≤ s.size) : NumP (s.extract f s.size) 0 ↔ NumP s f := by
  have e := run_shift (s := s) (f := f) (a := 0) (by omega)
  unfold NumP Num2 Num3
  rw [Nat.add_zero] at e
  rw [e, nB_shift, nC_shift, nQ_shift, bAt_extract, bAt_extract, extract_size]
  constructor
  · rintro ⟨h1, h2, h3, h4⟩
    exact ⟨by omega, fun h => by have := h2 h; omega, by omega, fun h => by have := h4 h; omega⟩
  · rintro ⟨h1, h2, h3, h4⟩
    exact ⟨by omega, fun h => by have := h2 h; omega, by omega, fun h => by have := h4 h; omega⟩
theorem numB_shift {s : ByteArray} {f : Nat} (hf : f ≤ s.size) : numB (s.extract f s.size) 0 = numB s f := by
  by_cases h : NumP s f
  · rw [numB_on h, numB_on ((num_shift hf).2 h)]
  · rw [numB_off h, numB_off (fun e => h ((num_shift hf).1 e))]
theorem extract_extract {s : ByteArray} {f k : Nat} : (s.extract f s.size).extract k (s.extract f s.size).size = s.extract (f + k) s.size := by
  rw [extract_size]
  apply ByteArray.ext
  rw [ByteArray.data_extract, ByteArray.data_extract, ByteArray.data_extract, Array.extract_extract]
  congr 1
  show min (f + (s.size - f)) s.size = s.size
  omega
theorem len_bytes (s : ByteArray) : s.toList.length = s.size := by rw [ByteArray.toList_eq]; rfl
theorem extract_nil {s : ByteArray} {k : Nat} : (s.extract k s.size).toList = [] ↔ s.size ≤ k := by
  have h := len_bytes (s.extract k s.size)
  rw [extract_size] at h
  constructor
  · intro e
    rw [e] at h
    have h : 0 = s.size - k := h
    omega
  · intro e
    exact List.eq_nil_of_length_eq_zero (by omega)
theorem at_bytes (s : ByteArray) (i : Nat) : (s.toList[i]?).map (·.toNat) = (s.data[i]?).map (·.toNat) := by
  rw [ByteArray.toList_eq, Array.getElem?_toList]
theorem list_one {s : ByteArray} {c : UInt8} (h0 : 0 < s.size) : ((s.extract 0 1).toList == [c]) = decide (bAt s 0 = c.toNat) := by
  have hl := len_bytes (s.extract 0 1)
  rw [ByteArray.size_extract, Nat.sub_zero, Nat.min_eq_left (by omega)] at hl
  obtain ⟨d, hd⟩ := List.length_eq_one_iff.1 hl
  have h1 := at_bytes (s.extract 0 1) 0
  rw [hd] at h1
  have h2 : (s.extract 0 1).data[0]? = s.data[0]? := by
    rw [ByteArray.data_extract, Array.getElem?_extract, if_pos (by show 0 < min 1 s.size - 0; omega), Nat.zero_add]
  rw [h2, bAt_some h0] at h1
  have h1 : d.toNat = bAt s 0 := Option.some.inj h1
  rw [hd, ← h1]
  by_cases h : d = c
  · subst h; simp
  · rw [decide_eq_false (fun e => h (UInt8.toNat_inj.1 e))]
    simp [h]
end Go.Proofs.YtjdcjdohghkcgaaGreatDoor
namespace Go.Proofs.YtjdcjdohghkcgaaGreatDoor
open Go.RowKit
set_option maxRecDepth 100000
attribute [local irreducible] OW RS
theorem pa181_1 : Gives 181 #[.bool false] (.int .u64 0) := by
 intro w
 refine calls_cw Tryz.func181 rfl Tryz.ntmps181 rfl ?_
 have HF : Per (No) w (fun _ => True) := Per.true_
 have LW := Ext.refl (No) w
 have XLW : ∀ q9, (No) q9 → (No) q9 ∨ w.heap.size ≤ q9 := fun _ h => Or.inl h
 have E := Ext.refl (No) w
 refine cw_seq ?_
 refine cw_region ?_
 refine rs_op rfl (ow_assign rfl ?_)
 refine rs_nil ?_
 refine ew_next ?_
 refine cw_seq ?_
 refine cw_seq ?_
 refine cw_region ?_
 refine rs_op rfl (ow_move rfl ?_)
 refine rs_nil ?_
 refine ew_next ?_
 refine cw_else rfl ?_
 refine cw_skip ?_
 refine ew_next ?_
 refine cw_seq ?_
 refine cw_region ?_
 refine rs_op rfl (ow_assign rfl ?_)
 refine rs_nil ?_
 refine ew_next ?_
 refine cw_ret ?_
 refine ew_ret (rs := [.tmp 2]) (vs := [.int .u64 0]) rfl ⟨rfl, trivial⟩ ?_
 exact ⟨rfl, (LW.step E XLW).toBelow⟩
section
variable (w : World) {bp op cp bf of cf bl ol cl : Nat}
theorem atof_pos (s : ByteArray) {p Z q : Nat} (hs : Nm s 0 p Z q) (hl : s.size < 100000) (hT : Tabs bp op cp bf of cf bl ol cl w) : Calls Tryz.prog 142 #[.string s] w fun e w' => e = .returned (.tuple #[.float .f64 (atV s 0 false), .int .i64 ((s.size : Nat) : Int), atE s 0 false]) ∧ Below w.heap.size w w' := by
 have hfd := hs.first
 have hfs : 0 < s.size := hs.size
 have hmm := rdM_lt hs
 refine calls_cw Tryz.func142 rfl Tryz.ntmps142 rfl ?_
 have HF : Per (No) w (fun _ => True) := Per.true_
 have LW := Ext.refl (No) w
 have XLW : ∀ q9, (No) q9 → (No) q9 ∨ w.heap.size ≤ q9 := fun _ h => Or.inl h
 have E := Ext.refl (No) w
 replace HF := HF.on E
 replace LW := LW.step E XLW
 replace E := Ext.refl (No) w
 replace HF := HF.and (Per.tabs hT (fun _ h => h.elim))
 refine cw_seq ?_
 refine cw_region ?_
 refine rs_op rfl (ow_assign rfl ?_)
 refine rs_op rfl (ow_assign rfl ?_)
 refine rs_op rfl (ow_assign rfl ?_)
 refine rs_nil ?_
 refine ew_next ?_
 refine cw_seq ?_
 refine cw_seq ?_
 refine cw_region ?_
 refine rs_op rfl (ow_move rfl ?_)
 refine rs_op rfl (ow_enter en172 rfl ((special_digit _ s (bAt s 0) (bAt_some hfs) hfd).mono ?_))
 rintro e w1 ⟨rfl, hb⟩
 refine ⟨_, rfl, ?_⟩
 have Ec := Ext.of_below hb No
 replace E := E.trans Ec.no
 clear hb Ec
 refine rs_op rfl (ow_move rfl ?_)
 refine rs_op rfl (ow_extract rfl rfl ?_)
 refine rs_op rfl (ow_extract rfl rfl ?_)
 refine rs_op rfl (ow_extract rfl rfl ?_)
 refine rs_op rfl (ow_assign rfl ?_)
 refine rs_op rfl (ow_assign rfl ?_)
 refine rs_op rfl (ow_assign rfl ?_)
 refine rs_nil ?_
 refine ew_next ?_
 refine cw_seq ?_
 refine cw_region ?_
 refine rs_op rfl (ow_move rfl ?_)
 refine rs_nil ?_
 refine ew_next ?_
 refine cw_else rfl ?_
 refine cw_skip ?_
 refine ew_next ?_
 refine cw_seq ?_
 refine cw_region ?_
 refine rs_op rfl (ow_move rfl ?_)
 refine rs_op rfl (ow_enter en173 rfl ((read_pos _ s hs hl).mono ?_))
 rintro e w2 ⟨rfl, hb⟩
 refine ⟨_, rfl, ?_⟩
 have Ec := Ext.of_below hb No
 replace E := E.trans Ec.no
 clear hb Ec
 refine rs_op rfl (ow_move rfl ?_)
 refine rs_op rfl (ow_extract rfl rfl ?_)
 refine rs_op rfl (ow_extract rfl rfl ?_)
 refine rs_op rfl (ow_extract rfl rfl ?_)
 refine rs_op rfl (ow_extract rfl rfl ?_)
 refine rs_op rfl (ow_extract rfl rfl ?_)
 refine rs_op rfl (ow_extract rfl rfl ?_)
 refine rs_op rfl (ow_extract rfl rfl ?_)
 refine rs_op rfl (ow_assign rfl ?_)
 refine rs_op rfl (ow_assign rfl ?_)
 refine rs_op rfl (ow_assign rfl ?_)
 refine rs_op rfl (ow_assign rfl ?_)
 refine rs_op rfl (ow_assign rfl ?_)
 refine rs_op rfl (ow_assign rfl ?_)
 refine rs_op rfl (ow_assign rfl ?_)
 refine rs_nil ?_
 refine ew_next ?_
 refine cw_seq ?_
 refine cw_seq ?_
 refine cw_region ?_
 refine rs_op rfl (ow_move rfl ?_)
 refine rs_op rfl (ow_not rfl ?_)
 refine rs_nil ?_
 refine ew_next ?_
 refine cw_else rfl ?_
 refine cw_skip ?_
 refine ew_next ?_
 refine cw_seq ?_
 refine cw_seq ?_
 refine cw_region ?_
 refine rs_op rfl (ow_move rfl ?_)
 refine rs_nil ?_
 refine ew_next ?_
 refine cw_else rfl ?_
 refine cw_skip ?_
 refine ew_next ?_
 refine cw_seq ?_
 refine cw_seq ?_
 refine cw_region ?_
 refine rs_op rfl (ow_load1 Tryz.underlying4 rfl rfl (HF.on E).here.2.opt ?_)
 refine rs_nil ?_
 refine ew_next ?_
 refine cw_then rfl ?_
 refine cw_seq ?_
 refine cw_region ?_
 refine rs_op rfl (ow_move rfl ?_)
 refine rs_op rfl (ow_enter en181 rfl ((pa181_1 _).mono ?_))
 rintro e w3 ⟨rfl, hb⟩
 refine ⟨_, rfl, ?_⟩
 have Ec := Ext.of_below hb No
 replace E := E.trans Ec.no
 clear hb Ec
 refine rs_op rfl (ow_shl (z := 0) rfl rfl (by decide) (by kernel_rfl) ?_)
 refine rs_op rfl (ow_assign rfl ?_)
 refine rs_nil ?_
 refine ew_next ?_
 refine cw_seq ?_
 refine cw_seq ?_
 refine cw_region ?_
 refine rs_op rfl (ow_move rfl ?_)
 refine rs_op rfl (ow_eql rfl rfl ?_)
 refine rs_nil ?_
 refine ew_next ?_
 refine cw_set 69 (.bool (decide (rdM s 0 = 0))) rfl ((by rw [zero_b] : (.bool (((rdM s 0 : Nat) : Int) == 0) : Value) = _)) ?_
 refine cw_cond rfl (fun h1 => ?_) (fun h1 => ?_)
 ·
  have h1 := of_decide_eq_true h1
  refine cw_seq ?_
  refine cw_region ?_
  refine rs_op rfl (ow_move rfl ?_)
  refine rs_op rfl (ow_or (z := 0) rfl rfl (by kernel_rfl) ?_)
  refine rs_op rfl (ow_frombits (b := 0) ex182 rfl ?_)
  refine rs_op rfl (ow_move rfl ?_)
  refine rs_op rfl (ow_assign rfl ?_)
  refine rs_op rfl (ow_assign rfl ?_)
  refine rs_op rfl (ow_assign rfl ?_)
  refine rs_nil ?_
  refine ew_next ?_
  refine cw_ret ?_
  refine ew_then_ret ?_
  refine ew_then_ret ?_
  refine ew_ret (rs := [.tmp 2, .tmp 3, .tmp 4]) (vs := [_, _, _]) rfl ⟨rfl, rfl, rfl, trivial⟩ ?_
  exact ⟨by rw [show atV s 0 false = sgB false ||| 0 by unfold atV; rw [if_pos h1], show atE s 0 false = .nilIface by unfold atE; rw [if_pos h1]]; rfl, (LW.step E XLW).toBelow⟩
 ·
  have h1 := of_decide_eq_false h1
  refine cw_skip ?_
  refine ew_next ?_
  refine cw_seq ?_
  refine cw_seq ?_
  refine cw_region ?_
  refine rs_op rfl (ow_move rfl ?_)
  refine rs_op rfl (ow_gtr rfl rfl ?_)
  refine rs_nil ?_
  refine ew_next ?_
  refine cw_cond rfl (fun h2 => ?_) (fun h2 => ?_)
  ·
   have h2 := of_decide_eq_true h2
   refine cw_seq ?_
   refine cw_region ?_
   refine rs_op rfl (ow_move rfl ?_)
   refine rs_op rfl (ow_or (z := 9218868437227405312) rfl rfl (by kernel_rfl) ?_)
   refine rs_op rfl (ow_frombits (b := 9218868437227405312) ex182 rfl ?_)
   refine rs_op rfl (ow_move rfl ?_)
   refine rs_op rfl (ow_mkI (by kernel_rfl) rfl ?_)
   refine rs_op rfl (ow_assign rfl ?_)
   refine rs_op rfl (ow_assign rfl ?_)
   refine rs_op rfl (ow_assign rfl ?_)
   refine rs_nil ?_
   refine ew_next ?_
   refine cw_ret ?_
   refine ew_then_ret ?_
   refine ew_then_ret ?_
   refine ew_ret (rs := [.tmp 2, .tmp 3, .tmp 4]) (vs := [_, _, _]) rfl ⟨rfl, rfl, rfl, trivial⟩ ?_
   exact ⟨by rw [show atV s 0 false = sgB false ||| 9218868437227405312 by unfold atV; rw [if_neg h1, if_pos h2], show atE s 0 false = rangeE by unfold atE; rw [if_neg h1, if_pos h2]]; rfl, (LW.step E XLW).toBelow⟩
  ·
   have h2 := of_decide_eq_false h2
   refine cw_skip ?_
   refine ew_next ?_
   refine cw_seq ?_
   refine cw_seq ?_
   refine cw_region ?_
   refine rs_op rfl (ow_move rfl ?_)
   refine rs_op rfl (ow_lss rfl rfl ?_)
   refine rs_nil ?_
   refine ew_next ?_
   refine cw_cond rfl (fun h3 => ?_) (fun h3 => ?_)
   ·
    have h3 := of_decide_eq_true h3
    refine cw_seq ?_
    refine cw_region ?_
    refine rs_op rfl (ow_move rfl ?_)
    refine rs_op rfl (ow_or (z := 0) rfl rfl (by kernel_rfl) ?_)
    refine rs_op rfl (ow_frombits (b := 0) ex182 rfl ?_)
    refine rs_op rfl (ow_move rfl ?_)
    refine rs_op rfl (ow_assign rfl ?_)
    refine rs_op rfl (ow_assign rfl ?_)
    refine rs_op rfl (ow_assign rfl ?_)
    refine rs_nil ?_
    refine ew_next ?_
    refine cw_ret ?_
    refine ew_then_ret ?_
    refine ew_then_ret ?_
    refine ew_ret (rs := [.tmp 2, .tmp 3, .tmp 4]) (vs := [_, _, _]) rfl ⟨rfl, rfl, rfl, trivial⟩ ?_
    exact ⟨by rw [show atV s 0 false = sgB false ||| 0 by unfold atV; rw [if_neg h1, if_neg h2, if_pos h3], show atE s 0 false = .nilIface by unfold atE; rw [if_neg h1, if_neg h2, if_pos h3]]; rfl, (LW.step E XLW).toBelow⟩
   ·
    have h3 := of_decide_eq_false h3
    refine cw_skip ?_
    refine ew_next ?_
    refine cw_seq ?_
    refine cw_seq ?_
    refine cw_region ?_
    refine rs_op rfl (ow_move rfl ?_)
    refine rs_op rfl (ow_not rfl ?_)
    refine rs_nil ?_
    refine ew_next ?_
    replace HF := HF.on E
    replace LW := LW.step E XLW
    replace E := Ext.refl (No) w3
    refine cw_join (ι := Unit) (fun _ => [(0, .string s), (3, .int .i64 ((s.size : Nat) : Int)), (4, .nilIface), (8, .int .u64 ((rdM s 0 : Nat) : Int)), (9, .int .i64 (rdX s 0)), (11, .bool (rdT s 0)), (16, .int .u64 ((sgB false : Nat) : Int))]) (fun _ w' => Ext (No) w3 w' ∧ (¬ (rdT s 0 = false ∧ (exF (rdM s 0) (rdX s 0) false).2 = true))) ?_ ?_
    ·
     have M4 := Ext.refl (No) w3
     have XM4 : ∀ q9, (No) q9 → (No) q9 ∨ w3.heap.size ≤ q9 := fun _ h => Or.inl h
     refine cw_cond rfl (fun h5 => ?_) (fun h5 => ?_)
     ·
      have h5 : rdT s 0 = false := by simpa using h5
      refine cw_seq ?_
      refine cw_region ?_
      refine rs_op rfl (ow_move rfl ?_)
      refine rs_op rfl (ow_move rfl ?_)
      refine rs_op rfl (ow_move rfl ?_)
      refine rs_op rfl (ow_enter en183 rfl ((exact_any _ (rdM s 0) (rdX s 0) false (by omega) (HF.on E).here.2).mono ?_))
      rintro e w6 ⟨rfl, hb⟩
      refine ⟨_, rfl, ?_⟩
      have Ec := Ext.of_below hb No
      replace E := E.trans Ec.no
      clear hb Ec
      refine rs_op rfl (ow_move rfl ?_)
      refine rs_op rfl (ow_extract rfl rfl ?_)
      refine rs_op rfl (ow_extract rfl rfl ?_)
      refine rs_op rfl (ow_assign rfl ?_)
      refine rs_op rfl (ow_assign rfl ?_)
      refine rs_nil ?_
      refine ew_next ?_
      refine cw_seq ?_
      refine cw_region ?_
      refine rs_op rfl (ow_move rfl ?_)
      refine rs_nil ?_
      refine ew_next ?_
      refine cw_cond rfl (fun h6 => ?_) (fun h6 => ?_)
      ·
       refine cw_seq ?_
       refine cw_region ?_
       refine rs_op rfl (ow_move rfl ?_)
       refine rs_op rfl (ow_move rfl ?_)
       refine rs_op rfl (ow_assign rfl ?_)
       refine rs_op rfl (ow_assign rfl ?_)
       refine rs_op rfl (ow_assign rfl ?_)
       refine rs_nil ?_
       refine ew_next ?_
       refine cw_ret ?_
       refine ew_then_ret ?_
       refine ew_then_ret ?_
       refine ew_ret (rs := [.tmp 2, .tmp 3, .tmp 4]) (vs := [_, _, _]) rfl ⟨rfl, rfl, rfl, trivial⟩ ?_
       exact ⟨by rw [show atV s 0 false = (exF (rdM s 0) (rdX s 0) false).1 by unfold atV; rw [if_neg h1, if_neg h2, if_neg h3, if_pos ⟨h5, h6⟩], show atE s 0 false = .nilIface by unfold atE; rw [if_neg h1, if_neg h2, if_neg h3, if_pos ⟨h5, h6⟩]]; rfl, (LW.step E XLW).toBelow⟩
      ·
       refine cw_skip ?_
       exact ew_mid () ⟨rfl, rfl, rfl, rfl, rfl, rfl, rfl, trivial⟩ ⟨M4.step E XM4, fun h => absurd h.2 (by rw [h6]; decide)⟩
     ·
      refine cw_skip ?_
      exact ew_mid () ⟨rfl, rfl, rfl, rfl, rfl, rfl, rfl, trivial⟩ ⟨M4.step E XM4, fun h => absurd h5 (by rw [h.1]; decide)⟩
    ·
     rintro _ w5 ⟨M4, h4⟩
     have XM4 : ∀ q9, (No) q9 → (No) q9 ∨ w3.heap.size ≤ q9 := fun _ h => Or.inl h
     replace E := E.trans M4
     replace HF := HF.on E
     replace LW := LW.step E XLW
     replace E := Ext.refl (No) w5
     have hj : 3 ≤ atJ s 0 ∧ atJ s 0 ≤ 658 := by unfold atJ; omega
     refine cw_seq ?_
     refine cw_region ?_
     refine rs_op rfl (ow_move rfl ?_)
     refine rs_op rfl (ow_move rfl ?_)
     refine rs_op rfl (ow_move rfl ?_)
     refine rs_set 101 (.int .i64 (((atJ s 0 : Nat) : Int) - 348)) rfl ((by congr 1; unfold atJ; omega : (.int .i64 (rdX s 0) : Value) = _)) ?_
     refine rs_op rfl (ow_enter en184 rfl ((fast_any _ (rdM s 0) (atJ s 0) (sgB false) (by omega) hj (sgB_lt false) (HF.on E).here.2.pow).mono ?_))
     rintro e w7 ⟨rfl, hb⟩
     refine ⟨_, rfl, ?_⟩
     have Ec := Ext.of_below hb No
     replace E := E.trans Ec.no
     clear hb Ec
     refine rs_op rfl (ow_move rfl ?_)
     refine rs_op rfl (ow_extract rfl rfl ?_)
     refine rs_op rfl (ow_extract rfl rfl ?_)
     refine rs_op rfl (ow_assign rfl ?_)
     refine rs_op rfl (ow_assign rfl ?_)
     refine rs_nil ?_
     refine ew_next ?_
     refine cw_seq ?_
     refine cw_seq ?_
     refine cw_region ?_
     refine rs_op rfl (ow_move rfl ?_)
     refine rs_op rfl (ow_not rfl ?_)
     refine rs_nil ?_
     refine ew_next ?_
     refine cw_cond rfl (fun h5 => ?_) (fun h5 => ?_)
     ·
      have h5 : rdT s 0 = false := by simpa using h5
      refine cw_seq ?_
      refine cw_region ?_
      refine rs_op rfl (ow_move rfl ?_)
      refine rs_op rfl (ow_move rfl ?_)
      refine rs_op rfl (ow_move rfl ?_)
      refine rs_op rfl (ow_assign rfl ?_)
      refine rs_op rfl (ow_assign rfl ?_)
      refine rs_op rfl (ow_assign rfl ?_)
      refine rs_nil ?_
      refine ew_next ?_
      refine cw_ret ?_
      refine ew_then_ret ?_
      refine ew_then_ret ?_
      refine ew_ret (rs := [.tmp 2, .tmp 3, .tmp 4]) (vs := [_, _, _]) rfl ⟨rfl, rfl, rfl, trivial⟩ ?_
      exact ⟨by rw [show atV s 0 false = fastF (rdM s 0) (atJ s 0) (sgB false) by unfold atV; rw [if_neg h1, if_neg h2, if_neg h3, if_neg h4, if_pos (.inl h5)]; try rfl, show atE s 0 false = fastE (rdM s 0) (atJ s 0) (sgB false) by unfold atE; rw [if_neg h1, if_neg h2, if_neg h3, if_neg h4, if_pos (.inl h5)]; try rfl]; rfl, (LW.step E XLW).toBelow⟩
     ·
      have h5 : ¬ rdT s 0 = false := fun e => absurd h5 (by rw [e]; decide)
      refine cw_skip ?_
      refine ew_next ?_
      refine cw_seq ?_
      refine cw_region ?_
      refine rs_op rfl (ow_move rfl ?_)
      refine rs_op rfl (ow_add rfl rfl (wrap_u64 (by omega)) ?_)
      refine rs_op rfl (ow_move rfl ?_)
      refine rs_op rfl (ow_move rfl ?_)
      refine rs_set 113 (.int .u64 ((rdM s 0 + 1 : Nat) : Int)) rfl (rfl) ?_
      refine rs_set 114 (.int .i64 (((atJ s 0 : Nat) : Int) - 348)) rfl ((by congr 1; unfold atJ; omega : (.int .i64 (rdX s 0) : Value) = _)) ?_
      refine rs_op rfl (ow_enter en184 rfl ((fast_any _ (rdM s 0 + 1) (atJ s 0) (sgB false) (by omega) hj (sgB_lt false) (HF.on E).here.2.pow).mono ?_))
      rintro e w8 ⟨rfl, hb⟩
      refine ⟨_, rfl, ?_⟩
      have Ec := Ext.of_below hb No
      replace E := E.trans Ec.no
      clear hb Ec
      refine rs_op rfl (ow_move rfl ?_)
      refine rs_op rfl (ow_extract rfl rfl ?_)
      refine rs_op rfl (ow_extract rfl rfl ?_)
      refine rs_op rfl (ow_assign rfl ?_)
      refine rs_op rfl (ow_assign rfl ?_)
      refine rs_nil ?_
      refine ew_next ?_
      refine cw_seq ?_
      refine cw_region ?_
      refine rs_op rfl (ow_move rfl ?_)
      refine rs_op rfl (ow_move rfl ?_)
      refine rs_op rfl (ow_feql rfl rfl ?_)
      refine rs_nil ?_
      refine ew_next ?_
      refine cw_cond rfl (fun h6 => ?_) (fun h6 => ?_)
      ·
       have h6 : atL s 0 false = true := h6
       refine cw_seq ?_
       refine cw_region ?_
       refine rs_op rfl (ow_move rfl ?_)
       refine rs_op rfl (ow_move rfl ?_)
       refine rs_op rfl (ow_move rfl ?_)
       refine rs_op rfl (ow_assign rfl ?_)
       refine rs_op rfl (ow_assign rfl ?_)
       refine rs_op rfl (ow_assign rfl ?_)
       refine rs_nil ?_
       refine ew_next ?_
       refine cw_ret ?_
       refine ew_then_ret ?_
       refine ew_ret (rs := [.tmp 2, .tmp 3, .tmp 4]) (vs := [_, _, _]) rfl ⟨rfl, rfl, rfl, trivial⟩ ?_
       exact ⟨by rw [show atV s 0 false = fastF (rdM s 0) (atJ s 0) (sgB false) by unfold atV; rw [if_neg h1, if_neg h2, if_neg h3, if_neg h4, if_pos (.inr h6)]; try rfl, show atE s 0 false = fastE (rdM s 0) (atJ s 0) (sgB false) by unfold atE; rw [if_neg h1, if_neg h2, if_neg h3, if_neg h4, if_pos (.inr h6)]; try rfl]; rfl, (LW.step E XLW).toBelow⟩
      ·
       have h6 : ¬ (rdT s 0 = false ∨ atL s 0 false = true) := fun h => h.elim h5 (fun h => by rw [show atL s 0 false = false from h6] at h; cases h)
       have hdec := setD_ok false hs
       have hddp := setD_dp false hs hl
       refine cw_skip ?_
       refine ew_next ?_
       refine cw_seq ?_
       refine cw_region ?_
       refine rs_op rfl (ow_allocB zrDec ?_)
       intro gc w9 Bc Ec Gc
       replace Bc : Blk w9 gc 193 (decC (dec0 false)) := Bc
       have Gc : _ ≤ gc := Nat.le_trans E.size Gc
       have GLc := Nat.le_trans LW.size Gc
       replace E := E.trans Ec.no
       clear Ec
       replace HF := HF.cons (some_ge Gc)
       replace E := E.cons (some gc)
       replace XLW := Mut.grow XLW (fun k e => Or.inr (Nat.le_trans LW.size ((some_ge Gc) k e)))
       have hg := hT.below.le GLc
       refine rs_nil ?_
       refine ew_next ?_
       refine cw_seq ?_
       refine cw_seq ?_
       refine cw_region ?_
       refine rs_op rfl (ow_move rfl ?_)
       refine rs_op rfl (ow_move rfl ?_)
       refine rs_op rfl (ow_sliceS (l := 0) (h := s.size) Tryz.underlying9 rfl rfl ⟨_, rfl⟩ (Nat.zero_le _) (Nat.le_refl _) ?_)
       refine rs_set 127 (.string s) rfl ((by rw [extract_all] : (.string (s.extract 0 s.size) : Value) = _)) ?_
       refine rs_op rfl (ow_enter en179 rfl ((set_pos _ gc s hs hl Bc).mono ?_))
       rintro e w10 ⟨rfl, hB, hE⟩
       refine ⟨_, rfl, ?_⟩
       replace Bc := hB
       clear hB
       replace E := E.step1 hE Mut.head
       clear hE
       refine rs_op rfl (ow_not rfl ?_)
       refine rs_nil ?_
       refine ew_next ?_
       refine cw_else rfl ?_
       refine cw_skip ?_
       refine ew_next ?_
       refine cw_seq ?_
       refine cw_region ?_
       refine rs_op rfl (ow_enter en180 rfl ((bits_any _ gc (setD s 0 false) hdec hddp Bc (HF.on E).here.2 hg).mono ?_))
       rintro e w11 ⟨rfl, ⟨t9, hB⟩, hE⟩
       refine ⟨_, rfl, ?_⟩
       replace Bc := hB
       clear hB
       replace E := E.step1 hE Mut.head
       clear hE
       refine rs_op rfl (ow_move rfl ?_)
       refine rs_op rfl (ow_extract rfl rfl ?_)
       refine rs_op rfl (ow_extract rfl rfl ?_)
       refine rs_op rfl (ow_assign rfl ?_)
       refine rs_op rfl (ow_assign rfl ?_)
       refine rs_nil ?_
       refine ew_next ?_
       refine cw_seq ?_
       refine cw_region ?_
       refine rs_op rfl (ow_move rfl ?_)
       refine rs_op rfl (ow_frombits (b := slowF (setD s 0 false)) ex182 rfl ?_)
       refine rs_op rfl (ow_assign rfl ?_)
       refine rs_nil ?_
       refine ew_next ?_
       refine cw_seq ?_
       refine cw_seq ?_
       refine cw_region ?_
       refine rs_op rfl (ow_move rfl ?_)
       refine rs_nil ?_
       refine ew_next ?_
       refine cw_cond rfl (fun h7 => ?_) (fun h7 => ?_)
       ·
        refine cw_region ?_
        refine rs_op rfl (ow_mkI (by kernel_rfl) rfl ?_)
        refine rs_op rfl (ow_assign rfl ?_)
        refine rs_nil ?_
        refine ew_next ?_
        refine cw_seq ?_
        refine cw_region ?_
        refine rs_op rfl (ow_move rfl ?_)
        refine rs_op rfl (ow_move rfl ?_)
        refine rs_op rfl (ow_move rfl ?_)
        refine rs_op rfl (ow_assign rfl ?_)
        refine rs_op rfl (ow_assign rfl ?_)
        refine rs_op rfl (ow_assign rfl ?_)
        refine rs_nil ?_
        refine ew_next ?_
        refine cw_ret ?_
        refine ew_ret (rs := [.tmp 2, .tmp 3, .tmp 4]) (vs := [_, _, _]) rfl ⟨rfl, rfl, rfl, trivial⟩ ?_
        exact ⟨by rw [show atV s 0 false = slowF (setD s 0 false) by unfold atV; rw [if_neg h1, if_neg h2, if_neg h3, if_neg h4, if_neg h6], show atE s 0 false = rangeE by unfold atE; rw [if_neg h1, if_neg h2, if_neg h3, if_neg h4, if_neg h6, if_pos h7]]; rfl, (LW.step E XLW).toBelow⟩
       ·
        refine cw_skip ?_
        refine ew_next ?_
        refine cw_seq ?_
        refine cw_region ?_
        refine rs_op rfl (ow_move rfl ?_)
        refine rs_op rfl (ow_move rfl ?_)
        refine rs_op rfl (ow_move rfl ?_)
        refine rs_op rfl (ow_assign rfl ?_)
        refine rs_op rfl (ow_assign rfl ?_)
        refine rs_op rfl (ow_assign rfl ?_)
        refine rs_nil ?_
        refine ew_next ?_
        refine cw_ret ?_
        refine ew_ret (rs := [.tmp 2, .tmp 3, .tmp 4]) (vs := [_, _, _]) rfl ⟨rfl, rfl, rfl, trivial⟩ ?_
        exact ⟨by rw [show atV s 0 false = slowF (setD s 0 false) by unfold atV; rw [if_neg h1, if_neg h2, if_neg h3, if_neg h4, if_neg h6], show atE s 0 false = .nilIface by unfold atE; rw [if_neg h1, if_neg h2, if_neg h3, if_neg h4, if_neg h6, if_neg (by rw [h7]; decide)]]; rfl, (LW.step E XLW).toBelow⟩
theorem prefix_pos (s : ByteArray) {p Z q : Nat} (hs : Nm s 0 p Z q) (hl : s.size < 100000) (hT : Tabs bp op cp bf of cf bl ol cl w) : Calls Tryz.prog 116 #[.string s, .int .i64 64] w fun e w' => e = .returned (.tuple #[.float .f64 (atV s 0 false), .int .i64 ((s.size : Nat) : Int), atE s 0 false]) ∧ Below w.heap.size w w' := by
 refine calls_cw Tryz.func116 rfl Tryz.ntmps116 rfl ?_
 have HF : Per (No) w (fun _ => True) := Per.true_
 have LW := Ext.refl (No) w
 have XLW : ∀ q9, (No) q9 → (No) q9 ∨ w.heap.size ≤ q9 := fun _ h => Or.inl h
 have E := Ext.refl (No) w
 refine cw_seq ?_
 refine cw_region ?_
 refine rs_op rfl (ow_assign rfl ?_)
 refine rs_op rfl (ow_assign rfl ?_)
 refine rs_op rfl (ow_assign rfl ?_)
 refine rs_nil ?_
 refine ew_next ?_
 refine cw_seq ?_
 refine cw_seq ?_
 refine cw_region ?_
 refine rs_op rfl (ow_move rfl ?_)
 refine rs_op rfl (ow_eql rfl rfl ?_)
 refine rs_nil ?_
 refine ew_next ?_
 refine cw_else rfl ?_
 refine cw_skip ?_
 refine ew_next ?_
 refine cw_seq ?_
 refine cw_region ?_
 refine rs_op rfl (ow_move rfl ?_)
 refine rs_op rfl (ow_enter en142 rfl ((atof_pos _ s hs hl hT).mono ?_))
 rintro e w1 ⟨rfl, hb⟩
 refine ⟨_, rfl, ?_⟩
 have Ec := Ext.of_below hb No
 replace E := E.trans Ec.no
 clear hb Ec
 refine rs_op rfl (ow_extract rfl rfl ?_)
 refine rs_op rfl (ow_extract rfl rfl ?_)
 refine rs_op rfl (ow_extract rfl rfl ?_)
 refine rs_op rfl (ow_assign rfl ?_)
 refine rs_op rfl (ow_assign rfl ?_)
 refine rs_op rfl (ow_assign rfl ?_)
 refine rs_nil ?_
 refine ew_next ?_
 refine cw_ret ?_
 refine ew_ret (rs := [.tmp 4, .tmp 5, .tmp 6]) (vs := [_, _, _]) rfl ⟨rfl, rfl, rfl, trivial⟩ ?_
 exact ⟨rfl, (LW.step E XLW).toBelow⟩
theorem inner_pos (s : ByteArray) {p Z q : Nat} (hs : Nm s 0 p Z q) (hl : s.size < 100000) (hT : Tabs bp op cp bf of cf bl ol cl w) : Calls Tryz.prog 85 #[.string s, .int .i64 64] w fun e w' => e = .returned (.tuple #[.float .f64 (atV s 0 false), atE s 0 false]) ∧ Below w.heap.size w w' := by
 refine calls_cw Tryz.func85 rfl Tryz.ntmps85 rfl ?_
 have HF : Per (No) w (fun _ => True) := Per.true_
 have LW := Ext.refl (No) w
 have XLW : ∀ q9, (No) q9 → (No) q9 ∨ w.heap.size ≤ q9 := fun _ h => Or.inl h
 have E := Ext.refl (No) w
 refine cw_seq ?_
 refine cw_region ?_
 refine rs_op rfl (ow_assign rfl ?_)
 refine rs_op rfl (ow_assign rfl ?_)
 refine rs_nil ?_
 refine ew_next ?_
 refine cw_seq ?_
 refine cw_region ?_
 refine rs_op rfl (ow_move rfl ?_)
 refine rs_op rfl (ow_move rfl ?_)
 refine rs_op rfl (ow_enter en116 rfl ((prefix_pos _ s hs hl hT).mono ?_))
 rintro e w1 ⟨rfl, hb⟩
 refine ⟨_, rfl, ?_⟩
 have Ec := Ext.of_below hb No
 replace E := E.trans Ec.no
 clear hb Ec
 refine rs_op rfl (ow_move rfl ?_)
 refine rs_op rfl (ow_extract rfl rfl ?_)
 refine rs_op rfl (ow_extract rfl rfl ?_)
 refine rs_op rfl (ow_extract rfl rfl ?_)
 refine rs_op rfl (ow_assign rfl ?_)
 refine rs_op rfl (ow_assign rfl ?_)
 refine rs_op rfl (ow_assign rfl ?_)
 refine rs_nil ?_
 refine ew_next ?_
 refine cw_seq ?_
 refine cw_seq ?_
 refine cw_region ?_
 refine rs_op rfl (ow_move rfl ?_)
 refine rs_op rfl (ow_move rfl ?_)
 refine rs_op rfl (ow_lenS Tryz.underlying9 rfl ?_)
 refine rs_op rfl (ow_neq rfl rfl ?_)
 refine rs_nil ?_
 refine ew_next ?_
 refine cw_set 19 (.bool false) rfl ((by simp : (.bool (((s.size : Nat) : Int) != ((s.size : Nat) : Int)) : Value) = _)) ?_
 refine cw_else rfl ?_
 refine cw_skip ?_
 refine ew_next ?_
 refine cw_seq ?_
 refine cw_region ?_
 refine rs_op rfl (ow_move rfl ?_)
 refine rs_op rfl (ow_move rfl ?_)
 refine rs_op rfl (ow_assign rfl ?_)
 refine rs_op rfl (ow_assign rfl ?_)
 refine rs_nil ?_
 refine ew_next ?_
 refine cw_ret ?_
 refine ew_ret (rs := [.tmp 4, .tmp 5]) (vs := [_, _]) rfl ⟨rfl, rfl, trivial⟩ ?_
 exact ⟨rfl, (LW.step E XLW).toBelow⟩
/-- strconv.ParseFloat on a numeral. -/
theorem parse_pos (s : ByteArray) {p Z q : Nat} (hs : Nm s 0 p Z q) (hl : s.size < 100000) (hT : Tabs bp op cp bf of cf bl ol cl w) (hE : ∃ te pe, w.cell? ⟨4, 0, none⟩ = some (.iface te pe)) : Calls Tryz.prog 42 #[.string s, .int .i64 64] w fun e w' => (∃ er, e = .returned (.tuple #[.float .f64 (atV s 0 false), er])) ∧ Below w.heap.size w w' := by
 obtain ⟨te, pe, hE⟩ := hE
 have hor := atE_or s 0 false
 obtain ⟨er, her⟩ : ∃ er, er = atE s 0 false := ⟨_, rfl⟩
 rw [← her] at hor
 refine calls_cw Tryz.func42 rfl Tryz.ntmps42 rfl ?_
 have HF : Per (No) w (fun _ => True) := Per.true_
 have LW := Ext.refl (No) w
 have XLW : ∀ q9, (No) q9 → (No) q9 ∨ w.heap.size ≤ q9 := fun _ h => Or.inl h
 have E := Ext.refl (No) w
 replace HF := HF.on E
 replace LW := LW.step E XLW
 replace E := Ext.refl (No) w
 replace HF := HF.and (Per.cellA hE (fun _ h => h.elim))
 refine cw_seq ?_
 refine cw_region ?_
 refine rs_op rfl (ow_assign rfl ?_)
 refine rs_op rfl (ow_assign rfl ?_)
 refine rs_nil ?_
 refine ew_next ?_
 refine cw_seq ?_
 refine cw_region ?_
 refine rs_op rfl (ow_move rfl ?_)
 refine rs_op rfl (ow_move rfl ?_)
 refine rs_op rfl (ow_enter en85 rfl ((inner_pos _ s hs hl hT).mono ?_))
 rintro e w1 ⟨rfl, hb⟩
 refine ⟨_, rfl, ?_⟩
 have Ec := Ext.of_below hb No
 replace E := E.trans Ec.no
 clear hb Ec
 rw [← her]
 by_cases hn : er = .nilIface
 ·
  subst hn
  refine rs_op rfl (ow_move rfl ?_)
  refine rs_op rfl (ow_extract rfl rfl ?_)
  refine rs_op rfl (ow_extract rfl rfl ?_)
  refine rs_op rfl (ow_assign rfl ?_)
  refine rs_op rfl (ow_assign rfl ?_)
  refine rs_nil ?_
  refine ew_next ?_
  refine cw_seq ?_
  refine cw_seq ?_
  refine cw_region ?_
  refine rs_op rfl (ow_move rfl ?_)
  refine rs_op rfl (ow_neqN Tryz.underlying81 rfl ?_)
  refine rs_nil ?_
  refine ew_next ?_
  refine cw_else rfl ?_
  refine cw_skip ?_
  refine ew_next ?_
  refine cw_seq ?_
  refine cw_region ?_
  refine rs_op rfl (ow_move rfl ?_)
  refine rs_op rfl (ow_assign rfl ?_)
  refine rs_op rfl (ow_assign rfl ?_)
  refine rs_nil ?_
  refine ew_next ?_
  refine cw_ret ?_
  refine ew_ret (rs := [.tmp 4, .tmp 5]) (vs := [_, _]) rfl ⟨rfl, rfl, trivial⟩ ?_
  exact ⟨⟨_, rfl⟩, (LW.step E XLW).toBelow⟩
 ·
  obtain rfl : er = rangeE := hor.resolve_left hn
  refine rs_op rfl (ow_move rfl ?_)
  refine rs_op rfl (ow_extract rfl rfl ?_)
  refine rs_op rfl (ow_extract rfl rfl ?_)
  refine rs_op rfl (ow_assign rfl ?_)
  refine rs_op rfl (ow_assign rfl ?_)
  refine rs_nil ?_
  refine ew_next ?_
  refine cw_seq ?_
  refine cw_seq ?_
  refine cw_region ?_
  refine rs_op rfl (ow_move rfl ?_)
  refine rs_op rfl (ow_neqI Tryz.underlying81 rfl ?_)
  refine rs_nil ?_
  refine ew_next ?_
  refine cw_then rfl ?_
  refine cw_seq ?_
  refine cw_region ?_
  refine rs_op rfl (ow_move rfl ?_)
  refine rs_op rfl (ow_move rfl ?_)
  refine rs_op rfl (ow_move rfl ?_)
  refine rs_op rfl (ow_move rfl ?_)
  refine rs_op rfl (ow_enter en86 rfl ((range_err _ s 0 64 _ hl ⟨te, pe, (HF.on E).here.2⟩).mono ?_))
  rintro e w2 ⟨⟨er2, rfl⟩, hb⟩
  refine ⟨_, rfl, ?_⟩
  have Ec := Ext.of_below hb No
  replace E := E.trans Ec.no
  clear hb Ec
  refine rs_op rfl (ow_assign rfl ?_)
  refine rs_op rfl (ow_assign rfl ?_)
  refine rs_nil ?_
  refine ew_next ?_
  refine cw_ret ?_
  refine ew_then_ret ?_
  refine ew_ret (rs := [.tmp 4, .tmp 5]) (vs := [_, _]) rfl ⟨rfl, rfl, trivial⟩ ?_
  exact ⟨⟨_, rfl⟩, (LW.step E XLW).toBelow⟩
end
end Go.Proofs.YtjdcjdohghkcgaaGreatDoor
namespace Go.Proofs.YtjdcjdohghkcgaaGreatDoor
open Go.RowKit
set_option maxRecDepth 100000
attribute [local irreducible] OW RS
theorem eq_nil (s : ByteArray) (k : Nat) : ((s.extract k s.size).toList == (⟨#[]⟩ : ByteArray).toList) = decide (s.size ≤ k) := by
 rw [bytes_list #[]]
 by_cases h : s.size ≤ k
 · rw [decide_eq_true h, extract_nil.2 h]; rfl
 · rw [decide_eq_false h]
   exact beq_eq_false_iff_ne.2 (fun e => h (extract_nil.1 e))
theorem ne_nil (s : ByteArray) (k : Nat) : (!((s.extract k s.size).toList == (⟨#[]⟩ : ByteArray).toList)) = decide (k < s.size) := by
 rw [eq_nil]
 by_cases h : k < s.size
 · rw [decide_eq_true h, decide_eq_false (by omega)]; rfl
 · rw [decide_eq_false h, decide_eq_true (by omega)]; rfl
theorem ext_ext {s : ByteArray} {f k z m : Nat} (hz : z = s.size - f) (hm : f + k = m) : (s.extract f s.size).extract k z = s.extract m s.size := by
 subst hz; subst hm
 rw [← extract_extract, extract_size]
theorem nB_dot {s : ByteArray} {a : Nat} (h : bAt s a = 46) : nB s a = runD s (a + 1) := by unfold nB; rw [if_pos h]
theorem nB_no {s : ByteArray} {a : Nat} (h : ¬ bAt s a = 46) : nB s a = a := by unfold nB; rw [if_neg h]
theorem nC_e {s : ByteArray} {a : Nat} (h : bAt s a = 101) : nC s a = runD s (nQ s a) := by unfold nC; rw [if_pos h]
theorem nC_no {s : ByteArray} {a : Nat} (h : ¬ bAt s a = 101) : nC s a = a := by unfold nC; rw [if_neg h]
theorem nC_le {s : ByteArray} {b : Nat} (hb : b ≤ s.size) : nC s b ≤ s.size := by
 by_cases h : bAt s b = 101
 · rw [nC_e h]
   exact (runD_ends (nQ_le (bAt_in (by omega)))).1.hi
 · rw [nC_no h]; exact hb
theorem sgB_add {x : Nat} (h : x ≤ 9218868437227405312) (neg : Bool) : sgB neg ||| x = sgB neg + x := by
 cases neg with
 | false => rw [show sgB false = 0 from rfl, Nat.zero_or, Nat.zero_add]
 | true =>
  have h2 := Nat.two_pow_add_eq_or_of_lt (show x < 2 ^ 63 by show x < 9223372036854775808; omega) 1
  exact h2.symm
section
variable (w : World)
theorem digits_any (s : ByteArray) (hl : s.size < 100000) : Calls Tryz.prog 83 #[.string s] w fun e w' => e = .returned (.int .i64 ((runD s 0 : Nat) : Int)) ∧ Below w.heap.size w w' := by
 have hle := Nat.zero_le s.size
 refine calls_cw Tryz.func83 rfl Tryz.ntmps83 rfl ?_
 have HF : Per (No) w (fun _ => True) := Per.true_
 have LW := Ext.refl (No) w
 have XLW : ∀ q9, (No) q9 → (No) q9 ∨ w.heap.size ≤ q9 := fun _ h => Or.inl h
 have E := Ext.refl (No) w
 refine cw_seq ?_
 refine cw_region ?_
 refine rs_op rfl (ow_assign rfl ?_)
 refine rs_nil ?_
 refine ew_next ?_
 refine cw_seq ?_
 refine cw_region ?_
 refine rs_op rfl (ow_assign rfl ?_)
 refine rs_nil ?_
 refine ew_next ?_
 refine cw_seq ?_
 refine cw_block ?_
 replace HF := HF.on E
 replace LW := LW.step E XLW
 replace E := Ext.refl (No) w
 refine cw_loop (ι := Nat) (fun n => [(0, .string s), (3, .int .i64 ((n : Nat) : Int))]) (fun n w' => Ext (No) w w' ∧ (RuI s 0 n ∧ until_ (ruDone s) (fun i => i + 1) n = runD s 0)) (fun n => s.size - n) 0 ⟨rfl, rfl, trivial⟩ ⟨Ext.refl _ _, ⟨Nat.le_refl _, hle, fun j h1 h2 => absurd h1 (Nat.not_le.2 h2)⟩, rfl⟩ ?_
 rintro n w2 ⟨M1, ⟨hI, hu⟩⟩
 have XM1 : ∀ q9, (No) q9 → (No) q9 ∨ w.heap.size ≤ q9 := fun _ h => Or.inl h
 replace E := E.trans M1
 replace HF := HF.on E
 replace LW := LW.step E XLW
 replace E := Ext.refl (No) w2
 have hlo := hI.lo
 have hhi := hI.hi
 refine cw_seq ?_
 refine cw_seq ?_
 refine cw_region ?_
 refine rs_op rfl (ow_move rfl ?_)
 refine rs_op rfl (ow_move rfl ?_)
 refine rs_op rfl (ow_lenS Tryz.underlying9 rfl ?_)
 refine rs_op rfl (ow_lss rfl rfl ?_)
 refine rs_op rfl (ow_move rfl ?_)
 refine rs_split 8 rfl (fun h1 => ?_) (fun h1 => ?_)
 ·
  have h1 : n < s.size := by have h1 := of_decide_eq_true h1; omega
  refine rs_op rfl (ow_on rfl (ow_move rfl ?_))
  refine rs_op rfl (ow_on rfl (ow_move rfl ?_))
  refine rs_op rfl (ow_on rfl (ow_indexSL (j := n) (b := bAt s (n)) Tryz.underlying9 rfl rfl rfl (bAt_some (by omega)) ?_))
  refine rs_op rfl (ow_on rfl (ow_geq rfl rfl ?_))
  refine rs_op rfl (ow_pickT rfl rfl ?_)
  refine rs_op rfl (ow_move rfl ?_)
  refine rs_split 14 rfl (fun h2 => ?_) (fun h2 => ?_)
  ·
   have h2 : 48 ≤ bAt s n := by have h2 := of_decide_eq_true h2; omega
   refine rs_op rfl (ow_on rfl (ow_move rfl ?_))
   refine rs_op rfl (ow_on rfl (ow_move rfl ?_))
   refine rs_op rfl (ow_on rfl (ow_indexSL (j := n) (b := bAt s (n)) Tryz.underlying9 rfl rfl rfl (bAt_some (by omega)) ?_))
   refine rs_op rfl (ow_on rfl (ow_leq rfl rfl ?_))
   refine rs_op rfl (ow_pickT rfl rfl ?_)
   refine rs_nil ?_
   refine ew_next ?_
   refine cw_cond rfl (fun h3 => ?_) (fun h3 => ?_)
   ·
    have h3 : bAt s n ≤ 57 := by have h3 := of_decide_eq_true h3; omega
    have hdone := ru_on h1 ⟨h2, h3⟩
    have hk := ru_keeps hI hdone
    rw [until_next hdone] at hu
    refine cw_skip ?_
    refine ew_next ?_
    refine cw_block ?_
    refine cw_region ?_
    refine rs_op rfl (ow_move rfl ?_)
    refine rs_op rfl (ow_add rfl rfl (wrap_i64 (by omega)) ?_)
    refine rs_op rfl (ow_assign rfl ?_)
    refine rs_nil ?_
    refine ew_block_normal ?_
    exact ew_round (ι := Nat) (s := fun n => [(0, .string s), (3, .int .i64 ((n : Nat) : Int))]) (R := fun n w' => Ext (No) w w' ∧ (RuI s 0 n ∧ until_ (ruDone s) (fun i => i + 1) n = runD s 0)) (m := fun n => s.size - n) (i := n) (n + 1) (by omega) ⟨rfl, rfl, trivial⟩ ⟨M1.step E XM1, hk, hu⟩
   ·
    have h3 : ¬ bAt s n ≤ 57 := by have h3 := of_decide_eq_false h3; omega
    have hdone : ruDone s n = true := by
     cases hd : ruDone s n with
     | true => rfl
     | false => exact absurd (ru_go hd).2.2 h3
    rw [until_stop hdone] at hu
    refine cw_exit ?_
    refine ew_then_exit ?_
    refine ew_then_exit ?_
    refine ew_block_here ?_
    refine ew_next ?_
    refine cw_seq ?_
    refine cw_region ?_
    refine rs_op rfl (ow_move rfl ?_)
    refine rs_op rfl (ow_assign rfl ?_)
    refine rs_nil ?_
    refine ew_next ?_
    refine cw_ret ?_
    refine ew_ret (rs := [.tmp 2]) (vs := [_]) rfl ⟨rfl, trivial⟩ ?_
    exact ⟨by rw [← hu]; rfl, (LW.step E XLW).toBelow⟩
  ·
   have h2 : ¬ 48 ≤ bAt s n := by have h2 := of_decide_eq_false h2; omega
   have hdone : ruDone s n = true := by
    cases hd : ruDone s n with
    | true => rfl
    | false => exact absurd (ru_go hd).2.1 h2
   rw [until_stop hdone] at hu
   refine rs_op rfl (ow_off rfl ?_)
   refine rs_op rfl (ow_off rfl ?_)
   refine rs_op rfl (ow_off rfl ?_)
   refine rs_op rfl (ow_off rfl ?_)
   refine rs_op rfl (ow_pickF rfl rfl ?_)
   refine rs_nil ?_
   refine ew_next ?_
   refine cw_else rfl ?_
   refine cw_exit ?_
   refine ew_then_exit ?_
   refine ew_then_exit ?_
   refine ew_block_here ?_
   refine ew_next ?_
   refine cw_seq ?_
   refine cw_region ?_
   refine rs_op rfl (ow_move rfl ?_)
   refine rs_op rfl (ow_assign rfl ?_)
   refine rs_nil ?_
   refine ew_next ?_
   refine cw_ret ?_
   refine ew_ret (rs := [.tmp 2]) (vs := [_]) rfl ⟨rfl, trivial⟩ ?_
   exact ⟨by rw [← hu]; rfl, (LW.step E XLW).toBelow⟩
 ·
  have h1 : ¬ n < s.size := by have h1 := of_decide_eq_false h1; omega
  have hdone : ruDone s n = true := by
   cases hd : ruDone s n with
   | true => rfl
   | false => exact absurd (ru_go hd).1 h1
  rw [until_stop hdone] at hu
  refine rs_op rfl (ow_off rfl ?_)
  refine rs_op rfl (ow_off rfl ?_)
  refine rs_op rfl (ow_off rfl ?_)
  refine rs_op rfl (ow_off rfl ?_)
  refine rs_op rfl (ow_pickF rfl rfl ?_)
  refine rs_op rfl (ow_move rfl ?_)
  refine rs_op rfl (ow_off rfl ?_)
  refine rs_op rfl (ow_off rfl ?_)
  refine rs_op rfl (ow_off rfl ?_)
  refine rs_op rfl (ow_off rfl ?_)
  refine rs_op rfl (ow_pickF rfl rfl ?_)
  refine rs_nil ?_
  refine ew_next ?_
  refine cw_else rfl ?_
  refine cw_exit ?_
  refine ew_then_exit ?_
  refine ew_then_exit ?_
  refine ew_block_here ?_
  refine ew_next ?_
  refine cw_seq ?_
  refine cw_region ?_
  refine rs_op rfl (ow_move rfl ?_)
  refine rs_op rfl (ow_assign rfl ?_)
  refine rs_nil ?_
  refine ew_next ?_
  refine cw_ret ?_
  refine ew_ret (rs := [.tmp 2]) (vs := [_]) rfl ⟨rfl, trivial⟩ ?_
  exact ⟨by rw [← hu]; rfl, (LW.step E XLW).toBelow⟩
theorem run_any (s : ByteArray) (a : Nat) (hle : a ≤ s.size) (hl : s.size < 100000) : Calls Tryz.prog 87 #[.string s, .int .i64 ((a : Nat) : Int)] w fun e w' => e = .returned (.int .i64 ((runD s a : Nat) : Int)) ∧ Below w.heap.size w w' := by
 refine calls_cw Tryz.func87 rfl Tryz.ntmps87 rfl ?_
 have HF : Per (No) w (fun _ => True) := Per.true_
 have LW := Ext.refl (No) w
 have XLW : ∀ q9, (No) q9 → (No) q9 ∨ w.heap.size ≤ q9 := fun _ h => Or.inl h
 have E := Ext.refl (No) w
 refine cw_seq ?_
 refine cw_region ?_
 refine rs_op rfl (ow_assign rfl ?_)
 refine rs_nil ?_
 refine ew_next ?_
 refine cw_seq ?_
 refine cw_block ?_
 replace HF := HF.on E
 replace LW := LW.step E XLW
 replace E := Ext.refl (No) w
 refine cw_loop (ι := Nat) (fun n => [(0, .string s), (1, .int .i64 ((n : Nat) : Int))]) (fun n w' => Ext (No) w w' ∧ (RuI s a n ∧ until_ (ruDone s) (fun i => i + 1) n = runD s a)) (fun n => s.size - n) a ⟨rfl, rfl, trivial⟩ ⟨Ext.refl _ _, ⟨Nat.le_refl _, hle, fun j h1 h2 => absurd h1 (Nat.not_le.2 h2)⟩, rfl⟩ ?_
 rintro n w2 ⟨M1, ⟨hI, hu⟩⟩
 have XM1 : ∀ q9, (No) q9 → (No) q9 ∨ w.heap.size ≤ q9 := fun _ h => Or.inl h
 replace E := E.trans M1
 replace HF := HF.on E
 replace LW := LW.step E XLW
 replace E := Ext.refl (No) w2
 have hlo := hI.lo
 have hhi := hI.hi
 refine cw_seq ?_
 refine cw_seq ?_
 refine cw_region ?_
 refine rs_op rfl (ow_move rfl ?_)
 refine rs_op rfl (ow_move rfl ?_)
 refine rs_op rfl (ow_lenS Tryz.underlying9 rfl ?_)
 refine rs_op rfl (ow_lss rfl rfl ?_)
 refine rs_op rfl (ow_move rfl ?_)
 refine rs_split 9 rfl (fun h1 => ?_) (fun h1 => ?_)
 ·
  have h1 : n < s.size := by have h1 := of_decide_eq_true h1; omega
  refine rs_op rfl (ow_on rfl (ow_move rfl ?_))
  refine rs_op rfl (ow_on rfl (ow_move rfl ?_))
  refine rs_op rfl (ow_on rfl (ow_indexSL (j := n) (b := bAt s (n)) Tryz.underlying9 rfl rfl rfl (bAt_some (by omega)) ?_))
  refine rs_op rfl (ow_on rfl (ow_geq rfl rfl ?_))
  refine rs_op rfl (ow_pickT rfl rfl ?_)
  refine rs_op rfl (ow_move rfl ?_)
  refine rs_split 15 rfl (fun h2 => ?_) (fun h2 => ?_)
  ·
   have h2 : 48 ≤ bAt s n := by have h2 := of_decide_eq_true h2; omega
   refine rs_op rfl (ow_on rfl (ow_move rfl ?_))
   refine rs_op rfl (ow_on rfl (ow_move rfl ?_))
   refine rs_op rfl (ow_on rfl (ow_indexSL (j := n) (b := bAt s (n)) Tryz.underlying9 rfl rfl rfl (bAt_some (by omega)) ?_))
   refine rs_op rfl (ow_on rfl (ow_leq rfl rfl ?_))
   refine rs_op rfl (ow_pickT rfl rfl ?_)
   refine rs_nil ?_
   refine ew_next ?_
   refine cw_cond rfl (fun h3 => ?_) (fun h3 => ?_)
   ·
    have h3 : bAt s n ≤ 57 := by have h3 := of_decide_eq_true h3; omega
    have hdone := ru_on h1 ⟨h2, h3⟩
    have hk := ru_keeps hI hdone
    rw [until_next hdone] at hu
    refine cw_skip ?_
    refine ew_next ?_
    refine cw_block ?_
    refine cw_region ?_
    refine rs_op rfl (ow_move rfl ?_)
    refine rs_op rfl (ow_add rfl rfl (wrap_i64 (by omega)) ?_)
    refine rs_op rfl (ow_assign rfl ?_)
    refine rs_nil ?_
    refine ew_block_normal ?_
    exact ew_round (ι := Nat) (s := fun n => [(0, .string s), (1, .int .i64 ((n : Nat) : Int))]) (R := fun n w' => Ext (No) w w' ∧ (RuI s a n ∧ until_ (ruDone s) (fun i => i + 1) n = runD s a)) (m := fun n => s.size - n) (i := n) (n + 1) (by omega) ⟨rfl, rfl, trivial⟩ ⟨M1.step E XM1, hk, hu⟩
   ·
    have h3 : ¬ bAt s n ≤ 57 := by have h3 := of_decide_eq_false h3; omega
    have hdone : ruDone s n = true := by
     cases hd : ruDone s n with
     | true => rfl
     | false => exact absurd (ru_go hd).2.2 h3
    rw [until_stop hdone] at hu
    refine cw_exit ?_
    refine ew_then_exit ?_
    refine ew_then_exit ?_
    refine ew_block_here ?_
    refine ew_next ?_
    refine cw_seq ?_
    refine cw_region ?_
    refine rs_op rfl (ow_move rfl ?_)
    refine rs_op rfl (ow_assign rfl ?_)
    refine rs_nil ?_
    refine ew_next ?_
    refine cw_ret ?_
    refine ew_ret (rs := [.tmp 4]) (vs := [_]) rfl ⟨rfl, trivial⟩ ?_
    exact ⟨by rw [← hu]; rfl, (LW.step E XLW).toBelow⟩
  ·
   have h2 : ¬ 48 ≤ bAt s n := by have h2 := of_decide_eq_false h2; omega
   have hdone : ruDone s n = true := by
    cases hd : ruDone s n with
    | true => rfl
    | false => exact absurd (ru_go hd).2.1 h2
   rw [until_stop hdone] at hu
   refine rs_op rfl (ow_off rfl ?_)
   refine rs_op rfl (ow_off rfl ?_)
   refine rs_op rfl (ow_off rfl ?_)
   refine rs_op rfl (ow_off rfl ?_)
   refine rs_op rfl (ow_pickF rfl rfl ?_)
   refine rs_nil ?_
   refine ew_next ?_
   refine cw_else rfl ?_
   refine cw_exit ?_
   refine ew_then_exit ?_
   refine ew_then_exit ?_
   refine ew_block_here ?_
   refine ew_next ?_
   refine cw_seq ?_
   refine cw_region ?_
   refine rs_op rfl (ow_move rfl ?_)
   refine rs_op rfl (ow_assign rfl ?_)
   refine rs_nil ?_
   refine ew_next ?_
   refine cw_ret ?_
   refine ew_ret (rs := [.tmp 4]) (vs := [_]) rfl ⟨rfl, trivial⟩ ?_
   exact ⟨by rw [← hu]; rfl, (LW.step E XLW).toBelow⟩
 ·
  have h1 : ¬ n < s.size := by have h1 := of_decide_eq_false h1; omega
  have hdone : ruDone s n = true := by
   cases hd : ruDone s n with
   | true => rfl
   | false => exact absurd (ru_go hd).1 h1
  rw [until_stop hdone] at hu
  refine rs_op rfl (ow_off rfl ?_)
  refine rs_op rfl (ow_off rfl ?_)
  refine rs_op rfl (ow_off rfl ?_)
  refine rs_op rfl (ow_off rfl ?_)
  refine rs_op rfl (ow_pickF rfl rfl ?_)
  refine rs_op rfl (ow_move rfl ?_)
  refine rs_op rfl (ow_off rfl ?_)
  refine rs_op rfl (ow_off rfl ?_)
  refine rs_op rfl (ow_off rfl ?_)
  refine rs_op rfl (ow_off rfl ?_)
  refine rs_op rfl (ow_pickF rfl rfl ?_)
  refine rs_nil ?_
  refine ew_next ?_
  refine cw_else rfl ?_
  refine cw_exit ?_
  refine ew_then_exit ?_
  refine ew_then_exit ?_
  refine ew_block_here ?_
  refine ew_next ?_
  refine cw_seq ?_
  refine cw_region ?_
  refine rs_op rfl (ow_move rfl ?_)
  refine rs_op rfl (ow_assign rfl ?_)
  refine rs_nil ?_
  refine ew_next ?_
  refine cw_ret ?_
  refine ew_ret (rs := [.tmp 4]) (vs := [_]) rfl ⟨rfl, trivial⟩ ?_
  exact ⟨by rw [← hu]; rfl, (LW.step E XLW).toBelow⟩
theorem prefix1_in (s : ByteArray) (c : UInt8) (hc : c.toNat ≠ 0) : Calls Tryz.prog 115 #[.string s, .string ⟨#[c]⟩] w fun e w' => e = .returned (.bool (decide (bAt s 0 = c.toNat))) ∧ Below w.heap.size w w' := by
 have h1s : ((⟨#[c]⟩ : ByteArray).size : Nat) = 1 := rfl
 refine calls_cw Tryz.func115 rfl Tryz.ntmps115 rfl ?_
 have HF : Per (No) w (fun _ => True) := Per.true_
 have LW := Ext.refl (No) w
 have XLW : ∀ q9, (No) q9 → (No) q9 ∨ w.heap.size ≤ q9 := fun _ h => Or.inl h
 have E := Ext.refl (No) w
 refine cw_seq ?_
 refine cw_region ?_
 refine rs_op rfl (ow_assign rfl ?_)
 refine rs_nil ?_
 refine ew_next ?_
 refine cw_seq ?_
 refine cw_region ?_
 refine rs_op rfl (ow_move rfl ?_)
 refine rs_op rfl (ow_lenS Tryz.underlying9 rfl ?_)
 refine rs_op rfl (ow_move rfl ?_)
 refine rs_op rfl (ow_lenS Tryz.underlying9 rfl ?_)
 refine rs_op rfl (ow_geq rfl rfl ?_)
 refine rs_op rfl (ow_move rfl ?_)
 refine rs_split 10 rfl (fun h1 => ?_) (fun h1 => ?_)
 ·
  have h1 : 0 < s.size := by have h1 := of_decide_eq_true h1; rw [h1s] at h1; omega
  refine rs_op rfl (ow_on rfl (ow_move rfl ?_))
  refine rs_op rfl (ow_on rfl (ow_move rfl ?_))
  refine rs_op rfl (ow_on rfl (ow_lenS Tryz.underlying9 rfl ?_))
  refine rs_op rfl (ow_on rfl (ow_sliceS (l := 0) (h := 1) Tryz.underlying9 rfl rfl ⟨_, rfl⟩ (by decide) (by omega) ?_))
  refine rs_op rfl (ow_on rfl (ow_move rfl ?_))
  refine rs_op rfl (ow_on rfl (ow_eqlS rfl rfl ?_))
  refine rs_op rfl (ow_pickT rfl rfl ?_)
  refine rs_op rfl (ow_assign rfl ?_)
  refine rs_nil ?_
  refine ew_next ?_
  refine cw_ret ?_
  refine ew_set 4 (.bool (decide (bAt s 0 = c.toNat))) rfl (by rw [bytes_list #[c], list_one h1]) ?_
  refine ew_ret (rs := [.tmp 4]) (vs := [_]) rfl ⟨rfl, trivial⟩ ?_
  exact ⟨rfl, (LW.step E XLW).toBelow⟩
 ·
  have h1 : ¬ 0 < s.size := by have h1 := of_decide_eq_false h1; rw [h1s] at h1; omega
  refine rs_op rfl (ow_off rfl ?_)
  refine rs_op rfl (ow_off rfl ?_)
  refine rs_op rfl (ow_off rfl ?_)
  refine rs_op rfl (ow_off rfl ?_)
  refine rs_op rfl (ow_off rfl ?_)
  refine rs_op rfl (ow_off rfl ?_)
  refine rs_op rfl (ow_pickF rfl rfl ?_)
  refine rs_op rfl (ow_assign rfl ?_)
  refine rs_nil ?_
  refine ew_next ?_
  refine cw_ret ?_
  refine ew_ret (rs := [.tmp 4]) (vs := [_]) rfl ⟨rfl, trivial⟩ ?_
  exact ⟨by rw [decide_eq_false (by rw [bAt_end (by omega)]; omega)]; rfl, (LW.step E XLW).toBelow⟩
theorem prefix1_any (s : ByteArray) (c : UInt8) (hc : c.toNat ≠ 0) : Calls Tryz.prog 84 #[.string s, .string ⟨#[c]⟩] w fun e w' => e = .returned (.bool (decide (bAt s 0 = c.toNat))) ∧ Below w.heap.size w w' := by
 refine calls_cw Tryz.func84 rfl Tryz.ntmps84 rfl ?_
 have HF : Per (No) w (fun _ => True) := Per.true_
 have LW := Ext.refl (No) w
 have XLW : ∀ q9, (No) q9 → (No) q9 ∨ w.heap.size ≤ q9 := fun _ h => Or.inl h
 have E := Ext.refl (No) w
 refine cw_seq ?_
 refine cw_region ?_
 refine rs_op rfl (ow_assign rfl ?_)
 refine rs_nil ?_
 refine ew_next ?_
 refine cw_seq ?_
 refine cw_region ?_
 refine rs_op rfl (ow_move rfl ?_)
 refine rs_op rfl (ow_move rfl ?_)
 refine rs_op rfl (ow_enter en115 rfl ((prefix1_in _ s c hc).mono ?_))
 rintro e w1 ⟨rfl, hb⟩
 refine ⟨_, rfl, ?_⟩
 have Ec := Ext.of_below hb No
 replace E := E.trans Ec.no
 clear hb Ec
 refine rs_op rfl (ow_assign rfl ?_)
 refine rs_nil ?_
 refine ew_next ?_
 refine cw_ret ?_
 refine ew_ret (rs := [.tmp 4]) (vs := [_]) rfl ⟨rfl, trivial⟩ ?_
 exact ⟨rfl, (LW.step E XLW).toBelow⟩
def signed (s : ByteArray) : Bool := decide (bAt s 0 = 45)
def cut1 (s : ByteArray) : Nat := if bAt s 0 = 45 then 1 else 0
theorem cut_in (s : ByteArray) : Calls Tryz.prog 82 #[.string s, .string ⟨#[45]⟩] w fun e w' => e = .returned (.tuple #[.string (s.extract (cut1 s) s.size), .bool (signed s)]) ∧ Below w.heap.size w w' := by
 refine calls_cw Tryz.func82 rfl Tryz.ntmps82 rfl ?_
 have HF : Per (No) w (fun _ => True) := Per.true_
 have LW := Ext.refl (No) w
 have XLW : ∀ q9, (No) q9 → (No) q9 ∨ w.heap.size ≤ q9 := fun _ h => Or.inl h
 have E := Ext.refl (No) w
 refine cw_seq ?_
 refine cw_region ?_
 refine rs_op rfl (ow_assign rfl ?_)
 refine rs_op rfl (ow_assign rfl ?_)
 refine rs_nil ?_
 refine ew_next ?_
 refine cw_seq ?_
 refine cw_seq ?_
 refine cw_region ?_
 refine rs_op rfl (ow_move rfl ?_)
 refine rs_op rfl (ow_move rfl ?_)
 refine rs_op rfl (ow_enter en115 rfl ((prefix1_in _ s 45 (by decide)).mono ?_))
 rintro e w1 ⟨rfl, hb⟩
 refine ⟨_, rfl, ?_⟩
 have Ec := Ext.of_below hb No
 replace E := E.trans Ec.no
 clear hb Ec
 refine rs_set 8 (.bool (signed s)) rfl (rfl) ?_
 refine rs_op rfl (ow_not rfl ?_)
 refine rs_nil ?_
 refine ew_next ?_
 by_cases h : bAt s 0 = 45
 ·
  have e1 : signed s = true := decide_eq_true h
  have e2 : cut1 s = 1 := by unfold cut1; rw [if_pos h]
  have hs := bAt_in (s := s) (i := 0) (by omega)
  refine cw_set 9 (.bool false) rfl ((by rw [e1]; rfl : (.bool (!(signed s)) : Value) = _)) ?_
  refine cw_else rfl ?_
  refine cw_skip ?_
  refine ew_next ?_
  refine cw_seq ?_
  refine cw_region ?_
  refine rs_op rfl (ow_move rfl ?_)
  refine rs_op rfl (ow_move rfl ?_)
  refine rs_op rfl (ow_lenS Tryz.underlying9 rfl ?_)
  refine rs_op rfl (ow_sliceS (l := 1) (h := s.size) Tryz.underlying9 rfl ⟨_, rfl⟩ rfl (by omega) (by omega) ?_)
  refine rs_op rfl (ow_assign rfl ?_)
  refine rs_op rfl (ow_assign rfl ?_)
  refine rs_nil ?_
  refine ew_next ?_
  refine cw_ret ?_
  refine ew_ret (rs := [.tmp 4, .tmp 5]) (vs := [_, _]) rfl ⟨rfl, rfl, trivial⟩ ?_
  exact ⟨by rw [e1, e2]; rfl, (LW.step E XLW).toBelow⟩
 ·
  have e1 : signed s = false := decide_eq_false h
  have e2 : cut1 s = 0 := by unfold cut1; rw [if_neg h]
  refine cw_set 9 (.bool true) rfl ((by rw [e1]; rfl : (.bool (!(signed s)) : Value) = _)) ?_
  refine cw_then rfl ?_
  refine cw_seq ?_
  refine cw_region ?_
  refine rs_op rfl (ow_move rfl ?_)
  refine rs_op rfl (ow_assign rfl ?_)
  refine rs_op rfl (ow_assign rfl ?_)
  refine rs_nil ?_
  refine ew_next ?_
  refine cw_ret ?_
  refine ew_then_ret ?_
  refine ew_ret (rs := [.tmp 4, .tmp 5]) (vs := [_, _]) rfl ⟨rfl, rfl, trivial⟩ ?_
  exact ⟨by rw [e1, e2, extract_all]; rfl, (LW.step E XLW).toBelow⟩
theorem cut_any (s : ByteArray) : Calls Tryz.prog 39 #[.string s, .string ⟨#[45]⟩] w fun e w' => e = .returned (.tuple #[.string (s.extract (cut1 s) s.size), .bool (signed s)]) ∧ Below w.heap.size w w' := by
 refine calls_cw Tryz.func39 rfl Tryz.ntmps39 rfl ?_
 have HF : Per (No) w (fun _ => True) := Per.true_
 have LW := Ext.refl (No) w
 have XLW : ∀ q9, (No) q9 → (No) q9 ∨ w.heap.size ≤ q9 := fun _ h => Or.inl h
 have E := Ext.refl (No) w
 refine cw_seq ?_
 refine cw_region ?_
 refine rs_op rfl (ow_assign rfl ?_)
 refine rs_op rfl (ow_assign rfl ?_)
 refine rs_nil ?_
 refine ew_next ?_
 refine cw_seq ?_
 refine cw_region ?_
 refine rs_op rfl (ow_move rfl ?_)
 refine rs_op rfl (ow_move rfl ?_)
 refine rs_op rfl (ow_enter en82 rfl ((cut_in _ s).mono ?_))
 rintro e w1 ⟨rfl, hb⟩
 refine ⟨_, rfl, ?_⟩
 have Ec := Ext.of_below hb No
 replace E := E.trans Ec.no
 clear hb Ec
 refine rs_op rfl (ow_extract rfl rfl ?_)
 refine rs_op rfl (ow_extract rfl rfl ?_)
 refine rs_op rfl (ow_assign rfl ?_)
 refine rs_op rfl (ow_assign rfl ?_)
 refine rs_nil ?_
 refine ew_next ?_
 refine cw_ret ?_
 refine ew_ret (rs := [.tmp 4, .tmp 5]) (vs := [_, _]) rfl ⟨rfl, rfl, trivial⟩ ?_
 exact ⟨rfl, (LW.step E XLW).toBelow⟩
theorem numeral_any (s : ByteArray) (hl : s.size < 100000) : Calls Tryz.prog 41 #[.string s] w fun e w' => e = .returned (.bool (numB s 0)) ∧ Below w.heap.size w w' := by
 obtain ⟨n, hn⟩ : ∃ n, n = runD s 0 := ⟨_, rfl⟩
 have hnI := (runD_ends (s := s) (Nat.zero_le _)).1
 rw [← hn] at hnI
 have hns := hnI.hi
 obtain ⟨b, hb⟩ : ∃ b, b = nB s n := ⟨_, rfl⟩
 have hbs := nB_le (s := s) hns
 rw [← hb] at hbs
 refine calls_cw Tryz.func41 rfl Tryz.ntmps41 rfl ?_
 have HF : Per (No) w (fun _ => True) := Per.true_
 have LW := Ext.refl (No) w
 have XLW : ∀ q9, (No) q9 → (No) q9 ∨ w.heap.size ≤ q9 := fun _ h => Or.inl h
 have E := Ext.refl (No) w
 refine cw_seq ?_
 refine cw_region ?_
 refine rs_op rfl (ow_assign rfl ?_)
 refine rs_nil ?_
 refine ew_next ?_
 refine cw_seq ?_
 refine cw_region ?_
 refine rs_op rfl (ow_move rfl ?_)
 refine rs_op rfl (ow_enter en83 rfl ((digits_any _ s hl).mono ?_))
 rintro e w1 ⟨rfl, hb⟩
 refine ⟨_, rfl, ?_⟩
 have Ec := Ext.of_below hb No
 replace E := E.trans Ec.no
 clear hb Ec
 refine rs_set 5 (.int .i64 ((n : Nat) : Int)) rfl ((by rw [hn] : (.int .i64 ((runD s 0 : Nat) : Int) : Value) = _)) ?_
 refine rs_op rfl (ow_assign rfl ?_)
 refine rs_nil ?_
 refine ew_next ?_
 refine cw_seq ?_
 refine cw_seq ?_
 refine cw_region ?_
 refine rs_op rfl (ow_move rfl ?_)
 refine rs_op rfl (ow_eql rfl rfl ?_)
 refine rs_nil ?_
 refine ew_next ?_
 refine cw_cond rfl (fun h1 => ?_) (fun h1 => ?_)
 ·
  have h1 : n = 0 := by have h1 := eq_of_beq h1; omega
  have e : numB s 0 = false := numB_off (fun h => by have := h.1; rw [← hn] at this; omega)
  refine cw_seq ?_
  refine cw_region ?_
  refine rs_op rfl (ow_assign rfl ?_)
  refine rs_nil ?_
  refine ew_next ?_
  refine cw_ret ?_
  refine ew_then_ret ?_
  refine ew_ret (rs := [.tmp 2]) (vs := [_]) rfl ⟨rfl, trivial⟩ ?_
  exact ⟨by rw [e]; rfl, (LW.step E XLW).toBelow⟩
 ·
  have h1 : n ≠ 0 := fun e => absurd h1 (by rw [e]; decide)
  refine cw_skip ?_
  refine ew_next ?_
  refine cw_seq ?_
  refine cw_region ?_
  refine rs_op rfl (ow_move rfl ?_)
  refine rs_op rfl (ow_move rfl ?_)
  refine rs_op rfl (ow_sliceS (l := n) (h := s.size) Tryz.underlying9 rfl ⟨_, rfl⟩ rfl (by omega) (by omega) ?_)
  refine rs_op rfl (ow_assign rfl ?_)
  refine rs_nil ?_
  refine ew_next ?_
  refine cw_seq ?_
  refine cw_seq ?_
  refine cw_region ?_
  refine rs_op rfl (ow_move rfl ?_)
  refine rs_op rfl (ow_enter en84 rfl ((prefix1_any _ (s.extract n s.size) 46 (by decide)).mono ?_))
  rintro e w2 ⟨rfl, hb⟩
  refine ⟨_, rfl, ?_⟩
  have Ec := Ext.of_below hb No
  replace E := E.trans Ec.no
  clear hb Ec
  refine rs_set 12 (.bool (decide (bAt s n = 46))) rfl ((by rw [bAt_extract, Nat.add_zero]; rfl : (.bool (decide (bAt (s.extract n s.size) 0 = (46 : UInt8).toNat)) : Value) = _)) ?_
  refine rs_nil ?_
  refine ew_next ?_
  replace HF := HF.on E
  replace LW := LW.step E XLW
  replace E := Ext.refl (No) w2
  refine cw_join (ι := Unit) (fun _ => [(0, .string (s.extract b s.size))]) (fun _ w' => Ext (No) w2 w' ∧ ((bAt s n = 46 → n + 1 < b))) ?_ ?_
  ·
   have M3 := Ext.refl (No) w2
   have XM3 : ∀ q9, (No) q9 → (No) q9 ∨ w2.heap.size ≤ q9 := fun _ h => Or.inl h
   refine cw_cond rfl (fun h3 => ?_) (fun h3 => ?_)
   ·
    have h3 := of_decide_eq_true h3
    have hin := bAt_in (s := s) (i := n) (by omega)
    obtain ⟨r, hr⟩ : ∃ r, r = runD (s.extract (n + 1) s.size) 0 := ⟨_, rfl⟩
    have e1 : b = n + 1 + r := by rw [hb, nB_dot h3, hr]; exact run_shift (f := n + 1) (a := 0) (by omega)
    refine cw_seq ?_
    refine cw_seq ?_
    refine cw_region ?_
    refine rs_op rfl (ow_move rfl ?_)
    refine rs_op rfl (ow_sliceS (l := 1) (h := s.size - n) Tryz.underlying9 rfl ⟨_, rfl⟩ (extract_size).symm (by omega) (by rw [extract_size]; omega) ?_)
    refine rs_set 14 (.string (s.extract (n + 1) s.size)) rfl ((by rw [ext_ext rfl rfl] : (.string ((s.extract n s.size).extract 1 (s.size - n)) : Value) = _)) ?_
    refine rs_op rfl (ow_enter en83 rfl ((digits_any _ (s.extract (n + 1) s.size) (by rw [extract_size]; omega)).mono ?_))
    rintro e w5 ⟨rfl, hb⟩
    refine ⟨_, rfl, ?_⟩
    have Ec := Ext.of_below hb No
    replace E := E.trans Ec.no
    clear hb Ec
    refine rs_set 15 (.int .i64 ((r : Nat) : Int)) rfl ((by rw [hr] : (.int .i64 ((runD (s.extract (n + 1) s.size) 0 : Nat) : Int) : Value) = _)) ?_
    refine rs_op rfl (ow_assign rfl ?_)
    refine rs_nil ?_
    refine ew_next ?_
    refine cw_seq ?_
    refine cw_region ?_
    refine rs_op rfl (ow_move rfl ?_)
    refine rs_op rfl (ow_eql rfl rfl ?_)
    refine rs_nil ?_
    refine ew_next ?_
    refine cw_cond rfl (fun h4 => ?_) (fun h4 => ?_)
    ·
     have h4 : r = 0 := by have h4 := eq_of_beq h4; omega
     have e : numB s 0 = false := numB_off (fun h => by have := h.2.1; rw [← hn, ← hb] at this; have := this h3; omega)
     refine cw_seq ?_
     refine cw_region ?_
     refine rs_op rfl (ow_assign rfl ?_)
     refine rs_nil ?_
     refine ew_next ?_
     refine cw_ret ?_
     refine ew_then_ret ?_
     refine ew_then_ret ?_
     refine ew_ret (rs := [.tmp 2]) (vs := [_]) rfl ⟨rfl, trivial⟩ ?_
     exact ⟨by rw [e]; rfl, (LW.step E XLW).toBelow⟩
    ·
     have h4 : r ≠ 0 := fun e => absurd h4 (by rw [e]; decide)
     refine cw_skip ?_
     refine ew_next ?_
     refine cw_region ?_
     refine rs_op rfl (ow_move rfl ?_)
     refine rs_op rfl (ow_move rfl ?_)
     refine rs_op rfl (ow_add rfl rfl (wrap_i64 (by omega)) ?_)
     refine rs_set 20 (.int .i64 ((r + 1 : Nat) : Int)) rfl (rfl) ?_
     refine rs_op rfl (ow_sliceS (l := r + 1) (h := s.size - n) Tryz.underlying9 rfl ⟨_, rfl⟩ (extract_size).symm (by omega) (by rw [extract_size]; omega) ?_)
     refine rs_op rfl (ow_assign rfl ?_)
     refine rs_nil ?_
     refine ew_set 0 (.string (s.extract b s.size)) rfl ((by rw [ext_ext (m := b) rfl (by omega)] : (.string ((s.extract n s.size).extract (r + 1) (s.size - n)) : Value) = _)) ?_
     exact ew_mid () ⟨rfl, trivial⟩ ⟨M3.step E XM3, fun _ => by omega⟩
   ·
    have h3 := of_decide_eq_false h3
    have e1 : b = n := by rw [hb, nB_no h3]
    refine cw_skip ?_
    refine ew_set 0 (.string (s.extract b s.size)) rfl ((by rw [e1] : (.string (s.extract n s.size) : Value) = _)) ?_
    exact ew_mid () ⟨rfl, trivial⟩ ⟨M3.step E XM3, fun h => absurd h h3⟩
  ·
   rintro _ w4 ⟨M3, h2⟩
   have XM3 : ∀ q9, (No) q9 → (No) q9 ∨ w2.heap.size ≤ q9 := fun _ h => Or.inl h
   replace E := E.trans M3
   replace HF := HF.on E
   replace LW := LW.step E XLW
   replace E := Ext.refl (No) w4
   have hcs := nC_le (s := s) hbs.2
   refine cw_seq ?_
   refine cw_seq ?_
   refine cw_region ?_
   refine rs_op rfl (ow_move rfl ?_)
   refine rs_op rfl (ow_enter en84 rfl ((prefix1_any _ (s.extract b s.size) 101 (by decide)).mono ?_))
   rintro e w6 ⟨rfl, hb⟩
   refine ⟨_, rfl, ?_⟩
   have Ec := Ext.of_below hb No
   replace E := E.trans Ec.no
   clear hb Ec
   refine rs_set 23 (.bool (decide (bAt s b = 101))) rfl ((by rw [bAt_extract, Nat.add_zero]; rfl : (.bool (decide (bAt (s.extract b s.size) 0 = (101 : UInt8).toNat)) : Value) = _)) ?_
   refine rs_nil ?_
   refine ew_next ?_
   replace HF := HF.on E
   replace LW := LW.step E XLW
   replace E := Ext.refl (No) w6
   refine cw_join (ι := Unit) (fun _ => [(0, .string (s.extract (nC s b) s.size))]) (fun _ w' => Ext (No) w6 w' ∧ ((bAt s b = 101 → nQ s b < nC s b))) ?_ ?_
   ·
    have M7 := Ext.refl (No) w6
    have XM7 : ∀ q9, (No) q9 → (No) q9 ∨ w6.heap.size ≤ q9 := fun _ h => Or.inl h
    refine cw_cond rfl (fun h3 => ?_) (fun h3 => ?_)
    ·
     have h3 := of_decide_eq_true h3
     have hin := bAt_in (s := s) (i := b) (by omega)
     have hqs := nQ_le hin
     refine cw_seq ?_
     refine cw_region ?_
     refine rs_op rfl (ow_move rfl ?_)
     refine rs_op rfl (ow_sliceS (l := 1) (h := s.size - b) Tryz.underlying9 rfl ⟨_, rfl⟩ (extract_size).symm (by omega) (by rw [extract_size]; omega) ?_)
     refine rs_set 25 (.string (s.extract (b + 1) s.size)) rfl ((by rw [ext_ext rfl rfl] : (.string ((s.extract b s.size).extract 1 (s.size - b)) : Value) = _)) ?_
     refine rs_op rfl (ow_assign rfl ?_)
     refine rs_nil ?_
     refine ew_next ?_
     refine cw_seq ?_
     refine cw_seq ?_
     replace HF := HF.on E
     replace LW := LW.step E XLW
     replace M7 := M7.step E XM7
     replace E := Ext.refl (No) w6
     refine cw_join (ι := Bool) (fun g => [(0, .string (s.extract (b + 1) s.size)), (37, .bool g)]) (fun g w' => Ext (No) w6 w' ∧ (g = decide (bAt s (b + 1) = 43 ∨ bAt s (b + 1) = 45))) ?_ ?_
     ·
      have M9 := Ext.refl (No) w6
      have XM9 : ∀ q9, (No) q9 → (No) q9 ∨ w6.heap.size ≤ q9 := fun _ h => Or.inl h
      refine cw_region ?_
      refine rs_op rfl (ow_move rfl ?_)
      refine rs_op rfl (ow_neqS rfl rfl ?_)
      refine rs_op rfl (ow_move rfl ?_)
      refine rs_set 28 (.bool (decide (b + 1 < s.size))) rfl (by rw [ne_nil]) ?_
      refine rs_split 28 rfl (fun h6 => ?_) (fun h6 => ?_)
      ·
       have h6 := of_decide_eq_true h6
       refine rs_op rfl (ow_on rfl (ow_move rfl ?_))
       refine rs_op rfl (ow_on rfl (ow_indexSL (j := 0) (b := bAt (s.extract (b + 1) s.size) 0) Tryz.underlying9 rfl rfl rfl (bAt_some (by rw [extract_size]; omega)) ?_))
       refine rs_set 30 (.int .u8 ((bAt s (b + 1) : Nat) : Int)) rfl ((by rw [bAt_extract] : (.int .u8 ((bAt (s.extract (b + 1) s.size) 0 : Nat) : Int) : Value) = _)) ?_
       refine rs_op rfl (ow_on rfl (ow_eql rfl rfl ?_))
       refine rs_op rfl (ow_on rfl (ow_move rfl ?_))
       refine rs_split 32 rfl (fun h7 => ?_) (fun h7 => ?_)
       ·
        have h7 : bAt s (b + 1) = 43 := by have h7 := eq_of_beq h7; omega
        refine rs_op rfl (ow_off rfl ?_)
        refine rs_op rfl (ow_off rfl ?_)
        refine rs_op rfl (ow_off rfl ?_)
        refine rs_op rfl (ow_on rfl (ow_pickT rfl rfl ?_))
        refine rs_op rfl (ow_pickT rfl rfl ?_)
        refine rs_nil ?_
        exact ew_mid true ⟨rfl, rfl, trivial⟩ ⟨M9.step E XM9, (decide_eq_true (.inl h7)).symm⟩
       ·
        have h7 : ¬ bAt s (b + 1) = 43 := fun e => absurd h7 (by rw [e]; decide)
        refine rs_op rfl (ow_on rfl (ow_move rfl ?_))
        refine rs_op rfl (ow_on rfl (ow_indexSL (j := 0) (b := bAt (s.extract (b + 1) s.size) 0) Tryz.underlying9 rfl rfl rfl (bAt_some (by rw [extract_size]; omega)) ?_))
        refine rs_set 34 (.int .u8 ((bAt s (b + 1) : Nat) : Int)) rfl ((by rw [bAt_extract] : (.int .u8 ((bAt (s.extract (b + 1) s.size) 0 : Nat) : Int) : Value) = _)) ?_
        refine rs_op rfl (ow_on rfl (ow_eql rfl rfl ?_))
        refine rs_op rfl (ow_on rfl (ow_pickF rfl rfl ?_))
        refine rs_op rfl (ow_pickT rfl rfl ?_)
        refine rs_nil ?_
        by_cases h8 : bAt s (b + 1) = 45
        ·
         refine ew_set 37 (.bool true) rfl ((by rw [h8]; rfl : (.bool (((bAt s (b + 1) : Nat) : Int) == 45) : Value) = _)) ?_
         exact ew_mid true ⟨rfl, rfl, trivial⟩ ⟨M9.step E XM9, (decide_eq_true (.inr h8)).symm⟩
        ·
         refine ew_set 37 (.bool false) rfl ((by rw [beq_no (by omega)] : (.bool (((bAt s (b + 1) : Nat) : Int) == 45) : Value) = _)) ?_
         exact ew_mid false ⟨rfl, rfl, trivial⟩ ⟨M9.step E XM9, (decide_eq_false (by omega)).symm⟩
      ·
       have h6 := of_decide_eq_false h6
       have h0 := bAt_end (s := s) (i := b + 1) (by omega)
       refine rs_op rfl (ow_off rfl ?_)
       refine rs_op rfl (ow_off rfl ?_)
       refine rs_op rfl (ow_off rfl ?_)
       refine rs_op rfl (ow_off rfl ?_)
       refine rs_op rfl (ow_offU rfl rfl ?_)
       refine rs_op rfl (ow_offU rfl rfl ?_)
       refine rs_op rfl (ow_offU rfl rfl ?_)
       refine rs_op rfl (ow_off rfl ?_)
       refine rs_op rfl (ow_pickF rfl rfl ?_)
       refine rs_nil ?_
       exact ew_mid false ⟨rfl, rfl, trivial⟩ ⟨M9.step E XM9, (decide_eq_false (by omega)).symm⟩
     ·
      rintro g w10 ⟨M9, hg⟩
      have XM9 : ∀ q9, (No) q9 → (No) q9 ∨ w6.heap.size ≤ q9 := fun _ h => Or.inl h
      replace E := E.trans M9
      replace HF := HF.on E
      replace LW := LW.step E XLW
      replace M7 := M7.step E XM7
      replace E := Ext.refl (No) w10
      replace HF := HF.on E
      replace LW := LW.step E XLW
      replace M7 := M7.step E XM7
      replace E := Ext.refl (No) w10
      refine cw_join (ι := Unit) (fun _ => [(0, .string (s.extract (nQ s b) s.size))]) (fun _ w' => Ext (No) w10 w' ∧ (True)) ?_ ?_
      ·
       have M11 := Ext.refl (No) w10
       have XM11 : ∀ q9, (No) q9 → (No) q9 ∨ w10.heap.size ≤ q9 := fun _ h => Or.inl h
       refine cw_cond rfl (fun h6 => ?_) (fun h6 => ?_)
       ·
        rw [hg] at h6
        have h6 := of_decide_eq_true h6
        have e1 : nQ s b = b + 2 := by unfold nQ; rw [if_pos h6]
        have hin2 := bAt_in (s := s) (i := b + 1) (by omega)
        refine cw_region ?_
        refine rs_op rfl (ow_move rfl ?_)
        refine rs_op rfl (ow_sliceS (l := 1) (h := s.size - (b + 1)) Tryz.underlying9 rfl ⟨_, rfl⟩ (extract_size).symm (by omega) (by rw [extract_size]; omega) ?_)
        refine rs_op rfl (ow_assign rfl ?_)
        refine rs_nil ?_
        refine ew_set 0 (.string (s.extract (nQ s b) s.size)) rfl ((by rw [ext_ext (f := b + 1) (k := 1) (m := nQ s b) rfl (by omega)] : (.string ((s.extract (b + 1) s.size).extract 1 (s.size - (b + 1))) : Value) = _)) ?_
        exact ew_mid () ⟨rfl, trivial⟩ ⟨M11.step E XM11, trivial⟩
       ·
        rw [hg] at h6
        have h6 := of_decide_eq_false h6
        have e1 : nQ s b = b + 1 := by unfold nQ; rw [if_neg h6]
        refine cw_skip ?_
        refine ew_set 0 (.string (s.extract (nQ s b) s.size)) rfl ((by rw [e1] : (.string (s.extract (b + 1) s.size) : Value) = _)) ?_
        exact ew_mid () ⟨rfl, trivial⟩ ⟨M11.step E XM11, trivial⟩
      ·
       rintro _ w12 ⟨M11, _⟩
       have XM11 : ∀ q9, (No) q9 → (No) q9 ∨ w10.heap.size ≤ q9 := fun _ h => Or.inl h
       replace E := E.trans M11
       replace HF := HF.on E
       replace LW := LW.step E XLW
       replace M7 := M7.step E XM7
       replace E := Ext.refl (No) w12
       obtain ⟨r, hr⟩ : ∃ r, r = runD (s.extract (nQ s b) s.size) 0 := ⟨_, rfl⟩
       have e1 : nC s b = nQ s b + r := by rw [nC_e h3, hr]; exact run_shift (f := nQ s b) (a := 0) (by omega)
       refine cw_seq ?_
       refine cw_seq ?_
       refine cw_region ?_
       refine rs_op rfl (ow_move rfl ?_)
       refine rs_op rfl (ow_enter en83 rfl ((digits_any _ (s.extract (nQ s b) s.size) (by rw [extract_size]; omega)).mono ?_))
       rintro e w13 ⟨rfl, hb⟩
       refine ⟨_, rfl, ?_⟩
       have Ec := Ext.of_below hb No
       replace E := E.trans Ec.no
       clear hb Ec
       refine rs_set 41 (.int .i64 ((r : Nat) : Int)) rfl ((by rw [hr] : (.int .i64 ((runD (s.extract (nQ s b) s.size) 0 : Nat) : Int) : Value) = _)) ?_
       refine rs_op rfl (ow_assign rfl ?_)
       refine rs_nil ?_
       refine ew_next ?_
       refine cw_seq ?_
       refine cw_region ?_
       refine rs_op rfl (ow_move rfl ?_)
       refine rs_op rfl (ow_eql rfl rfl ?_)
       refine rs_nil ?_
       refine ew_next ?_
       refine cw_cond rfl (fun h4 => ?_) (fun h4 => ?_)
       ·
        have h4 : r = 0 := by have h4 := eq_of_beq h4; omega
        have e : numB s 0 = false := numB_off (fun h => by have := h.2.2.2; rw [← hn, ← hb] at this; have := this h3; omega)
        refine cw_seq ?_
        refine cw_region ?_
        refine rs_op rfl (ow_assign rfl ?_)
        refine rs_nil ?_
        refine ew_next ?_
        refine cw_ret ?_
        refine ew_then_ret ?_
        refine ew_then_ret ?_
        refine ew_ret (rs := [.tmp 2]) (vs := [_]) rfl ⟨rfl, trivial⟩ ?_
        exact ⟨by rw [e]; rfl, (LW.step E XLW).toBelow⟩
       ·
        have h4 : r ≠ 0 := fun e => absurd h4 (by rw [e]; decide)
        refine cw_skip ?_
        refine ew_next ?_
        refine cw_region ?_
        refine rs_op rfl (ow_move rfl ?_)
        refine rs_op rfl (ow_move rfl ?_)
        refine rs_op rfl (ow_sliceS (l := r) (h := s.size - nQ s b) Tryz.underlying9 rfl ⟨_, rfl⟩ (extract_size).symm (by omega) (by rw [extract_size]; omega) ?_)
        refine rs_op rfl (ow_assign rfl ?_)
        refine rs_nil ?_
        refine ew_set 0 (.string (s.extract (nC s b) s.size)) rfl ((by rw [ext_ext rfl e1.symm] : (.string ((s.extract (nQ s b) s.size).extract r (s.size - nQ s b)) : Value) = _)) ?_
        exact ew_mid () ⟨rfl, trivial⟩ ⟨M7.step E XM7, fun _ => by omega⟩
    ·
     have h3 := of_decide_eq_false h3
     refine cw_skip ?_
     refine ew_set 0 (.string (s.extract (nC s b) s.size)) rfl ((by rw [nC_no h3] : (.string (s.extract b s.size) : Value) = _)) ?_
     exact ew_mid () ⟨rfl, trivial⟩ ⟨M7.step E XM7, fun h => absurd h h3⟩
   ·
    rintro _ w8 ⟨M7, h5⟩
    have XM7 : ∀ q9, (No) q9 → (No) q9 ∨ w6.heap.size ≤ q9 := fun _ h => Or.inl h
    replace E := E.trans M7
    replace HF := HF.on E
    replace LW := LW.step E XLW
    replace E := Ext.refl (No) w8
    refine cw_seq ?_
    refine cw_region ?_
    refine rs_op rfl (ow_move rfl ?_)
    refine rs_op rfl (ow_eqlS rfl rfl ?_)
    refine rs_op rfl (ow_assign rfl ?_)
    refine rs_nil ?_
    refine ew_next ?_
    refine cw_ret ?_
    refine ew_set 2 (.bool (decide (s.size ≤ nC s b))) rfl (by rw [eq_nil]) ?_
    by_cases h6 : s.size ≤ nC s b
    ·
     have e : numB s 0 = true := numB_on ⟨by rw [← hn]; omega, by rw [← hn, ← hb]; exact h2, by rw [← hn, ← hb]; omega, by rw [← hn, ← hb]; exact h5⟩
     refine ew_ret (rs := [.tmp 2]) (vs := [_]) rfl ⟨rfl, trivial⟩ ?_
     exact ⟨by rw [e, decide_eq_true h6]; rfl, (LW.step E XLW).toBelow⟩
    ·
     have e : numB s 0 = false := numB_off (fun h => by have := h.2.2.1; rw [← hn, ← hb] at this; omega)
     refine ew_ret (rs := [.tmp 2]) (vs := [_]) rfl ⟨rfl, trivial⟩ ?_
     exact ⟨by rw [e, decide_eq_false h6]; rfl, (LW.step E XLW).toBelow⟩
theorem numeral_any_r (s : ByteArray) (f : Nat) (hf : f ≤ s.size) (hl : s.size < 100000) : Calls Tryz.prog 45 #[.string s, .int .i64 ((f : Nat) : Int)] w fun e w' => e = .returned (.bool (numB s f)) ∧ Below w.heap.size w w' := by
 obtain ⟨n, hn⟩ : ∃ n, n = runD s f := ⟨_, rfl⟩
 have hnI := (runD_ends (s := s) hf).1
 rw [← hn] at hnI
 have hns := hnI.hi
 have hnf := hnI.lo
 obtain ⟨b, hb⟩ : ∃ b, b = nB s n := ⟨_, rfl⟩
 have hbs := nB_le (s := s) hns
 rw [← hb] at hbs
 refine calls_cw Tryz.func45 rfl Tryz.ntmps45 rfl ?_
 have HF : Per (No) w (fun _ => True) := Per.true_
 have LW := Ext.refl (No) w
 have XLW : ∀ q9, (No) q9 → (No) q9 ∨ w.heap.size ≤ q9 := fun _ h => Or.inl h
 have E := Ext.refl (No) w
 refine cw_seq ?_
 refine cw_region ?_
 refine rs_op rfl (ow_assign rfl ?_)
 refine rs_nil ?_
 refine ew_next ?_
 refine cw_seq ?_
 refine cw_region ?_
 refine rs_op rfl (ow_move rfl ?_)
 refine rs_op rfl (ow_move rfl ?_)
 refine rs_op rfl (ow_enter en87 rfl ((run_any _ s f hf hl).mono ?_))
 rintro e w1 ⟨rfl, hb⟩
 refine ⟨_, rfl, ?_⟩
 have Ec := Ext.of_below hb No
 replace E := E.trans Ec.no
 clear hb Ec
 refine rs_set 10 (.int .i64 ((n : Nat) : Int)) rfl ((by rw [hn] : (.int .i64 ((runD s f : Nat) : Int) : Value) = _)) ?_
 refine rs_op rfl (ow_assign rfl ?_)
 refine rs_nil ?_
 refine ew_next ?_
 refine cw_seq ?_
 refine cw_seq ?_
 refine cw_region ?_
 refine rs_op rfl (ow_move rfl ?_)
 refine rs_op rfl (ow_move rfl ?_)
 refine rs_op rfl (ow_eql rfl rfl ?_)
 refine rs_nil ?_
 refine ew_next ?_
 refine cw_cond rfl (fun h1 => ?_) (fun h1 => ?_)
 ·
  have h1 : n = f := by have h1 := eq_of_beq h1; omega
  have e : numB s f = false := numB_off (fun h => by have := h.1; rw [← hn] at this; omega)
  refine cw_seq ?_
  refine cw_region ?_
  refine rs_op rfl (ow_assign rfl ?_)
  refine rs_nil ?_
  refine ew_next ?_
  refine cw_ret ?_
  refine ew_then_ret ?_
  refine ew_ret (rs := [.tmp 4]) (vs := [_]) rfl ⟨rfl, trivial⟩ ?_
  exact ⟨by rw [e]; rfl, (LW.step E XLW).toBelow⟩
 ·
  have h1 : n ≠ f := fun e => absurd h1 (by rw [e]; simp)
  refine cw_skip ?_
  refine ew_next ?_
  refine cw_seq ?_
  refine cw_seq ?_
  replace HF := HF.on E
  replace LW := LW.step E XLW
  replace E := Ext.refl (No) w1
  refine cw_join (ι := Unit) (fun _ => [(0, .string s), (1, .int .i64 ((f : Nat) : Int)), (5, .int .i64 ((n : Nat) : Int)), (23, .bool (decide (bAt s n = 46)))]) (fun _ w' => Ext (No) w1 w' ∧ (True)) ?_ ?_
  ·
   have M2 := Ext.refl (No) w1
   have XM2 : ∀ q9, (No) q9 → (No) q9 ∨ w1.heap.size ≤ q9 := fun _ h => Or.inl h
   refine cw_region ?_
   refine rs_op rfl (ow_move rfl ?_)
   refine rs_op rfl (ow_move rfl ?_)
   refine rs_op rfl (ow_lenS Tryz.underlying9 rfl ?_)
   refine rs_op rfl (ow_lss rfl rfl ?_)
   refine rs_op rfl (ow_move rfl ?_)
   refine rs_split 18 rfl (fun h2 => ?_) (fun h2 => ?_)
   ·
    have h2 : n < s.size := by have h2 := of_decide_eq_true h2; omega
    refine rs_op rfl (ow_on rfl (ow_move rfl ?_))
    refine rs_op rfl (ow_on rfl (ow_move rfl ?_))
    refine rs_op rfl (ow_on rfl (ow_indexSL (j := n) (b := bAt s (n)) Tryz.underlying9 rfl rfl rfl (bAt_some (by omega)) ?_))
    refine rs_op rfl (ow_on rfl (ow_eql rfl rfl ?_))
    refine rs_op rfl (ow_pickT rfl rfl ?_)
    refine rs_nil ?_
    by_cases h3 : bAt s n = 46
    ·
     refine ew_set 23 (.bool (decide (bAt s n = 46))) rfl ((by rw [h3]; rfl : (.bool (((bAt s (n) : Nat) : Int) == 46) : Value) = _)) ?_
     exact ew_mid () ⟨rfl, rfl, rfl, rfl, trivial⟩ ⟨M2.step E XM2, trivial⟩
    ·
     refine ew_set 23 (.bool (decide (bAt s n = 46))) rfl ((by rw [beq_no (by omega), decide_eq_false h3] : (.bool (((bAt s (n) : Nat) : Int) == 46) : Value) = _)) ?_
     exact ew_mid () ⟨rfl, rfl, rfl, rfl, trivial⟩ ⟨M2.step E XM2, trivial⟩
   ·
    have h2 : ¬ n < s.size := by have h2 := of_decide_eq_false h2; omega
    have h0 := bAt_end (s := s) (i := n) (by omega)
    refine rs_op rfl (ow_off rfl ?_)
    refine rs_op rfl (ow_off rfl ?_)
    refine rs_op rfl (ow_off rfl ?_)
    refine rs_op rfl (ow_off rfl ?_)
    refine rs_op rfl (ow_pickF rfl rfl ?_)
    refine rs_nil ?_
    refine ew_set 23 (.bool (decide (bAt s n = 46))) rfl ((by rw [decide_eq_false (by omega)] : (.bool false : Value) = _)) ?_
    exact ew_mid () ⟨rfl, rfl, rfl, rfl, trivial⟩ ⟨M2.step E XM2, trivial⟩
  ·
   rintro _ w3 ⟨M2, _⟩
   have XM2 : ∀ q9, (No) q9 → (No) q9 ∨ w1.heap.size ≤ q9 := fun _ h => Or.inl h
   replace E := E.trans M2
   replace HF := HF.on E
   replace LW := LW.step E XLW
   replace E := Ext.refl (No) w3
   replace HF := HF.on E
   replace LW := LW.step E XLW
   replace E := Ext.refl (No) w3
   refine cw_join (ι := Unit) (fun _ => [(0, .string s), (5, .int .i64 ((b : Nat) : Int))]) (fun _ w' => Ext (No) w3 w' ∧ ((bAt s n = 46 → n + 1 < b))) ?_ ?_
   ·
    have M4 := Ext.refl (No) w3
    have XM4 : ∀ q9, (No) q9 → (No) q9 ∨ w3.heap.size ≤ q9 := fun _ h => Or.inl h
    refine cw_cond rfl (fun h3 => ?_) (fun h3 => ?_)
    ·
     have h3 := of_decide_eq_true h3
     have hin := bAt_in (s := s) (i := n) (by omega)
     have e1 : b = runD s (n + 1) := by rw [hb, nB_dot h3]
     have e2 := (runD_ends (s := s) (a := n + 1) hin).1.lo
     rw [← e1] at e2
     refine cw_seq ?_
     refine cw_region ?_
     refine rs_op rfl (ow_move rfl ?_)
     refine rs_op rfl (ow_move rfl ?_)
     refine rs_op rfl (ow_add rfl rfl (wrap_i64 (by omega)) ?_)
     refine rs_set 26 (.int .i64 ((n + 1 : Nat) : Int)) rfl (rfl) ?_
     refine rs_op rfl (ow_enter en87 rfl ((run_any _ s (n + 1) hin hl).mono ?_))
     rintro e w6 ⟨rfl, hb⟩
     refine ⟨_, rfl, ?_⟩
     have Ec := Ext.of_below hb No
     replace E := E.trans Ec.no
     clear hb Ec
     refine rs_set 27 (.int .i64 ((b : Nat) : Int)) rfl ((by rw [e1] : (.int .i64 ((runD s (n + 1) : Nat) : Int) : Value) = _)) ?_
     refine rs_op rfl (ow_assign rfl ?_)
     refine rs_nil ?_
     refine ew_next ?_
     refine cw_seq ?_
     refine cw_seq ?_
     refine cw_region ?_
     refine rs_op rfl (ow_move rfl ?_)
     refine rs_op rfl (ow_move rfl ?_)
     refine rs_op rfl (ow_add rfl rfl (wrap_i64 (by omega)) ?_)
     refine rs_op rfl (ow_eql rfl rfl ?_)
     refine rs_nil ?_
     refine ew_next ?_
     refine cw_cond rfl (fun h4 => ?_) (fun h4 => ?_)
     ·
      have h4 : b = n + 1 := by have h4 := eq_of_beq h4; omega
      have e : numB s f = false := numB_off (fun h => by have := h.2.1; rw [← hn, ← hb] at this; have := this h3; omega)
      refine cw_seq ?_
      refine cw_region ?_
      refine rs_op rfl (ow_assign rfl ?_)
      refine rs_nil ?_
      refine ew_next ?_
      refine cw_ret ?_
      refine ew_then_ret ?_
      refine ew_then_ret ?_
      refine ew_ret (rs := [.tmp 4]) (vs := [_]) rfl ⟨rfl, trivial⟩ ?_
      exact ⟨by rw [e]; rfl, (LW.step E XLW).toBelow⟩
     ·
      have h4 : b ≠ n + 1 := fun e => absurd h4 (by rw [e]; simp)
      refine cw_skip ?_
      refine ew_next ?_
      refine cw_region ?_
      refine rs_op rfl (ow_move rfl ?_)
      refine rs_op rfl (ow_assign rfl ?_)
      refine rs_nil ?_
      exact ew_mid () ⟨rfl, rfl, trivial⟩ ⟨M4.step E XM4, fun _ => by omega⟩
    ·
     have h3 := of_decide_eq_false h3
     have e1 : b = n := by rw [hb, nB_no h3]
     refine cw_skip ?_
     refine ew_set 5 (.int .i64 ((b : Nat) : Int)) rfl ((by rw [e1] : (.int .i64 ((n : Nat) : Int) : Value) = _)) ?_
     exact ew_mid () ⟨rfl, rfl, trivial⟩ ⟨M4.step E XM4, fun h => absurd h h3⟩
   ·
    rintro _ w5 ⟨M4, h2⟩
    have XM4 : ∀ q9, (No) q9 → (No) q9 ∨ w3.heap.size ≤ q9 := fun _ h => Or.inl h
    replace E := E.trans M4
    replace HF := HF.on E
    replace LW := LW.step E XLW
    replace E := Ext.refl (No) w5
    have hcs := nC_le (s := s) hbs.2
    refine cw_seq ?_
    refine cw_seq ?_
    replace HF := HF.on E
    replace LW := LW.step E XLW
    replace E := Ext.refl (No) w5
    refine cw_join (ι := Unit) (fun _ => [(0, .string s), (5, .int .i64 ((b : Nat) : Int)), (42, .bool (decide (bAt s b = 101)))]) (fun _ w' => Ext (No) w5 w' ∧ (True)) ?_ ?_
    ·
     have M7 := Ext.refl (No) w5
     have XM7 : ∀ q9, (No) q9 → (No) q9 ∨ w5.heap.size ≤ q9 := fun _ h => Or.inl h
     refine cw_region ?_
     refine rs_op rfl (ow_move rfl ?_)
     refine rs_op rfl (ow_move rfl ?_)
     refine rs_op rfl (ow_lenS Tryz.underlying9 rfl ?_)
     refine rs_op rfl (ow_lss rfl rfl ?_)
     refine rs_op rfl (ow_move rfl ?_)
     refine rs_split 37 rfl (fun h3 => ?_) (fun h3 => ?_)
     ·
      have h3 : b < s.size := by have h3 := of_decide_eq_true h3; omega
      refine rs_op rfl (ow_on rfl (ow_move rfl ?_))
      refine rs_op rfl (ow_on rfl (ow_move rfl ?_))
      refine rs_op rfl (ow_on rfl (ow_indexSL (j := b) (b := bAt s (b)) Tryz.underlying9 rfl rfl rfl (bAt_some (by omega)) ?_))
      refine rs_op rfl (ow_on rfl (ow_eql rfl rfl ?_))
      refine rs_op rfl (ow_pickT rfl rfl ?_)
      refine rs_nil ?_
      by_cases h4 : bAt s b = 101
      ·
       refine ew_set 42 (.bool (decide (bAt s b = 101))) rfl ((by rw [h4]; rfl : (.bool (((bAt s (b) : Nat) : Int) == 101) : Value) = _)) ?_
       exact ew_mid () ⟨rfl, rfl, rfl, trivial⟩ ⟨M7.step E XM7, trivial⟩
      ·
       refine ew_set 42 (.bool (decide (bAt s b = 101))) rfl ((by rw [beq_no (by omega), decide_eq_false h4] : (.bool (((bAt s (b) : Nat) : Int) == 101) : Value) = _)) ?_
       exact ew_mid () ⟨rfl, rfl, rfl, trivial⟩ ⟨M7.step E XM7, trivial⟩
     ·
      have h3 : ¬ b < s.size := by have h3 := of_decide_eq_false h3; omega
      have h0 := bAt_end (s := s) (i := b) (by omega)
      refine rs_op rfl (ow_off rfl ?_)
      refine rs_op rfl (ow_off rfl ?_)
      refine rs_op rfl (ow_off rfl ?_)
      refine rs_op rfl (ow_off rfl ?_)
      refine rs_op rfl (ow_pickF rfl rfl ?_)
      refine rs_nil ?_
      refine ew_set 42 (.bool (decide (bAt s b = 101))) rfl ((by rw [decide_eq_false (by omega)] : (.bool false : Value) = _)) ?_
      exact ew_mid () ⟨rfl, rfl, rfl, trivial⟩ ⟨M7.step E XM7, trivial⟩
    ·
     rintro _ w8 ⟨M7, _⟩
     have XM7 : ∀ q9, (No) q9 → (No) q9 ∨ w5.heap.size ≤ q9 := fun _ h => Or.inl h
     replace E := E.trans M7
     replace HF := HF.on E
     replace LW := LW.step E XLW
     replace E := Ext.refl (No) w8
     replace HF := HF.on E
     replace LW := LW.step E XLW
     replace E := Ext.refl (No) w8
     refine cw_join (ι := Unit) (fun _ => [(0, .string s), (5, .int .i64 ((nC s b : Nat) : Int))]) (fun _ w' => Ext (No) w8 w' ∧ ((bAt s b = 101 → nQ s b < nC s b))) ?_ ?_
     ·
      have M9 := Ext.refl (No) w8
      have XM9 : ∀ q9, (No) q9 → (No) q9 ∨ w8.heap.size ≤ q9 := fun _ h => Or.inl h
      refine cw_cond rfl (fun h3 => ?_) (fun h3 => ?_)
      ·
       have h3 := of_decide_eq_true h3
       have hin := bAt_in (s := s) (i := b) (by omega)
       have hqs := nQ_le hin
       refine cw_seq ?_
       refine cw_region ?_
       refine rs_op rfl (ow_move rfl ?_)
       refine rs_op rfl (ow_add rfl rfl (wrap_i64 (by omega)) ?_)
       refine rs_op rfl (ow_assign rfl ?_)
       refine rs_nil ?_
       refine ew_next ?_
       refine cw_seq ?_
       refine cw_seq ?_
       refine cw_set 5 (.int .i64 ((b + 1 : Nat) : Int)) rfl (rfl) ?_
       replace HF := HF.on E
       replace LW := LW.step E XLW
       replace M9 := M9.step E XM9
       replace E := Ext.refl (No) w8
       refine cw_join (ι := Bool) (fun g => [(0, .string s), (5, .int .i64 ((b + 1 : Nat) : Int)), (60, .bool g)]) (fun g w' => Ext (No) w8 w' ∧ (g = decide (bAt s (b + 1) = 43 ∨ bAt s (b + 1) = 45))) ?_ ?_
       ·
        have M11 := Ext.refl (No) w8
        have XM11 : ∀ q9, (No) q9 → (No) q9 ∨ w8.heap.size ≤ q9 := fun _ h => Or.inl h
        refine cw_region ?_
        refine rs_op rfl (ow_move rfl ?_)
        refine rs_op rfl (ow_move rfl ?_)
        refine rs_op rfl (ow_lenS Tryz.underlying9 rfl ?_)
        refine rs_op rfl (ow_lss rfl rfl ?_)
        refine rs_op rfl (ow_move rfl ?_)
        refine rs_split 49 rfl (fun h6 => ?_) (fun h6 => ?_)
        ·
         have h6 : b + 1 < s.size := by have h6 := of_decide_eq_true h6; omega
         refine rs_op rfl (ow_on rfl (ow_move rfl ?_))
         refine rs_op rfl (ow_on rfl (ow_move rfl ?_))
         refine rs_op rfl (ow_on rfl (ow_indexSL (j := b + 1) (b := bAt s (b + 1)) Tryz.underlying9 rfl rfl rfl (bAt_some (by omega)) ?_))
         refine rs_op rfl (ow_on rfl (ow_eql rfl rfl ?_))
         refine rs_op rfl (ow_on rfl (ow_move rfl ?_))
         refine rs_split 54 rfl (fun h7 => ?_) (fun h7 => ?_)
         ·
          have h7 : bAt s (b + 1) = 43 := by have h7 := eq_of_beq h7; omega
          refine rs_op rfl (ow_off rfl ?_)
          refine rs_op rfl (ow_off rfl ?_)
          refine rs_op rfl (ow_off rfl ?_)
          refine rs_op rfl (ow_off rfl ?_)
          refine rs_op rfl (ow_on rfl (ow_pickT rfl rfl ?_))
          refine rs_op rfl (ow_pickT rfl rfl ?_)
          refine rs_nil ?_
          exact ew_mid true ⟨rfl, rfl, rfl, trivial⟩ ⟨M11.step E XM11, (decide_eq_true (.inl h7)).symm⟩
         ·
          have h7 : ¬ bAt s (b + 1) = 43 := fun e => absurd h7 (by rw [e]; decide)
          refine rs_op rfl (ow_on rfl (ow_move rfl ?_))
          refine rs_op rfl (ow_on rfl (ow_move rfl ?_))
          refine rs_op rfl (ow_on rfl (ow_indexSL (j := b + 1) (b := bAt s (b + 1)) Tryz.underlying9 rfl rfl rfl (bAt_some (by omega)) ?_))
          refine rs_op rfl (ow_on rfl (ow_eql rfl rfl ?_))
          refine rs_op rfl (ow_on rfl (ow_pickF rfl rfl ?_))
          refine rs_op rfl (ow_pickT rfl rfl ?_)
          refine rs_nil ?_
          by_cases h8 : bAt s (b + 1) = 45
          ·
           refine ew_set 60 (.bool true) rfl ((by rw [h8]; rfl : (.bool (((bAt s (b + 1) : Nat) : Int) == 45) : Value) = _)) ?_
           exact ew_mid true ⟨rfl, rfl, rfl, trivial⟩ ⟨M11.step E XM11, (decide_eq_true (.inr h8)).symm⟩
          ·
           refine ew_set 60 (.bool false) rfl ((by rw [beq_no (by omega)] : (.bool (((bAt s (b + 1) : Nat) : Int) == 45) : Value) = _)) ?_
           exact ew_mid false ⟨rfl, rfl, rfl, trivial⟩ ⟨M11.step E XM11, (decide_eq_false (by omega)).symm⟩
        ·
         have h6 : ¬ b + 1 < s.size := by have h6 := of_decide_eq_false h6; omega
         have h0 := bAt_end (s := s) (i := b + 1) (by omega)
         refine rs_op rfl (ow_off rfl ?_)
         refine rs_op rfl (ow_off rfl ?_)
         refine rs_op rfl (ow_off rfl ?_)
         refine rs_op rfl (ow_off rfl ?_)
         refine rs_op rfl (ow_off rfl ?_)
         refine rs_op rfl (ow_offU rfl rfl ?_)
         refine rs_op rfl (ow_offU rfl rfl ?_)
         refine rs_op rfl (ow_offU rfl rfl ?_)
         refine rs_op rfl (ow_offU rfl rfl ?_)
         refine rs_op rfl (ow_off rfl ?_)
         refine rs_op rfl (ow_pickF rfl rfl ?_)
         refine rs_nil ?_
         exact ew_mid false ⟨rfl, rfl, rfl, trivial⟩ ⟨M11.step E XM11, (decide_eq_false (by omega)).symm⟩
       ·
        rintro g w12 ⟨M11, hg⟩
        have XM11 : ∀ q9, (No) q9 → (No) q9 ∨ w8.heap.size ≤ q9 := fun _ h => Or.inl h
        replace E := E.trans M11
        replace HF := HF.on E
        replace LW := LW.step E XLW
        replace M9 := M9.step E XM9
        replace E := Ext.refl (No) w12
        replace HF := HF.on E
        replace LW := LW.step E XLW
        replace M9 := M9.step E XM9
        replace E := Ext.refl (No) w12
        refine cw_join (ι := Unit) (fun _ => [(0, .string s), (5, .int .i64 ((nQ s b : Nat) : Int))]) (fun _ w' => Ext (No) w12 w' ∧ (True)) ?_ ?_
        ·
         have M13 := Ext.refl (No) w12
         have XM13 : ∀ q9, (No) q9 → (No) q9 ∨ w12.heap.size ≤ q9 := fun _ h => Or.inl h
         refine cw_cond rfl (fun h6 => ?_) (fun h6 => ?_)
         ·
          rw [hg] at h6
          have h6 := of_decide_eq_true h6
          have e1 : nQ s b = b + 2 := by unfold nQ; rw [if_pos h6]
          refine cw_region ?_
          refine rs_op rfl (ow_move rfl ?_)
          refine rs_op rfl (ow_add rfl rfl (wrap_i64 (by omega)) ?_)
          refine rs_op rfl (ow_assign rfl ?_)
          refine rs_nil ?_
          refine ew_set 5 (.int .i64 ((nQ s b : Nat) : Int)) rfl ((by rw [e1]; rfl : (.int .i64 (((b + 1 : Nat) : Int) + 1) : Value) = _)) ?_
          exact ew_mid () ⟨rfl, rfl, trivial⟩ ⟨M13.step E XM13, trivial⟩
         ·
          rw [hg] at h6
          have h6 := of_decide_eq_false h6
          have e1 : nQ s b = b + 1 := by unfold nQ; rw [if_neg h6]
          refine cw_skip ?_
          refine ew_set 5 (.int .i64 ((nQ s b : Nat) : Int)) rfl ((by rw [e1] : (.int .i64 ((b + 1 : Nat) : Int) : Value) = _)) ?_
          exact ew_mid () ⟨rfl, rfl, trivial⟩ ⟨M13.step E XM13, trivial⟩
        ·
         rintro _ w14 ⟨M13, _⟩
         have XM13 : ∀ q9, (No) q9 → (No) q9 ∨ w12.heap.size ≤ q9 := fun _ h => Or.inl h
         replace E := E.trans M13
         replace HF := HF.on E
         replace LW := LW.step E XLW
         replace M9 := M9.step E XM9
         replace E := Ext.refl (No) w14
         have e1 : nC s b = runD s (nQ s b) := nC_e h3
         have e2 := (runD_ends (s := s) (a := nQ s b) hqs).1.lo
         rw [← e1] at e2
         refine cw_seq ?_
         refine cw_region ?_
         refine rs_op rfl (ow_move rfl ?_)
         refine rs_op rfl (ow_move rfl ?_)
         refine rs_op rfl (ow_enter en87 rfl ((run_any _ s (nQ s b) hqs hl).mono ?_))
         rintro e w15 ⟨rfl, hb⟩
         refine ⟨_, rfl, ?_⟩
         have Ec := Ext.of_below hb No
         replace E := E.trans Ec.no
         clear hb Ec
         refine rs_set 65 (.int .i64 ((nC s b : Nat) : Int)) rfl ((by rw [e1] : (.int .i64 ((runD s (nQ s b) : Nat) : Int) : Value) = _)) ?_
         refine rs_op rfl (ow_assign rfl ?_)
         refine rs_nil ?_
         refine ew_next ?_
         refine cw_seq ?_
         refine cw_seq ?_
         refine cw_region ?_
         refine rs_op rfl (ow_move rfl ?_)
         refine rs_op rfl (ow_move rfl ?_)
         refine rs_op rfl (ow_eql rfl rfl ?_)
         refine rs_nil ?_
         refine ew_next ?_
         refine cw_cond rfl (fun h4 => ?_) (fun h4 => ?_)
         ·
          have h4 : nC s b = nQ s b := by have h4 := eq_of_beq h4; omega
          have e : numB s f = false := numB_off (fun h => by have := h.2.2.2; rw [← hn, ← hb] at this; have := this h3; omega)
          refine cw_seq ?_
          refine cw_region ?_
          refine rs_op rfl (ow_assign rfl ?_)
          refine rs_nil ?_
          refine ew_next ?_
          refine cw_ret ?_
          refine ew_then_ret ?_
          refine ew_then_ret ?_
          refine ew_ret (rs := [.tmp 4]) (vs := [_]) rfl ⟨rfl, trivial⟩ ?_
          exact ⟨by rw [e]; rfl, (LW.step E XLW).toBelow⟩
         ·
          have h4 : nC s b ≠ nQ s b := fun e => absurd h4 (by rw [e]; simp)
          refine cw_skip ?_
          refine ew_next ?_
          refine cw_region ?_
          refine rs_op rfl (ow_move rfl ?_)
          refine rs_op rfl (ow_assign rfl ?_)
          refine rs_nil ?_
          exact ew_mid () ⟨rfl, rfl, trivial⟩ ⟨M9.step E XM9, fun _ => by omega⟩
      ·
       have h3 := of_decide_eq_false h3
       refine cw_skip ?_
       refine ew_set 5 (.int .i64 ((nC s b : Nat) : Int)) rfl ((by rw [nC_no h3] : (.int .i64 ((b : Nat) : Int) : Value) = _)) ?_
       exact ew_mid () ⟨rfl, rfl, trivial⟩ ⟨M9.step E XM9, fun h => absurd h h3⟩
     ·
      rintro _ w10 ⟨M9, h5⟩
      have XM9 : ∀ q9, (No) q9 → (No) q9 ∨ w8.heap.size ≤ q9 := fun _ h => Or.inl h
      replace E := E.trans M9
      replace HF := HF.on E
      replace LW := LW.step E XLW
      replace E := Ext.refl (No) w10
      refine cw_seq ?_
      refine cw_region ?_
      refine rs_op rfl (ow_move rfl ?_)
      refine rs_op rfl (ow_move rfl ?_)
      refine rs_op rfl (ow_lenS Tryz.underlying9 rfl ?_)
      refine rs_op rfl (ow_eql rfl rfl ?_)
      refine rs_op rfl (ow_assign rfl ?_)
      refine rs_nil ?_
      refine ew_next ?_
      refine cw_ret ?_
      by_cases h6 : nC s b = s.size
      ·
       have e : numB s f = true := numB_on ⟨by rw [← hn]; omega, by rw [← hn, ← hb]; exact h2, by rw [← hn, ← hb]; exact h6, by rw [← hn, ← hb]; exact h5⟩
       refine ew_set 4 (.bool true) rfl ((by rw [h6]; simp : (.bool (((nC s b : Nat) : Int) == ((s.size : Nat) : Int)) : Value) = _)) ?_
       refine ew_ret (rs := [.tmp 4]) (vs := [_]) rfl ⟨rfl, trivial⟩ ?_
       exact ⟨by rw [e]; rfl, (LW.step E XLW).toBelow⟩
      ·
       have e : numB s f = false := numB_off (fun h => by have := h.2.2.1; rw [← hn, ← hb] at this; omega)
       refine ew_set 4 (.bool false) rfl ((by rw [beq_no (by omega)] : (.bool (((nC s b : Nat) : Int) == ((s.size : Nat) : Int)) : Value) = _)) ?_
       refine ew_ret (rs := [.tmp 4]) (vs := [_]) rfl ⟨rfl, trivial⟩ ?_
       exact ⟨by rw [e]; rfl, (LW.step E XLW).toBelow⟩
end
end Go.Proofs.YtjdcjdohghkcgaaGreatDoor
namespace Go.Proofs.YtjdcjdohghkcgaaGreatDoor
open Go.RowKit
set_option maxRecDepth 100000
attribute [local irreducible] OW RS
noncomputable def prX (s : ByteArray) : ByteArray := s.extract (cut1 s) s.size
noncomputable def prInf (s : ByteArray) : Bool := (prX s).toList == (⟨#[105, 110, 102]⟩ : ByteArray).toList
noncomputable def prNan (s : ByteArray) : Bool := (prX s).toList == (⟨#[110, 97, 110]⟩ : ByteArray).toList
noncomputable def prV (s : ByteArray) : Nat :=
 if 1000 < s.size then 0
 else if prInf s then sgB (signed s) + 9218868437227405312
 else if prNan s then 9221120237041090560
 else if numB (prX s) 0 then sgB (signed s) + atV (prX s) 0 false
 else 0
noncomputable def prE (s : ByteArray) : Int :=
 if 1000 < s.size then 2
 else if prInf s then 0
 else if prNan s then 0
 else if numB (prX s) 0 then 0
 else 4
theorem cut1_le (s : ByteArray) : cut1 s ≤ s.size := by
 unfold cut1
 split
 · rename_i h
   have := bAt_in (s := s) (i := 0) (by omega)
   omega
 · omega
theorem prX_size (s : ByteArray) : (prX s).size ≤ s.size := by unfold prX; rw [extract_size]; omega
theorem Sgn.le {v : Nat} (h : Sgn false v) : v ≤ 9218868437227405312 := h.tame
theorem bare_signed {v : Nat} (h : Sgn false v) (n : Bool) : bareN (sgB n + v) = sgB n + v := by
 have h1 := sgn_or h.tame n
 rw [sgB_add h.tame] at h1
 unfold bareN
 rw [h1.num, if_neg (by decide)]
theorem word_signed {v : Nat} (h : Sgn false v) : Ieee.double.word (ng 13830554455654793216) (rg v) = sgB true + v := by
 have h1 : rg v = v := by
  have := h.tame
  unfold rg
  omega
 rw [h1, show ng 13830554455654793216 = true by decide +kernel]
 unfold Ieee.Format.word
 rw [c1, if_pos rfl]
 show _ = 9223372036854775808 + v
 omega
theorem sgn_inf : Sgn false 9218868437227405312 := by
 have h := sgn_or (Nat.le_refl 9218868437227405312) false
 rw [show sgB false = 0 from rfl, Nat.zero_or] at h
 exact h
theorem rp40_1 : Gives 40 #[.int .i64 1] (.float .f64 9218868437227405312) := by
 intro w
 refine calls_cw Tryz.func40 rfl Tryz.ntmps40 rfl ?_
 have HF : Per (No) w (fun _ => True) := Per.true_
 have LW := Ext.refl (No) w
 have XLW : ∀ q9, (No) q9 → (No) q9 ∨ w.heap.size ≤ q9 := fun _ h => Or.inl h
 have E := Ext.refl (No) w
 refine cw_seq ?_
 refine cw_region ?_
 refine rs_op rfl (ow_assign rfl ?_)
 refine rs_nil ?_
 refine ew_next ?_
 refine cw_seq ?_
 refine cw_region ?_
 refine rs_op rfl (ow_assign rfl ?_)
 refine rs_nil ?_
 refine ew_next ?_
 refine cw_seq ?_
 refine cw_seq ?_
 refine cw_region ?_
 refine rs_op rfl (ow_move rfl ?_)
 refine rs_op rfl (ow_geq rfl rfl ?_)
 refine rs_nil ?_
 refine ew_next ?_
 refine cw_then rfl ?_
 refine cw_region ?_
 refine rs_op rfl (ow_assign rfl ?_)
 refine rs_nil ?_
 refine ew_next ?_
 refine cw_seq ?_
 refine cw_region ?_
 refine rs_op rfl (ow_move rfl ?_)
 refine rs_op rfl (ow_frombits (b := 9218868437227405312) ex48 rfl ?_)
 refine rs_op rfl (ow_assign rfl ?_)
 refine rs_nil ?_
 refine ew_next ?_
 refine cw_ret ?_
 refine ew_ret (rs := [.tmp 2]) (vs := [.float .f64 9218868437227405312]) rfl ⟨rfl, trivial⟩ ?_
 exact ⟨rfl, (LW.step E XLW).toBelow⟩
section
variable (w : World) {bp op cp bf of cf bl ol cl : Nat}
theorem realparse_any (s : ByteArray) (hT : Tabs bp op cp bf of cf bl ol cl w) (hE : ∃ te pe, w.cell? ⟨4, 0, none⟩ = some (.iface te pe)) : Calls Tryz.prog 12 #[.string s] w fun e w' => e = .returned (.tuple #[.int .u64 ((prV s : Nat) : Int), .int .i64 (prE s)]) ∧ Below w.heap.size w w' := by
 have hxs := prX_size s
 obtain ⟨te, pe, hE⟩ := hE
 refine calls_cw Tryz.func12 rfl Tryz.ntmps12 rfl ?_
 have HF : Per (No) w (fun _ => True) := Per.true_
 have LW := Ext.refl (No) w
 have XLW : ∀ q9, (No) q9 → (No) q9 ∨ w.heap.size ≤ q9 := fun _ h => Or.inl h
 have E := Ext.refl (No) w
 replace HF := HF.on E
 replace LW := LW.step E XLW
 replace E := Ext.refl (No) w
 replace HF := HF.and (Per.tabs hT (fun _ h => h.elim))
 replace HF := HF.on E
 replace LW := LW.step E XLW
 replace E := Ext.refl (No) w
 replace HF := HF.and (Per.cellA hE (fun _ h => h.elim))
 refine cw_seq ?_
 refine cw_region ?_
 refine rs_op rfl (ow_assign rfl ?_)
 refine rs_op rfl (ow_assign rfl ?_)
 refine rs_nil ?_
 refine ew_next ?_
 refine cw_seq ?_
 refine cw_seq ?_
 refine cw_region ?_
 refine rs_op rfl (ow_move rfl ?_)
 refine rs_op rfl (ow_lenS Tryz.underlying9 rfl ?_)
 refine rs_op rfl (ow_gtr rfl rfl ?_)
 refine rs_nil ?_
 refine ew_next ?_
 refine cw_cond rfl (fun h1 => ?_) (fun h1 => ?_)
 ·
  have h1 : 1000 < s.size := by have h1 := of_decide_eq_true h1; omega
  refine cw_seq ?_
  refine cw_region ?_
  refine rs_op rfl (ow_assign rfl ?_)
  refine rs_op rfl (ow_assign rfl ?_)
  refine rs_nil ?_
  refine ew_next ?_
  refine cw_ret ?_
  refine ew_then_ret ?_
  refine ew_ret (rs := [.tmp 2, .tmp 3]) (vs := [_, _]) rfl ⟨rfl, rfl, trivial⟩ ?_
  exact ⟨by unfold prV prE; rw [if_pos h1, if_pos h1]; rfl, (LW.step E XLW).toBelow⟩
 ·
  have h1 : ¬ 1000 < s.size := by have h1 := of_decide_eq_false h1; omega
  refine cw_skip ?_
  refine ew_next ?_
  refine cw_seq ?_
  refine cw_region ?_
  refine rs_op rfl (ow_move rfl ?_)
  refine rs_op rfl (ow_enter en39 rfl ((cut_any _ s).mono ?_))
  rintro e w1 ⟨rfl, hb⟩
  refine ⟨_, rfl, ?_⟩
  have Ec := Ext.of_below hb No
  replace E := E.trans Ec.no
  clear hb Ec
  refine rs_op rfl (ow_move rfl ?_)
  refine rs_op rfl (ow_extract rfl rfl ?_)
  refine rs_op rfl (ow_extract rfl rfl ?_)
  refine rs_op rfl (ow_assign rfl ?_)
  refine rs_op rfl (ow_assign rfl ?_)
  refine rs_nil ?_
  refine ew_next ?_
  refine cw_seq ?_
  refine cw_region ?_
  refine rs_op rfl (ow_assign rfl ?_)
  refine rs_nil ?_
  refine ew_next ?_
  refine cw_seq ?_
  replace HF := HF.on E
  replace LW := LW.step E XLW
  replace E := Ext.refl (No) w1
  refine cw_join (ι := Nat) (fun v => [(5, .bool (signed s)), (6, .float .f64 v)]) (fun v w' => Ext (No) w1 w' ∧ (Sgn false v ∧ sgB (signed s) + v = prV s ∧ prE s = 0)) ?_ ?_
  ·
   have M2 := Ext.refl (No) w1
   have XM2 : ∀ q9, (No) q9 → (No) q9 ∨ w1.heap.size ≤ q9 := fun _ h => Or.inl h
   refine cw_block ?_
   refine cw_seq ?_
   refine cw_region ?_
   refine rs_op rfl (ow_move rfl ?_)
   refine rs_op rfl (ow_eqlS rfl rfl ?_)
   refine rs_op rfl (ow_assign rfl ?_)
   refine rs_nil ?_
   refine ew_next ?_
   refine cw_cond rfl (fun h2 => ?_) (fun h2 => ?_)
   ·
    have h2 : prInf s = true := h2
    refine cw_region ?_
    refine rs_op rfl (ow_enter en40 rfl ((rp40_1 _).mono ?_))
    rintro e w4 ⟨rfl, hb⟩
    refine ⟨_, rfl, ?_⟩
    have Ec := Ext.of_below hb No
    replace E := E.trans Ec.no
    clear hb Ec
    refine rs_op rfl (ow_assign rfl ?_)
    refine rs_nil ?_
    refine ew_block_normal ?_
    exact ew_mid 9218868437227405312 ⟨rfl, rfl, trivial⟩ ⟨M2.step E XM2, sgn_inf, by unfold prV; rw [if_neg h1, if_pos h2], by unfold prE; rw [if_neg h1, if_pos h2]⟩
   ·
    have h2 : ¬ prInf s = true := by rw [show prInf s = false from h2]; decide
    refine cw_seq ?_
    refine cw_region ?_
    refine rs_op rfl (ow_move rfl ?_)
    refine rs_op rfl (ow_eqlS rfl rfl ?_)
    refine rs_op rfl (ow_assign rfl ?_)
    refine rs_nil ?_
    refine ew_next ?_
    refine cw_cond rfl (fun h3 => ?_) (fun h3 => ?_)
    ·
     have h3 : prNan s = true := h3
     refine cw_seq ?_
     refine cw_region ?_
     refine rs_op rfl (ow_assign rfl ?_)
     refine rs_op rfl (ow_assign rfl ?_)
     refine rs_nil ?_
     refine ew_next ?_
     refine cw_ret ?_
     refine ew_block_ret ?_
     refine ew_then_ret ?_
     refine ew_ret (rs := [.tmp 2, .tmp 3]) (vs := [_, _]) rfl ⟨rfl, rfl, trivial⟩ ?_
     exact ⟨by unfold prV prE; rw [if_neg h1, if_neg h1, if_neg h2, if_neg h2, if_pos h3, if_pos h3]; rfl, (LW.step E XLW).toBelow⟩
    ·
     have h3 : ¬ prNan s = true := by rw [show prNan s = false from h3]; decide
     refine cw_seq ?_
     refine cw_region ?_
     refine rs_op rfl (ow_move rfl ?_)
     refine rs_op rfl (ow_enter en41 rfl ((numeral_any _ (prX s) (by omega)).mono ?_))
     rintro e w5 ⟨rfl, hb⟩
     refine ⟨_, rfl, ?_⟩
     have Ec := Ext.of_below hb No
     replace E := E.trans Ec.no
     clear hb Ec
     refine rs_op rfl (ow_assign rfl ?_)
     refine rs_nil ?_
     refine ew_next ?_
     refine cw_cond rfl (fun h4 => ?_) (fun h4 => ?_)
     ·
      have hnm := num_nm (Nat.zero_le _) (numB_is h4)
      refine cw_region ?_
      refine rs_op rfl (ow_move rfl ?_)
      refine rs_op rfl (ow_enter en42 rfl ((parse_pos _ (prX s) hnm (by omega) (HF.on E).here.1.2 ⟨te, pe, (HF.on E).here.2⟩).mono ?_))
      rintro e w6 ⟨⟨er, rfl⟩, hb⟩
      refine ⟨_, rfl, ?_⟩
      have Ec := Ext.of_below hb No
      replace E := E.trans Ec.no
      clear hb Ec
      refine rs_op rfl (ow_move rfl ?_)
      refine rs_op rfl (ow_extract rfl rfl ?_)
      refine rs_op rfl (ow_extract rfl rfl ?_)
      refine rs_op rfl (ow_assign rfl ?_)
      refine rs_nil ?_
      refine ew_block_normal ?_
      exact ew_mid (atV (prX s) 0 false) ⟨rfl, rfl, trivial⟩ ⟨M2.step E XM2, atV_sgn false hnm, by unfold prV; rw [if_neg h1, if_neg h2, if_neg h3, if_pos h4], by unfold prE; rw [if_neg h1, if_neg h2, if_neg h3, if_pos h4]⟩
     ·
      have h4 : ¬ numB (prX s) 0 = true := by rw [h4]; decide
      refine cw_seq ?_
      refine cw_region ?_
      refine rs_op rfl (ow_assign rfl ?_)
      refine rs_op rfl (ow_assign rfl ?_)
      refine rs_nil ?_
      refine ew_next ?_
      refine cw_ret ?_
      refine ew_block_ret ?_
      refine ew_then_ret ?_
      refine ew_ret (rs := [.tmp 2, .tmp 3]) (vs := [_, _]) rfl ⟨rfl, rfl, trivial⟩ ?_
      exact ⟨by unfold prV prE; rw [if_neg h1, if_neg h1, if_neg h2, if_neg h2, if_neg h3, if_neg h3, if_neg h4, if_neg h4]; rfl, (LW.step E XLW).toBelow⟩
  ·
   rintro v w3 ⟨M2, ⟨hv, hpv, hpe⟩⟩
   have XM2 : ∀ q9, (No) q9 → (No) q9 ∨ w1.heap.size ≤ q9 := fun _ h => Or.inl h
   replace E := E.trans M2
   replace HF := HF.on E
   replace LW := LW.step E XLW
   replace E := Ext.refl (No) w3
   refine cw_seq ?_
   refine cw_seq ?_
   refine cw_region ?_
   refine rs_op rfl (ow_move rfl ?_)
   refine rs_nil ?_
   refine ew_next ?_
   refine cw_cond rfl (fun h5 => ?_) (fun h5 => ?_)
   ·
    refine cw_region ?_
    refine rs_op rfl (ow_move rfl ?_)
    refine rs_op rfl (ow_enter en43 rfl ((copysign_any _ v hv.lt 13830554455654793216 (by decide)).mono ?_))
    rintro e w7 ⟨rfl, hb⟩
    refine ⟨_, rfl, ?_⟩
    have Ec := Ext.of_below hb No
    replace E := E.trans Ec.no
    clear hb Ec
    refine rs_set 32 (.float .f64 (sgB true + v)) rfl ((by rw [word_signed hv] : (.float .f64 (Ieee.double.word (ng 13830554455654793216) (rg v)) : Value) = _)) ?_
    refine rs_op rfl (ow_assign rfl ?_)
    refine rs_nil ?_
    refine ew_next ?_
    refine cw_seq ?_
    refine cw_region ?_
    refine rs_op rfl (ow_move rfl ?_)
    refine rs_op rfl (ow_enter en44 rfl ((bare_any _ (sgB true + v)).mono ?_))
    rintro e w8 ⟨rfl, hb⟩
    refine ⟨_, rfl, ?_⟩
    have Ec := Ext.of_below hb No
    replace E := E.trans Ec.no
    clear hb Ec
    refine rs_op rfl (ow_assign rfl ?_)
    refine rs_op rfl (ow_assign rfl ?_)
    refine rs_nil ?_
    refine ew_next ?_
    refine cw_ret ?_
    refine ew_ret (rs := [.tmp 2, .tmp 3]) (vs := [_, _]) rfl ⟨rfl, rfl, trivial⟩ ?_
    exact ⟨by rw [bare_signed hv, ← hpv, hpe, h5]; rfl, (LW.step E XLW).toBelow⟩
   ·
    refine cw_skip ?_
    refine ew_next ?_
    refine cw_seq ?_
    refine cw_region ?_
    refine rs_op rfl (ow_move rfl ?_)
    refine rs_op rfl (ow_enter en44 rfl ((bare_any _ v).mono ?_))
    rintro e w9 ⟨rfl, hb⟩
    refine ⟨_, rfl, ?_⟩
    have Ec := Ext.of_below hb No
    replace E := E.trans Ec.no
    clear hb Ec
    have hb0 := bare_signed hv false
    rw [show sgB false = 0 from rfl, Nat.zero_add] at hb0
    refine rs_op rfl (ow_assign rfl ?_)
    refine rs_op rfl (ow_assign rfl ?_)
    refine rs_nil ?_
    refine ew_next ?_
    refine cw_ret ?_
    refine ew_ret (rs := [.tmp 2, .tmp 3]) (vs := [_, _]) rfl ⟨rfl, rfl, trivial⟩ ?_
    exact ⟨by rw [hb0, ← hpv, hpe, h5, show sgB false = 0 from rfl, Nat.zero_add]; rfl, (LW.step E XLW).toBelow⟩
theorem realparse_any_r (s : ByteArray) (hT : Tabs bp op cp bf of cf bl ol cl w) (hE : ∃ te pe, w.cell? ⟨4, 0, none⟩ = some (.iface te pe)) : Calls Tryz.prog 13 #[.string s] w fun e w' => e = .returned (.tuple #[.int .u64 ((prV s : Nat) : Int), .int .i64 (prE s)]) ∧ Below w.heap.size w w' := by
 have hxs := prX_size s
 have hcl := cut1_le s
 obtain ⟨te, pe, hE⟩ := hE
 refine calls_cw Tryz.func13 rfl Tryz.ntmps13 rfl ?_
 have HF : Per (No) w (fun _ => True) := Per.true_
 have LW := Ext.refl (No) w
 have XLW : ∀ q9, (No) q9 → (No) q9 ∨ w.heap.size ≤ q9 := fun _ h => Or.inl h
 have E := Ext.refl (No) w
 replace HF := HF.on E
 replace LW := LW.step E XLW
 replace E := Ext.refl (No) w
 replace HF := HF.and (Per.tabs hT (fun _ h => h.elim))
 replace HF := HF.on E
 replace LW := LW.step E XLW
 replace E := Ext.refl (No) w
 replace HF := HF.and (Per.cellA hE (fun _ h => h.elim))
 refine cw_seq ?_
 refine cw_region ?_
 refine rs_op rfl (ow_assign rfl ?_)
 refine rs_op rfl (ow_assign rfl ?_)
 refine rs_nil ?_
 refine ew_next ?_
 refine cw_seq ?_
 refine cw_seq ?_
 refine cw_region ?_
 refine rs_op rfl (ow_move rfl ?_)
 refine rs_op rfl (ow_lenS Tryz.underlying9 rfl ?_)
 refine rs_op rfl (ow_gtr rfl rfl ?_)
 refine rs_nil ?_
 refine ew_next ?_
 refine cw_cond rfl (fun h1 => ?_) (fun h1 => ?_)
 ·
  have h1 : 1000 < s.size := by have h1 := of_decide_eq_true h1; omega
  refine cw_seq ?_
  refine cw_region ?_
  refine rs_op rfl (ow_assign rfl ?_)
  refine rs_op rfl (ow_assign rfl ?_)
  refine rs_nil ?_
  refine ew_next ?_
  refine cw_ret ?_
  refine ew_then_ret ?_
  refine ew_ret (rs := [.tmp 2, .tmp 3]) (vs := [_, _]) rfl ⟨rfl, rfl, trivial⟩ ?_
  exact ⟨by unfold prV prE; rw [if_pos h1, if_pos h1]; rfl, (LW.step E XLW).toBelow⟩
 ·
  have h1 : ¬ 1000 < s.size := by have h1 := of_decide_eq_false h1; omega
  refine cw_skip ?_
  refine ew_next ?_
  refine cw_seq ?_
  refine cw_region ?_
  refine rs_op rfl (ow_assign rfl ?_)
  refine rs_nil ?_
  refine ew_next ?_
  refine cw_seq ?_
  refine cw_region ?_
  refine rs_op rfl (ow_assign rfl ?_)
  refine rs_nil ?_
  refine ew_next ?_
  refine cw_seq ?_
  refine cw_seq ?_
  replace HF := HF.on E
  replace LW := LW.step E XLW
  replace E := Ext.refl (No) w
  refine cw_join (ι := Unit) (fun _ => [(0, .string s), (4, .int .i64 0), (5, .int .u64 0), (18, .bool (signed s))]) (fun _ w' => Ext (No) w w' ∧ (True)) ?_ ?_
  ·
   have M1 := Ext.refl (No) w
   have XM1 : ∀ q9, (No) q9 → (No) q9 ∨ w.heap.size ≤ q9 := fun _ h => Or.inl h
   refine cw_region ?_
   refine rs_op rfl (ow_move rfl ?_)
   refine rs_op rfl (ow_lenS Tryz.underlying9 rfl ?_)
   refine rs_op rfl (ow_gtr rfl rfl ?_)
   refine rs_op rfl (ow_move rfl ?_)
   refine rs_split 14 rfl (fun h2 => ?_) (fun h2 => ?_)
   ·
    have h2 : 0 < s.size := by have h2 := of_decide_eq_true h2; omega
    refine rs_op rfl (ow_on rfl (ow_move rfl ?_))
    refine rs_op rfl (ow_on rfl (ow_indexSL (j := 0) (b := bAt s 0) Tryz.underlying9 rfl rfl rfl (bAt_some h2) ?_))
    refine rs_op rfl (ow_on rfl (ow_eql rfl rfl ?_))
    refine rs_op rfl (ow_pickT rfl rfl ?_)
    refine rs_nil ?_
    by_cases h3 : bAt s 0 = 45
    ·
     refine ew_set 18 (.bool (signed s)) rfl ((by rw [show signed s = true from decide_eq_true h3, h3]; rfl : (.bool (((bAt s 0 : Nat) : Int) == 45) : Value) = _)) ?_
     exact ew_mid () ⟨rfl, rfl, rfl, rfl, trivial⟩ ⟨M1.step E XM1, trivial⟩
    ·
     refine ew_set 18 (.bool (signed s)) rfl ((by rw [show signed s = false from decide_eq_false h3, beq_no (by omega)] : (.bool (((bAt s 0 : Nat) : Int) == 45) : Value) = _)) ?_
     exact ew_mid () ⟨rfl, rfl, rfl, rfl, trivial⟩ ⟨M1.step E XM1, trivial⟩
   ·
    have h2 : ¬ 0 < s.size := by have h2 := of_decide_eq_false h2; omega
    have h0 := bAt_end (s := s) (i := 0) (by omega)
    refine rs_op rfl (ow_off rfl ?_)
    refine rs_op rfl (ow_off rfl ?_)
    refine rs_op rfl (ow_off rfl ?_)
    refine rs_op rfl (ow_pickF rfl rfl ?_)
    refine rs_nil ?_
    refine ew_set 18 (.bool (signed s)) rfl ((by rw [show signed s = false from decide_eq_false (by omega)] : (.bool false : Value) = _)) ?_
    exact ew_mid () ⟨rfl, rfl, rfl, rfl, trivial⟩ ⟨M1.step E XM1, trivial⟩
  ·
   rintro _ w2 ⟨M1, _⟩
   have XM1 : ∀ q9, (No) q9 → (No) q9 ∨ w.heap.size ≤ q9 := fun _ h => Or.inl h
   replace E := E.trans M1
   replace HF := HF.on E
   replace LW := LW.step E XLW
   replace E := Ext.refl (No) w2
   replace HF := HF.on E
   replace LW := LW.step E XLW
   replace E := Ext.refl (No) w2
   refine cw_join (ι := Unit) (fun _ => [(0, .string s), (4, .int .i64 ((cut1 s : Nat) : Int)), (5, .int .u64 ((sgB (signed s) : Nat) : Int))]) (fun _ w' => Ext (No) w2 w' ∧ (True)) ?_ ?_
   ·
    have M3 := Ext.refl (No) w2
    have XM3 : ∀ q9, (No) q9 → (No) q9 ∨ w2.heap.size ≤ q9 := fun _ h => Or.inl h
    refine cw_cond rfl (fun h2 => ?_) (fun h2 => ?_)
    ·
     have h3 : bAt s 0 = 45 := of_decide_eq_true h2
     refine cw_seq ?_
     refine cw_region ?_
     refine rs_op rfl (ow_assign rfl ?_)
     refine rs_nil ?_
     refine ew_next ?_
     refine cw_region ?_
     refine rs_op rfl (ow_assign rfl ?_)
     refine rs_nil ?_
     refine ew_set 4 (.int .i64 ((cut1 s : Nat) : Int)) rfl ((by unfold cut1; rw [if_pos h3]; rfl : (.int .i64 1 : Value) = _)) ?_
     refine ew_set 5 (.int .u64 ((sgB (signed s) : Nat) : Int)) rfl ((by rw [h2]; rfl : (.int .u64 9223372036854775808 : Value) = _)) ?_
     exact ew_mid () ⟨rfl, rfl, rfl, trivial⟩ ⟨M3.step E XM3, trivial⟩
    ·
     have h3 : ¬ bAt s 0 = 45 := of_decide_eq_false h2
     refine cw_skip ?_
     refine ew_set 4 (.int .i64 ((cut1 s : Nat) : Int)) rfl ((by unfold cut1; rw [if_neg h3]; rfl : (.int .i64 0 : Value) = _)) ?_
     refine ew_set 5 (.int .u64 ((sgB (signed s) : Nat) : Int)) rfl ((by rw [h2]; rfl : (.int .u64 0 : Value) = _)) ?_
     exact ew_mid () ⟨rfl, rfl, rfl, trivial⟩ ⟨M3.step E XM3, trivial⟩
   ·
    rintro _ w4 ⟨M3, _⟩
    have XM3 : ∀ q9, (No) q9 → (No) q9 ∨ w2.heap.size ≤ q9 := fun _ h => Or.inl h
    replace E := E.trans M3
    replace HF := HF.on E
    replace LW := LW.step E XLW
    replace E := Ext.refl (No) w4
    have hsg : sgB (signed s) ≤ 9223372036854775808 := by cases signed s <;> decide
    refine cw_seq ?_
    refine cw_block ?_
    refine cw_seq ?_
    refine cw_region ?_
    refine rs_op rfl (ow_move rfl ?_)
    refine rs_op rfl (ow_move rfl ?_)
    refine rs_op rfl (ow_sliceS (l := cut1 s) (h := s.size) Tryz.underlying9 rfl ⟨_, rfl⟩ rfl hcl (Nat.le_refl _) ?_)
    refine rs_op rfl (ow_eqlS rfl rfl ?_)
    refine rs_op rfl (ow_assign rfl ?_)
    refine rs_nil ?_
    refine ew_next ?_
    refine cw_cond rfl (fun h2 => ?_) (fun h2 => ?_)
    ·
     have h2 : prInf s = true := h2
     refine cw_seq ?_
     refine cw_region ?_
     refine rs_op rfl (ow_move rfl ?_)
     refine rs_op rfl (ow_add rfl rfl (wrap_u64 (by omega)) ?_)
     refine rs_op rfl (ow_assign rfl ?_)
     refine rs_op rfl (ow_assign rfl ?_)
     refine rs_nil ?_
     refine ew_next ?_
     refine cw_ret ?_
     refine ew_block_ret ?_
     refine ew_then_ret ?_
     refine ew_set 2 (.int .u64 ((prV s : Nat) : Int)) rfl ((by unfold prV; rw [if_neg h1, if_pos h2]; congr 1; omega : (.int .u64 (9218868437227405312 + ((sgB (signed s) : Nat) : Int)) : Value) = _)) ?_
     refine ew_ret (rs := [.tmp 2, .tmp 3]) (vs := [_, _]) rfl ⟨rfl, rfl, trivial⟩ ?_
     exact ⟨by unfold prE; rw [if_neg h1, if_pos h2]; rfl, (LW.step E XLW).toBelow⟩
    ·
     have h2 : ¬ prInf s = true := by rw [show prInf s = false from h2]; decide
     refine cw_seq ?_
     refine cw_region ?_
     refine rs_op rfl (ow_move rfl ?_)
     refine rs_op rfl (ow_move rfl ?_)
     refine rs_op rfl (ow_sliceS (l := cut1 s) (h := s.size) Tryz.underlying9 rfl ⟨_, rfl⟩ rfl hcl (Nat.le_refl _) ?_)
     refine rs_op rfl (ow_eqlS rfl rfl ?_)
     refine rs_op rfl (ow_assign rfl ?_)
     refine rs_nil ?_
     refine ew_next ?_
     refine cw_cond rfl (fun h3 => ?_) (fun h3 => ?_)
     ·
      have h3 : prNan s = true := h3
      refine cw_seq ?_
      refine cw_region ?_
      refine rs_op rfl (ow_assign rfl ?_)
      refine rs_op rfl (ow_assign rfl ?_)
      refine rs_nil ?_
      refine ew_next ?_
      refine cw_ret ?_
      refine ew_block_ret ?_
      refine ew_then_ret ?_
      refine ew_ret (rs := [.tmp 2, .tmp 3]) (vs := [_, _]) rfl ⟨rfl, rfl, trivial⟩ ?_
      exact ⟨by unfold prV prE; rw [if_neg h1, if_neg h1, if_neg h2, if_neg h2, if_pos h3, if_pos h3]; rfl, (LW.step E XLW).toBelow⟩
     ·
      have h3 : ¬ prNan s = true := by rw [show prNan s = false from h3]; decide
      refine cw_seq ?_
      refine cw_region ?_
      refine rs_op rfl (ow_move rfl ?_)
      refine rs_op rfl (ow_move rfl ?_)
      refine rs_op rfl (ow_enter en45 rfl ((numeral_any_r _ s (cut1 s) hcl (by omega)).mono ?_))
      rintro e w5 ⟨rfl, hb⟩
      refine ⟨_, rfl, ?_⟩
      have Ec := Ext.of_below hb No
      replace E := E.trans Ec.no
      clear hb Ec
      refine rs_set 34 (.bool (numB (prX s) 0)) rfl ((by rw [← numB_shift hcl]; rfl : (.bool (numB s (cut1 s)) : Value) = _)) ?_
      refine rs_op rfl (ow_assign rfl ?_)
      refine rs_nil ?_
      refine ew_next ?_
      refine cw_cond rfl (fun h4 => ?_) (fun h4 => ?_)
      ·
       have hnm := num_nm (Nat.zero_le _) (numB_is h4)
       have hv := (atV_sgn false hnm).tame
       refine cw_seq ?_
       refine cw_region ?_
       refine rs_op rfl (ow_move rfl ?_)
       refine rs_op rfl (ow_move rfl ?_)
       refine rs_op rfl (ow_sliceS (l := cut1 s) (h := s.size) Tryz.underlying9 rfl ⟨_, rfl⟩ rfl hcl (Nat.le_refl _) ?_)
       refine rs_op rfl (ow_enter en42 rfl ((parse_pos _ (prX s) hnm (by omega) (HF.on E).here.1.2 ⟨te, pe, (HF.on E).here.2⟩).mono ?_))
       rintro e w6 ⟨⟨er, rfl⟩, hb⟩
       refine ⟨_, rfl, ?_⟩
       have Ec := Ext.of_below hb No
       replace E := E.trans Ec.no
       clear hb Ec
       refine rs_op rfl (ow_move rfl ?_)
       refine rs_op rfl (ow_extract rfl rfl ?_)
       refine rs_op rfl (ow_extract rfl rfl ?_)
       refine rs_op rfl (ow_assign rfl ?_)
       refine rs_op rfl (ow_assign rfl ?_)
       refine rs_nil ?_
       refine ew_next ?_
       refine cw_seq ?_
       refine cw_region ?_
       refine rs_op rfl (ow_move rfl ?_)
       refine rs_op rfl (ow_bits ex46 rfl ?_)
       refine rs_op rfl (ow_move rfl ?_)
       refine rs_op rfl (ow_add rfl rfl (wrap_u64 (by omega)) ?_)
       refine rs_op rfl (ow_assign rfl ?_)
       refine rs_op rfl (ow_assign rfl ?_)
       refine rs_nil ?_
       refine ew_next ?_
       refine cw_ret ?_
       refine ew_block_ret ?_
       refine ew_then_ret ?_
       refine ew_set 2 (.int .u64 ((prV s : Nat) : Int)) rfl ((by unfold prV; rw [if_neg h1, if_neg h2, if_neg h3, if_pos h4]; congr 1; omega : (.int .u64 ((((atV (prX s) 0 false) : Nat) : Int) + ((sgB (signed s) : Nat) : Int)) : Value) = _)) ?_
       refine ew_ret (rs := [.tmp 2, .tmp 3]) (vs := [_, _]) rfl ⟨rfl, rfl, trivial⟩ ?_
       exact ⟨by unfold prE; rw [if_neg h1, if_neg h2, if_neg h3, if_pos h4]; rfl, (LW.step E XLW).toBelow⟩
      ·
       have h4 : ¬ numB (prX s) 0 = true := by rw [h4]; decide
       refine cw_skip ?_
       refine ew_block_normal ?_
       refine ew_next ?_
       refine cw_seq ?_
       refine cw_region ?_
       refine rs_op rfl (ow_assign rfl ?_)
       refine rs_op rfl (ow_assign rfl ?_)
       refine rs_nil ?_
       refine ew_next ?_
       refine cw_ret ?_
       refine ew_ret (rs := [.tmp 2, .tmp 3]) (vs := [_, _]) rfl ⟨rfl, rfl, trivial⟩ ?_
       exact ⟨by unfold prV prE; rw [if_neg h1, if_neg h1, if_neg h2, if_neg h2, if_neg h3, if_neg h3, if_neg h4, if_neg h4]; rfl, (LW.step E XLW).toBelow⟩
theorem parses_law (s : ByteArray) (hT : ∀ b, Below w.heap.size w b → Ten b) (hD : ∀ b, Below w.heap.size w b → TabD b) (hTab : Tabs bp op cp bf of cf bl ol cl w) (hE : ∃ te pe, w.cell? ⟨4, 0, none⟩ = some (.iface te pe)) : Calls Tryz.prog 4 #[.string s] w fun e w' => e = .returned (.bool true) ∧ Below w.heap.size w w' := by
 obtain ⟨te, pe, hE⟩ := hE
 refine calls_cw Tryz.func4 rfl Tryz.ntmps4 rfl ?_
 have HF : Per (No) w (fun _ => True) := Per.true_
 have LW := Ext.refl (No) w
 have XLW : ∀ q9, (No) q9 → (No) q9 ∨ w.heap.size ≤ q9 := fun _ h => Or.inl h
 have E := Ext.refl (No) w
 replace HF := HF.on E
 replace LW := LW.step E XLW
 replace E := Ext.refl (No) w
 replace HF := HF.and (Per.tabs hTab (fun _ h => h.elim))
 replace HF := HF.on E
 replace LW := LW.step E XLW
 replace E := Ext.refl (No) w
 replace HF := HF.and (Per.cellA hE (fun _ h => h.elim))
 refine cw_seq ?_
 refine cw_region ?_
 refine rs_op rfl (ow_assign rfl ?_)
 refine rs_nil ?_
 refine ew_next ?_
 refine cw_seq ?_
 refine cw_region ?_
 refine rs_op rfl (ow_move rfl ?_)
 refine rs_op rfl (ow_enter en12 rfl ((realparse_any _ s (HF.on E).here.1.2 ⟨te, pe, (HF.on E).here.2⟩).mono ?_))
 rintro e w1 ⟨rfl, hb⟩
 refine ⟨_, rfl, ?_⟩
 have Ec := Ext.of_below hb No
 replace E := E.trans Ec.no
 clear hb Ec
 refine rs_op rfl (ow_move rfl ?_)
 refine rs_op rfl (ow_extract rfl rfl ?_)
 refine rs_op rfl (ow_extract rfl rfl ?_)
 refine rs_op rfl (ow_assign rfl ?_)
 refine rs_op rfl (ow_assign rfl ?_)
 refine rs_nil ?_
 refine ew_next ?_
 refine cw_seq ?_
 refine cw_region ?_
 refine rs_op rfl (ow_move rfl ?_)
 refine rs_op rfl (ow_enter en13 rfl ((realparse_any_r _ s (HF.on E).here.1.2 ⟨te, pe, (HF.on E).here.2⟩).mono ?_))
 rintro e w2 ⟨rfl, hb⟩
 refine ⟨_, rfl, ?_⟩
 have Ec := Ext.of_below hb No
 replace E := E.trans Ec.no
 clear hb Ec
 refine rs_op rfl (ow_move rfl ?_)
 refine rs_op rfl (ow_extract rfl rfl ?_)
 refine rs_op rfl (ow_extract rfl rfl ?_)
 refine rs_op rfl (ow_assign rfl ?_)
 refine rs_op rfl (ow_assign rfl ?_)
 refine rs_nil ?_
 refine ew_next ?_
 refine cw_seq ?_
 refine cw_region ?_
 refine rs_op rfl (ow_enter en14 rfl ((known_any _ (later hT (LW.step E XLW).toBelow) (later hD (LW.step E XLW).toBelow)).mono ?_))
 rintro e w3 ⟨rfl, hb⟩
 refine ⟨_, rfl, ?_⟩
 have Ec := Ext.of_below hb No
 replace E := E.trans Ec.no
 clear hb Ec
 refine rs_op rfl (ow_move rfl ?_)
 refine rs_op rfl (ow_on rfl (ow_move rfl ?_))
 refine rs_op rfl (ow_on rfl (ow_move rfl ?_))
 refine rs_op rfl (ow_on rfl (ow_eql rfl rfl ?_))
 refine rs_set 21 (.bool true) rfl (by simp : (.bool (((prV s : Nat) : Int) == ((prV s : Nat) : Int)) : Value) = _) ?_
 refine rs_op rfl (ow_pickT rfl rfl ?_)
 refine rs_op rfl (ow_move rfl ?_)
 refine rs_op rfl (ow_on rfl (ow_move rfl ?_))
 refine rs_op rfl (ow_on rfl (ow_move rfl ?_))
 refine rs_op rfl (ow_on rfl (ow_eql rfl rfl ?_))
 refine rs_set 26 (.bool true) rfl (by simp : (.bool ((prE s) == (prE s)) : Value) = _) ?_
 refine rs_op rfl (ow_pickT rfl rfl ?_)
 refine rs_op rfl (ow_assign rfl ?_)
 refine rs_nil ?_
 refine ew_next ?_
 refine cw_ret ?_
 refine ew_ret (rs := [.tmp 2]) (vs := [_]) rfl ⟨rfl, trivial⟩ ?_
 exact ⟨rfl, (LW.step E XLW).toBelow⟩
end
end Go.Proofs.YtjdcjdohghkcgaaGreatDoor

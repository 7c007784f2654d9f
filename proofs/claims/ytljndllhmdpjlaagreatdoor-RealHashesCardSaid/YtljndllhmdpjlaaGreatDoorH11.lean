/- The walks of the document's parts and rest. The walks of bits.Rem64 and bits.Div64 at the divisor 2^31 - 1. The walks of the functions that the laws of layer 3 call on fixed numbers. The walks of the text of -0 and of 1. -/
import Derived.Test.YtljndllhmdpjlaaGreatDoorH10
namespace Go.Proofs.YtljndllhmdpjlaaGreatDoor
open Go.RowKit
set_option maxRecDepth 100000
theorem shr_nat (m k : Nat) (hk : k < 64) : ((m : Nat) : Int).fdiv (2 ^ (min ((k : Nat) : Int).toNat IntKind.u64.bits)) = ((m / 2 ^ k : Nat) : Int) := by
  rw [Int.toNat_natCast, show min k IntKind.u64.bits = k from Nat.min_eq_left (by show k ≤ 64; omega), Int.fdiv_eq_ediv_of_nonneg _ (Int.le_of_lt (Int.pow_pos (by decide)))]
  rw [show (2 : Int) ^ k = ((2 ^ k : Nat) : Int) by simp]
  rfl
theorem wrap_mod (m : Nat) : IntKind.u64.wrap ((m : Nat) : Int) = ((m % 18446744073709551616 : Nat) : Int) := by
  unfold IntKind.wrap
  simp only [IntKind.bits, IntKind.signed, Bool.false_and, Bool.false_eq_true, if_false]
  omega
theorem shl_nat (m k : Nat) (hk : k < 64) : IntKind.u64.wrap (((m : Nat) : Int) * 2 ^ (min ((k : Nat) : Int).toNat IntKind.u64.bits)) = ((m * 2 ^ k % 18446744073709551616 : Nat) : Int) := by
  rw [Int.toNat_natCast, show min k IntKind.u64.bits = k from Nat.min_eq_left (by show k ≤ 64; omega), show (2 : Int) ^ k = ((2 ^ k : Nat) : Int) by simp, ← Int.natCast_mul]
  exact wrap_mod _
theorem tmod_nat (m n : Nat) : ((m : Nat) : Int).tmod ((n : Nat) : Int) = ((m % n : Nat) : Int) := rfl
theorem and_frac {m : Nat} (hm : m < 18446744073709551616) : IntKind.u64.wrap (BitVec.ofInt IntKind.u64.bits ((m : Nat) : Int) &&& BitVec.ofInt IntKind.u64.bits 4503599627370495).toNat = ((m % 4503599627370496 : Nat) : Int) := by
  have := and_bits (n := 4503599627370495) hm (by decide)
  rw [show m &&& 4503599627370495 = m % 4503599627370496 from Nat.and_two_pow_sub_one_eq_mod m 52] at this
  exact this
theorem pow_bits (a b : Nat) : ng (a ^^^ b) = (ng a ^^ ng b) := by
  have key : ∀ m, ng m = m.testBit 63 := fun m => by
    unfold ng
    rw [Nat.testBit_eq_decide_div_mod_eq, show (2 : Nat) ^ 63 = 9223372036854775808 from rfl]
    by_cases h : m / 9223372036854775808 % 2 = 1 <;> simp [h]
  rw [key, key, key, Nat.testBit_xor]
theorem bool_dec {p q : Prop} [Decidable p] [Decidable q] (h : p ↔ q) : (Value.bool (decide p)) = .bool (decide q) := by
  congr 1
  by_cases hp : p
  · rw [decide_eq_true hp, decide_eq_true (h.1 hp)]
  · rw [decide_eq_false hp, decide_eq_false (fun k => hp (h.2 k))]
theorem or_word {q : Nat} {s : Bool} (h : q < 9223372036854775808) : (q ||| (if s then 9223372036854775808 else 0 : Nat)) = Ieee.double.word s q := by
  unfold Ieee.Format.word
  rw [c1]
  cases s
  · exact Nat.or_zero _
  · show q ||| 9223372036854775808 = 9223372036854775808 + q
    rw [Nat.or_comm]; exact or_add 63 h rfl
section
variable (w : World)
theorem parts_any (a : Nat) (ha : a < 18446744073709551616) (hf : rg a < 9218868437227405312) : Calls Tryz.prog 75 #[.int .u64 ((a : Nat) : Int)] w fun e w' => e = .returned (.tuple #[.int .u64 ((mg (rg a) : Nat) : Int), .int .i64 (((ex (rg a) : Nat) : Int) - 1074)]) ∧ Below w.heap.size w w' := by
  have h1 : a / 4503599627370496 % 2048 = rg a / 4503599627370496 := by unfold rg at *; omega
  have h2 : a % 4503599627370496 = rg a % 4503599627370496 := by unfold rg; omega
  have h3 : rg a / 4503599627370496 < 2048 := by omega
  refine calls_cw Tryz.func75 rfl Tryz.ntmps75 rfl ?_
  have HF : Per (No) w (fun _ => True) := Per.true_
  have LW := Ext.refl (No) w
  have XLW : ∀ q9, (No) q9 → (No) q9 ∨ w.heap.size ≤ q9 := fun _ h => Or.inl h
  have E := Ext.refl (No) w
  refine cw_seq ?_
  refine cw_region ?_
  refine rs_op rfl (ow_assign rfl ?_)
  refine rs_op rfl (ow_assign rfl ?_)
  refine rs_nil ?_
  refine ew_next ?_
  refine cw_seq ?_
  refine cw_region ?_
  refine rs_op rfl (ow_move rfl ?_)
  refine rs_op rfl (ow_shr rfl rfl (by decide) (shr52 a) ?_)
  refine rs_op rfl (ow_and rfl rfl (and_2047 (by omega)) ?_)
  refine rs_set 7 (.int .u64 ((rg a / 4503599627370496 : Nat) : Int)) rfl ((by rw [h1] : (.int .u64 ((a / 4503599627370496 % 2048 : Nat) : Int) : Value) = _)) ?_
  refine rs_op rfl (ow_conv Tryz.underlying3 Tryz.underlying22 rfl (wrap_i64 (by omega)) ?_)
  refine rs_op rfl (ow_assign rfl ?_)
  refine rs_nil ?_
  refine ew_next ?_
  refine cw_seq ?_
  refine cw_seq ?_
  refine cw_region ?_
  refine rs_op rfl (ow_move rfl ?_)
  refine rs_op rfl (ow_eql rfl rfl ?_)
  refine rs_nil ?_
  refine ew_next ?_
  refine cw_cond rfl (fun h => ?_) (fun h => ?_)
  · have _way := True.intro
    have h := beq_iff_eq.1 h
    have hs : rg a < 4503599627370496 := by omega
    refine cw_seq ?_
    refine cw_region ?_
    refine rs_op rfl (ow_move rfl ?_)
    refine rs_op rfl (ow_and rfl rfl (and_frac ha) ?_)
    refine rs_op rfl (ow_assign rfl ?_)
    refine rs_op rfl (ow_assign rfl ?_)
    refine rs_nil ?_
    refine ew_next ?_
    refine cw_ret ?_
    refine ew_then_ret ?_
    refine ew_ret (rs := [.tmp 2, .tmp 3]) (vs := [_, _]) rfl ⟨rfl, rfl, trivial⟩ ?_
    exact ⟨by rw [h2, mg, ex, if_pos hs, if_pos hs, Nat.mod_eq_of_lt hs]; rfl, (LW.step E XLW).toBelow⟩
  · have _way := True.intro
    have h := beq_eq_false_iff_ne.1 h
    have hs : ¬ rg a < 4503599627370496 := by omega
    refine cw_skip ?_
    refine ew_next ?_
    refine cw_seq ?_
    refine cw_region ?_
    refine rs_op rfl (ow_move rfl ?_)
    refine rs_op rfl (ow_and rfl rfl (and_frac ha) ?_)
    refine rs_set 14 (.int .u64 ((rg a % 4503599627370496 : Nat) : Int)) rfl ((by rw [h2] : (.int .u64 ((a % 4503599627370496 : Nat) : Int) : Value) = _)) ?_
    refine rs_op rfl (ow_add rfl rfl (wrap_u64 (by omega)) ?_)
    refine rs_op rfl (ow_move rfl ?_)
    refine rs_op rfl (ow_sub rfl rfl (wrap_i64 (by omega)) ?_)
    refine rs_op rfl (ow_assign rfl ?_)
    refine rs_op rfl (ow_assign rfl ?_)
    refine rs_nil ?_
    refine ew_next ?_
    refine cw_ret ?_
    refine ew_ret (rs := [.tmp 2, .tmp 3]) (vs := [_, _]) rfl ⟨rfl, rfl, trivial⟩ ?_
    exact ⟨by rw [mg, ex, if_neg hs, if_neg hs, show (((rg a / 4503599627370496 - 1 : Nat) : Int) - 1074) = ((rg a / 4503599627370496 : Nat) : Int) - 1075 by omega, Nat.add_comm]; rfl, (LW.step E XLW).toBelow⟩
/-! ### rest -/
section
variable (a b : Nat) (ha : a < 18446744073709551616) (hb : b < 18446744073709551616)
include ha hb
theorem rest_early (hq : rg b = 9218868437227405312 ∨ rg a = 0) : Calls Tryz.prog 104 #[.int .u64 ((a : Nat) : Int), .int .u64 ((b : Nat) : Int)] w fun e w' => e = .returned (.int .u64 ((a : Nat) : Int)) ∧ Below w.heap.size w w' := by
  refine calls_cw Tryz.func104 rfl Tryz.ntmps104 rfl ?_
  have HF : Per (No) w (fun _ => True) := Per.true_
  have LW := Ext.refl (No) w
  have XLW : ∀ q9, (No) q9 → (No) q9 ∨ w.heap.size ≤ q9 := fun _ h => Or.inl h
  have E := Ext.refl (No) w
  refine cw_seq ?_
  refine cw_region ?_
  refine rs_op rfl (ow_assign rfl ?_)
  refine rs_nil ?_
  refine ew_next ?_
  refine cw_seq ?_
  refine cw_seq ?_
  refine cw_region ?_
  refine rs_op rfl (ow_move rfl ?_)
  refine rs_op rfl (ow_enter en34 rfl ((isinf_any _ b hb).mono ?_))
  rintro e w1 ⟨rfl, hb⟩
  refine ⟨_, rfl, ?_⟩
  have Ec := Ext.of_below hb No
  replace E := E.trans Ec.no
  clear hb Ec
  refine rs_op rfl (ow_move rfl ?_)
  refine rs_split 13 rfl (fun h => ?_) (fun h => ?_)
  · have _way := True.intro
    refine rs_op rfl (ow_off rfl ?_)
    refine rs_op rfl (ow_off rfl ?_)
    refine rs_op rfl (ow_pickT rfl rfl ?_)
    refine rs_nil ?_
    refine ew_next ?_
    refine cw_then rfl ?_
    refine cw_seq ?_
    refine cw_region ?_
    refine rs_op rfl (ow_move rfl ?_)
    refine rs_op rfl (ow_assign rfl ?_)
    refine rs_nil ?_
    refine ew_next ?_
    refine cw_ret ?_
    refine ew_then_ret ?_
    refine ew_ret (rs := [.tmp 4]) (vs := [_]) rfl ⟨rfl, trivial⟩ ?_
    exact ⟨rfl, (LW.step E XLW).toBelow⟩
  · have _way := True.intro
    have h := of_decide_eq_false h
    refine rs_op rfl (ow_on rfl (ow_move rfl ?_))
    refine rs_op rfl (ow_on rfl (ow_enter en35 rfl ((iszero_any _ a ha).mono ?_)))
    rintro e w2 ⟨rfl, hb⟩
    refine ⟨_, rfl, ?_⟩
    have Ec := Ext.of_below hb No
    replace E := E.trans Ec.no
    clear hb Ec
    refine rs_set 15 (.bool true) rfl ((by rw [isZ, decide_eq_true (hq.resolve_left h)] : (.bool (isZ a) : Value) = _)) ?_
    refine rs_op rfl (ow_pickF rfl rfl ?_)
    refine rs_nil ?_
    refine ew_next ?_
    refine cw_then rfl ?_
    refine cw_seq ?_
    refine cw_region ?_
    refine rs_op rfl (ow_move rfl ?_)
    refine rs_op rfl (ow_assign rfl ?_)
    refine rs_nil ?_
    refine ew_next ?_
    refine cw_ret ?_
    refine ew_then_ret ?_
    refine ew_ret (rs := [.tmp 4]) (vs := [_]) rfl ⟨rfl, trivial⟩ ?_
    exact ⟨rfl, (LW.step E XLW).toBelow⟩
section
variable (ha0 : rg a ≠ 0) (hb0 : rg b ≠ 0) (hf : rg a < 9218868437227405312) (hq : rg b < 9218868437227405312)
include ha0 hb0 hf hq
theorem rest_hi_any (hc : ex (rg b) ≤ ex (rg a)) : Calls Tryz.prog 104 #[.int .u64 ((a : Nat) : Int), .int .u64 ((b : Nat) : Int)] w fun e w' => e = .returned (.int .u64 ((m0F a b : Nat) : Int)) ∧ Below w.heap.size w w' := by
  have hfin' := rest_hi (mg (rg a)) (mg (rg b)) hc
  obtain ⟨D, hD⟩ : ∃ D, D = ex (rg a) - ex (rg b) := ⟨_, rfl⟩
  rw [← hD] at hfin'
  obtain ⟨L, hL⟩ : ∃ L, L = ex (rg b) := ⟨_, rfl⟩
  obtain ⟨n, hn⟩ : ∃ n, n = mg (rg b) := ⟨_, rfl⟩
  have hfin : vl (rg a) % vl (rg b) = (mg (rg a) * 2 ^ D % n) * 2 ^ L := by rw [hn, hL]; exact hfin'
  have hma := mg_lt (rg a)
  have hmb := mg_lt (rg b)
  have hmb0 := mg_pos hb0
  have hxa : ex (rg a) ≤ 2045 := by unfold ex; split <;> omega
  have hxb : ex (rg b) ≤ 2045 := by unfold ex; split <;> omega
  refine calls_cw Tryz.func104 rfl Tryz.ntmps104 rfl ?_
  have HF : Per (No) w (fun _ => True) := Per.true_
  have LW := Ext.refl (No) w
  have XLW : ∀ q9, (No) q9 → (No) q9 ∨ w.heap.size ≤ q9 := fun _ h => Or.inl h
  have E := Ext.refl (No) w
  refine cw_seq ?_
  refine cw_region ?_
  refine rs_op rfl (ow_assign rfl ?_)
  refine rs_nil ?_
  refine ew_next ?_
  refine cw_seq ?_
  refine cw_seq ?_
  refine cw_region ?_
  refine rs_op rfl (ow_move rfl ?_)
  refine rs_op rfl (ow_enter en34 rfl ((isinf_any _ b hb).mono ?_))
  rintro e w1 ⟨rfl, hb⟩
  refine ⟨_, rfl, ?_⟩
  have Ec := Ext.of_below hb No
  replace E := E.trans Ec.no
  clear hb Ec
  refine rs_set 12 (.bool false) rfl ((by rw [decide_eq_false (by omega)] : (.bool (decide (rg b = 9218868437227405312)) : Value) = _)) ?_
  refine rs_op rfl (ow_move rfl ?_)
  refine rs_op rfl (ow_on rfl (ow_move rfl ?_))
  refine rs_op rfl (ow_on rfl (ow_enter en35 rfl ((iszero_any _ a ha).mono ?_)))
  rintro e w2 ⟨rfl, hb⟩
  refine ⟨_, rfl, ?_⟩
  have Ec := Ext.of_below hb No
  replace E := E.trans Ec.no
  clear hb Ec
  refine rs_set 15 (.bool false) rfl ((by rw [isZ, decide_eq_false ha0] : (.bool (isZ a) : Value) = _)) ?_
  refine rs_op rfl (ow_pickF rfl rfl ?_)
  refine rs_nil ?_
  refine ew_next ?_
  refine cw_else rfl ?_
  refine cw_skip ?_
  refine ew_next ?_
  refine cw_seq ?_
  refine cw_region ?_
  refine rs_op rfl (ow_move rfl ?_)
  refine rs_op rfl (ow_enter en75 rfl ((parts_any _ a ha hf).mono ?_))
  rintro e w3 ⟨rfl, hb⟩
  refine ⟨_, rfl, ?_⟩
  have Ec := Ext.of_below hb No
  replace E := E.trans Ec.no
  clear hb Ec
  refine rs_op rfl (ow_move rfl ?_)
  refine rs_op rfl (ow_extract rfl rfl ?_)
  refine rs_op rfl (ow_extract rfl rfl ?_)
  refine rs_op rfl (ow_assign rfl ?_)
  refine rs_op rfl (ow_assign rfl ?_)
  refine rs_nil ?_
  refine ew_next ?_
  refine cw_seq ?_
  refine cw_region ?_
  refine rs_op rfl (ow_move rfl ?_)
  refine rs_op rfl (ow_enter en75 rfl ((parts_any _ b hb hq).mono ?_))
  rintro e w4 ⟨rfl, hb⟩
  refine ⟨_, rfl, ?_⟩
  have Ec := Ext.of_below hb No
  replace E := E.trans Ec.no
  clear hb Ec
  refine rs_op rfl (ow_move rfl ?_)
  refine rs_op rfl (ow_extract rfl rfl ?_)
  refine rs_op rfl (ow_extract rfl rfl ?_)
  refine rs_op rfl (ow_assign rfl ?_)
  refine rs_op rfl (ow_assign rfl ?_)
  refine rs_nil ?_
  refine ew_next ?_
  refine cw_seq ?_
  refine cw_seq ?_
  refine cw_region ?_
  refine rs_op rfl (ow_move rfl ?_)
  refine rs_op rfl (ow_move rfl ?_)
  refine rs_op rfl (ow_lss rfl rfl ?_)
  refine rs_nil ?_
  refine ew_next ?_
  refine cw_set 30 (.bool false) rfl ((by rw [decide_eq_false (by omega)] : (.bool (decide ((((ex (rg a) : Nat) : Int) - 1074) < (((ex (rg b) : Nat) : Int) - 1074))) : Value) = _)) ?_
  refine cw_else rfl ?_
  refine cw_skip ?_
  refine ew_next ?_
  refine cw_seq ?_
  refine cw_region ?_
  refine rs_op rfl (ow_move rfl ?_)
  refine rs_op rfl (ow_move rfl ?_)
  refine rs_op rfl (ow_rem (z := ((mg (rg a) % mg (rg b) : Nat) : Int)) rfl rfl (by omega) (tmod_nat _ _) ?_)
  refine rs_op rfl (ow_assign rfl ?_)
  refine rs_nil ?_
  refine ew_next ?_
  refine cw_seq ?_
  refine cw_block ?_
  replace HF := HF.on E
  replace LW := LW.step E XLW
  replace E := Ext.refl (No) w4
  refine cw_loop (ι := Nat) (fun k => [(0, .int .u64 ((a : Nat) : Int)), (6, .int .i64 (((L + D - k : Nat) : Int) - 1074)), (7, .int .u64 ((n : Nat) : Int)), (8, .int .i64 (((L : Nat) : Int) - 1074)), (9, .int .u64 ((mg (rg a) * 2 ^ k % n : Nat) : Int))]) (fun k w' => Ext (No) w4 w' ∧ (k ≤ D)) (fun k => D - k) 0 ⟨rfl, congrArg (fun z : Int => some (Value.int .i64 z)) (by omega), congrArg (fun z : Nat => some (Value.int .u64 (z : Int))) hn.symm, congrArg (fun z : Nat => some (Value.int .i64 ((z : Int) - 1074))) hL.symm, congrArg (fun z : Nat => some (Value.int .u64 (z : Int))) (by rw [Nat.pow_zero, Nat.mul_one, hn]), trivial⟩ ⟨Ext.refl _ _, Nat.zero_le _⟩ ?_
  rintro k w6 ⟨M5, hk⟩
  have XM5 : ∀ q9, (No) q9 → (No) q9 ∨ w4.heap.size ≤ q9 := fun _ h => Or.inl h
  replace E := E.trans M5
  replace HF := HF.on E
  replace LW := LW.step E XLW
  replace E := Ext.refl (No) w6
  refine cw_seq ?_
  refine cw_seq ?_
  refine cw_region ?_
  refine rs_op rfl (ow_move rfl ?_)
  refine rs_op rfl (ow_move rfl ?_)
  refine rs_op rfl (ow_gtr rfl rfl ?_)
  refine rs_nil ?_
  refine ew_next ?_
  refine cw_set 58 (.bool (decide (k < D))) rfl (bool_dec (by omega)) ?_
  have hrlt : mg (rg a) * 2 ^ k % n < n := Nat.mod_lt _ (by omega)
  refine cw_cond rfl (fun hkd => ?_) (fun hkd => ?_)
  · have _way := True.intro
    have hkd := of_decide_eq_true hkd
    refine cw_skip ?_
    refine ew_next ?_
    refine cw_seq ?_
    refine cw_block ?_
    refine cw_region ?_
    refine rs_op rfl (ow_move rfl ?_)
    refine rs_op rfl (ow_mul rfl rfl (wrap_u64 (by omega)) ?_)
    refine rs_op rfl (ow_move rfl ?_)
    refine rs_op rfl (ow_rem (z := ((2 * (mg (rg a) * 2 ^ k % n) % n : Nat) : Int)) rfl rfl (by omega) (by rw [← tmod_nat, Int.natCast_mul]; rfl) ?_)
    refine rs_op rfl (ow_assign rfl ?_)
    refine rs_nil ?_
    refine ew_block_normal ?_
    refine ew_next ?_
    refine cw_region ?_
    refine rs_op rfl (ow_move rfl ?_)
    refine rs_op rfl (ow_sub rfl rfl (wrap_i64 (by omega)) ?_)
    refine rs_op rfl (ow_assign rfl ?_)
    refine rs_nil ?_
    exact ew_round (ι := Nat) (s := fun k => [(0, .int .u64 ((a : Nat) : Int)), (6, .int .i64 (((L + D - k : Nat) : Int) - 1074)), (7, .int .u64 ((n : Nat) : Int)), (8, .int .i64 (((L : Nat) : Int) - 1074)), (9, .int .u64 ((mg (rg a) * 2 ^ k % n : Nat) : Int))]) (R := fun k w' => Ext (No) w4 w' ∧ (k ≤ D)) (m := fun k => D - k) (i := k) (k + 1) (by omega) ⟨rfl, congrArg (fun z : Int => some (Value.int .i64 z)) (by omega), rfl, rfl, congrArg (fun z : Nat => some (Value.int .u64 (z : Int))) (rest_step _ _ _), trivial⟩ ⟨M5.step E XM5, by omega⟩
  · have _way := True.intro
    have hkd := of_decide_eq_false hkd
    obtain rfl : k = D := by omega
    obtain ⟨r, hr⟩ : ∃ r, r = mg (rg a) * 2 ^ k % n := ⟨_, rfl⟩
    have hrn : r < 9007199254740992 := by omega
    have hval : vl (rg a) % vl (rg b) = r * 2 ^ L := by rw [hr]; exact hfin
    have hrle : r * 2 ^ L ≤ vl (rg a) := by rw [← hval]; exact Nat.mod_le _ _
    obtain ⟨X8, hX8⟩ : ∃ X8, X8 = 1074 := ⟨_, rfl⟩
    refine cw_exit ?_
    refine ew_then_exit ?_
    refine ew_then_exit ?_
    refine ew_block_here ?_
    refine ew_next ?_
    refine cw_seq ?_
    refine cw_region ?_
    refine rs_op rfl (ow_move rfl ?_)
    refine rs_op rfl (ow_i2f Tryz.underlying57 (by rw [Tryz.underlying22]; rfl) rfl ?_)
    refine rs_set 66 (.float .f64 (rungOf (r * 2 ^ X8))) rfl ((by rw [← hr, nearest_nat hrn, hX8] : (.float .f64 (FloatKind.f64.nearest ((mg (rg a) * 2 ^ k % n : Nat) : Int)) : Value) = _)) ?_
    obtain ⟨Y9, hE⟩ : ∃ Y9, Y9 = 1074 + (L - 1074) := ⟨_, rfl⟩
    refine rs_op rfl (ow_assign rfl ?_)
    refine rs_nil ?_
    refine ew_next ?_
    refine cw_seq ?_
    refine cw_block ?_
    replace HF := HF.on E
    replace LW := LW.step E XLW
    replace M5 := M5.step E XM5
    replace E := Ext.refl (No) w6
    refine cw_loop (ι := Nat) (fun j => [(0, .int .u64 ((a : Nat) : Int)), (8, .int .i64 (((L : Nat) : Int) - 1074 - ((j : Nat) : Int))), (10, .float .f64 (rungOf (r * 2 ^ (X8 + j))))]) (fun j w' => Ext (No) w6 w' ∧ (j ≤ L - 1074)) (fun j => L - 1074 - j) 0 ⟨rfl, congrArg (fun z : Int => some (Value.int .i64 z)) (by omega), rfl, trivial⟩ ⟨Ext.refl _ _, Nat.zero_le _⟩ ?_
    rintro j w8 ⟨M7, hj⟩
    have XM7 : ∀ q9, (No) q9 → (No) q9 ∨ w6.heap.size ≤ q9 := fun _ h => Or.inl h
    replace E := E.trans M7
    replace HF := HF.on E
    replace LW := LW.step E XLW
    replace M5 := M5.step E XM5
    replace E := Ext.refl (No) w8
    refine cw_seq ?_
    refine cw_seq ?_
    refine cw_region ?_
    refine rs_op rfl (ow_move rfl ?_)
    refine rs_op rfl (ow_gtr rfl rfl ?_)
    refine rs_nil ?_
    refine ew_next ?_
    refine cw_set 68 (.bool (decide (j < L - 1074))) rfl (bool_dec (by omega)) ?_
    refine cw_cond rfl (fun hjl => ?_) (fun hjl => ?_)
    · have _way := True.intro
      have hjl := of_decide_eq_true hjl
      refine cw_skip ?_
      refine ew_next ?_
      refine cw_seq ?_
      refine cw_block ?_
      refine cw_region ?_
      refine rs_op rfl (ow_move rfl ?_)
      refine rs_op rfl (ow_fV (z := rungOf (r * 2 ^ (X8 + (j + 1)))) (.inr (.inr (.inl rfl))) rfl rfl (up_step (R := rg a) hrn hf (Nat.le_trans (Nat.mul_le_mul_left _ (Nat.pow_le_pow_right (by decide) (show X8 + j + 1 ≤ L by omega))) hrle)) ?_)
      refine rs_op rfl (ow_assign rfl ?_)
      refine rs_nil ?_
      refine ew_block_normal ?_
      refine ew_next ?_
      refine cw_region ?_
      refine rs_op rfl (ow_move rfl ?_)
      refine rs_op rfl (ow_sub rfl rfl (wrap_i64 (by omega)) ?_)
      refine rs_op rfl (ow_assign rfl ?_)
      refine rs_nil ?_
      exact ew_round (ι := Nat) (s := fun j => [(0, .int .u64 ((a : Nat) : Int)), (8, .int .i64 (((L : Nat) : Int) - 1074 - ((j : Nat) : Int))), (10, .float .f64 (rungOf (r * 2 ^ (X8 + j))))]) (R := fun j w' => Ext (No) w6 w' ∧ (j ≤ L - 1074)) (m := fun j => L - 1074 - j) (i := j) (j + 1) (by omega) ⟨rfl, congrArg (fun z : Int => some (Value.int .i64 z)) (by omega), rfl, trivial⟩ ⟨M7.step E XM7, by omega⟩
    · have _way := True.intro
      have hjl := of_decide_eq_false hjl
      obtain rfl : j = L - 1074 := by omega
      refine cw_exit ?_
      refine ew_then_exit ?_
      refine ew_then_exit ?_
      refine ew_block_here ?_
      refine ew_next ?_
      refine cw_seq ?_
      refine cw_block ?_
      replace HF := HF.on E
      replace LW := LW.step E XLW
      replace M5 := M5.step E XM5
      replace M7 := M7.step E XM7
      replace E := Ext.refl (No) w8
      refine cw_loop (ι := Nat) (fun j => [(0, .int .u64 ((a : Nat) : Int)), (8, .int .i64 (((L : Nat) : Int) - ((Y9 : Nat) : Int) + ((j : Nat) : Int))), (10, .float .f64 (rungOf (r * 2 ^ (Y9 - j))))]) (fun j w' => Ext (No) w8 w' ∧ (j ≤ Y9 - L)) (fun j => Y9 - L - j) 0 ⟨rfl, congrArg (fun z : Int => some (Value.int .i64 z)) (by omega), congrArg (fun z : Nat => some (Value.float .f64 (rungOf (r * 2 ^ z)))) (by omega), trivial⟩ ⟨Ext.refl _ _, Nat.zero_le _⟩ ?_
      rintro j w10 ⟨M9, hj2⟩
      have XM9 : ∀ q9, (No) q9 → (No) q9 ∨ w8.heap.size ≤ q9 := fun _ h => Or.inl h
      replace E := E.trans M9
      replace HF := HF.on E
      replace LW := LW.step E XLW
      replace M5 := M5.step E XM5
      replace M7 := M7.step E XM7
      replace E := Ext.refl (No) w10
      refine cw_seq ?_
      refine cw_seq ?_
      refine cw_region ?_
      refine rs_op rfl (ow_move rfl ?_)
      refine rs_op rfl (ow_lss rfl rfl ?_)
      refine rs_nil ?_
      refine ew_next ?_
      refine cw_set 74 (.bool (decide (j < Y9 - L))) rfl (bool_dec (by omega)) ?_
      refine cw_cond rfl (fun hjl2 => ?_) (fun hjl2 => ?_)
      · have _way := True.intro
        have hjl2 := of_decide_eq_true hjl2
        have e1 : Y9 - j = Y9 - (j + 1) + 1 := by omega
        refine cw_skip ?_
        refine ew_next ?_
        refine cw_seq ?_
        refine cw_block ?_
        refine cw_region ?_
        refine rs_op rfl (ow_move rfl ?_)
        refine rs_op rfl (ow_fV (z := rungOf (r * 2 ^ (Y9 - (j + 1)))) (.inr (.inr (.inr rfl))) rfl rfl (e1 ▸ down_step (R := 4845873199050653696) hrn (by decide) (small_le hrn (by omega))) ?_)
        refine rs_op rfl (ow_assign rfl ?_)
        refine rs_nil ?_
        refine ew_block_normal ?_
        refine ew_next ?_
        refine cw_region ?_
        refine rs_op rfl (ow_move rfl ?_)
        refine rs_op rfl (ow_add rfl rfl (wrap_i64 (by omega)) ?_)
        refine rs_op rfl (ow_assign rfl ?_)
        refine rs_nil ?_
        exact ew_round (ι := Nat) (s := fun j => [(0, .int .u64 ((a : Nat) : Int)), (8, .int .i64 (((L : Nat) : Int) - ((Y9 : Nat) : Int) + ((j : Nat) : Int))), (10, .float .f64 (rungOf (r * 2 ^ (Y9 - j))))]) (R := fun j w' => Ext (No) w8 w' ∧ (j ≤ Y9 - L)) (m := fun j => Y9 - L - j) (i := j) (j + 1) (by omega) ⟨rfl, congrArg (fun z : Int => some (Value.int .i64 z)) (by omega), rfl, trivial⟩ ⟨M9.step E XM9, by omega⟩
      · have _way := True.intro
        have hjl2 := of_decide_eq_false hjl2
        have hmod : rungOf (r * 2 ^ (Y9 - j)) = modR a b := by rw [show Y9 - j = L by omega, ← hval, modR, if_neg (by omega)]
        have hml := modR_le (a := a) (b := b) hf hb0
        refine cw_set 10 (.float .f64 (modR a b)) rfl ((by rw [hmod] : (.float .f64 (rungOf (r * 2 ^ (Y9 - j))) : Value) = _)) ?_
        refine cw_exit ?_
        refine ew_then_exit ?_
        refine ew_then_exit ?_
        refine ew_block_here ?_
        refine ew_next ?_
        refine cw_seq ?_
        refine cw_region ?_
        refine rs_op rfl (ow_move rfl ?_)
        refine rs_op rfl (ow_bits ex59 rfl ?_)
        refine rs_op rfl (ow_move rfl ?_)
        refine rs_op rfl (ow_and rfl rfl (and_sign ha) ?_)
        refine rs_op rfl (ow_or rfl rfl (or_bits (by omega) (by split <;> decide)) ?_)
        refine rs_op rfl (ow_assign rfl ?_)
        refine rs_nil ?_
        refine ew_next ?_
        refine cw_ret ?_
        refine ew_ret (rs := [.tmp 4]) (vs := [_]) rfl ⟨rfl, trivial⟩ ?_
        exact ⟨by rw [or_word (by omega)]; rfl, (LW.step E XLW).toBelow⟩
theorem rest_lo_any (hc : ex (rg a) < ex (rg b)) : Calls Tryz.prog 104 #[.int .u64 ((a : Nat) : Int), .int .u64 ((b : Nat) : Int)] w fun e w' => e = .returned (.int .u64 ((m0F a b : Nat) : Int)) ∧ Below w.heap.size w w' := by
  have hfin' := rest_lo (mg (rg a)) (mg (rg b)) (Nat.le_of_lt hc)
  obtain ⟨s, hs⟩ : ∃ s, s = ex (rg b) - ex (rg a) := ⟨_, rfl⟩
  rw [← hs] at hfin'
  obtain ⟨L, hL⟩ : ∃ L, L = ex (rg a) := ⟨_, rfl⟩
  obtain ⟨D, hD⟩ : ∃ D, D = 0 := ⟨_, rfl⟩
  obtain ⟨n, hn⟩ : ∃ n, n = mg (rg b) * 2 ^ s := ⟨_, rfl⟩
  have hfin : vl (rg a) % vl (rg b) = (mg (rg a) * 2 ^ D % n) * 2 ^ L := by rw [hn, hL, hD, Nat.pow_zero, Nat.mul_one]; exact hfin'
  have hself : mg (rg a) < n → m0F a b = a := fun h => by
    have h1 : modR a b = rg a := modR_unique (by omega) (by rw [hfin, hD, Nat.pow_zero, Nat.mul_one, Nat.mod_eq_of_lt h, hL]; rfl)
    rw [m0F, h1]; exact word_self' ha
  have hma := mg_lt (rg a)
  have hmb := mg_lt (rg b)
  have hmb0 := mg_pos hb0
  have hxa : ex (rg a) ≤ 2045 := by unfold ex; split <;> omega
  have hxb : ex (rg b) ≤ 2045 := by unfold ex; split <;> omega
  refine calls_cw Tryz.func104 rfl Tryz.ntmps104 rfl ?_
  have HF : Per (No) w (fun _ => True) := Per.true_
  have LW := Ext.refl (No) w
  have XLW : ∀ q9, (No) q9 → (No) q9 ∨ w.heap.size ≤ q9 := fun _ h => Or.inl h
  have E := Ext.refl (No) w
  refine cw_seq ?_
  refine cw_region ?_
  refine rs_op rfl (ow_assign rfl ?_)
  refine rs_nil ?_
  refine ew_next ?_
  refine cw_seq ?_
  refine cw_seq ?_
  refine cw_region ?_
  refine rs_op rfl (ow_move rfl ?_)
  refine rs_op rfl (ow_enter en34 rfl ((isinf_any _ b hb).mono ?_))
  rintro e w1 ⟨rfl, hb⟩
  refine ⟨_, rfl, ?_⟩
  have Ec := Ext.of_below hb No
  replace E := E.trans Ec.no
  clear hb Ec
  refine rs_set 12 (.bool false) rfl ((by rw [decide_eq_false (by omega)] : (.bool (decide (rg b = 9218868437227405312)) : Value) = _)) ?_
  refine rs_op rfl (ow_move rfl ?_)
  refine rs_op rfl (ow_on rfl (ow_move rfl ?_))
  refine rs_op rfl (ow_on rfl (ow_enter en35 rfl ((iszero_any _ a ha).mono ?_)))
  rintro e w2 ⟨rfl, hb⟩
  refine ⟨_, rfl, ?_⟩
  have Ec := Ext.of_below hb No
  replace E := E.trans Ec.no
  clear hb Ec
  refine rs_set 15 (.bool false) rfl ((by rw [isZ, decide_eq_false ha0] : (.bool (isZ a) : Value) = _)) ?_
  refine rs_op rfl (ow_pickF rfl rfl ?_)
  refine rs_nil ?_
  refine ew_next ?_
  refine cw_else rfl ?_
  refine cw_skip ?_
  refine ew_next ?_
  refine cw_seq ?_
  refine cw_region ?_
  refine rs_op rfl (ow_move rfl ?_)
  refine rs_op rfl (ow_enter en75 rfl ((parts_any _ a ha hf).mono ?_))
  rintro e w3 ⟨rfl, hb⟩
  refine ⟨_, rfl, ?_⟩
  have Ec := Ext.of_below hb No
  replace E := E.trans Ec.no
  clear hb Ec
  refine rs_op rfl (ow_move rfl ?_)
  refine rs_op rfl (ow_extract rfl rfl ?_)
  refine rs_op rfl (ow_extract rfl rfl ?_)
  refine rs_op rfl (ow_assign rfl ?_)
  refine rs_op rfl (ow_assign rfl ?_)
  refine rs_nil ?_
  refine ew_next ?_
  refine cw_seq ?_
  refine cw_region ?_
  refine rs_op rfl (ow_move rfl ?_)
  refine rs_op rfl (ow_enter en75 rfl ((parts_any _ b hb hq).mono ?_))
  rintro e w4 ⟨rfl, hb⟩
  refine ⟨_, rfl, ?_⟩
  have Ec := Ext.of_below hb No
  replace E := E.trans Ec.no
  clear hb Ec
  have hbig : 53 < s → mg (rg a) < n := fun h => by
    have h1 : 2 ^ 53 ≤ 2 ^ s := Nat.pow_le_pow_right (by decide) (by omega)
    have h2 : 1 * 2 ^ s ≤ mg (rg b) * 2 ^ s := Nat.mul_le_mul_right _ (by omega)
    rw [hn]
    omega
  refine rs_op rfl (ow_move rfl ?_)
  refine rs_op rfl (ow_extract rfl rfl ?_)
  refine rs_op rfl (ow_extract rfl rfl ?_)
  refine rs_op rfl (ow_assign rfl ?_)
  refine rs_op rfl (ow_assign rfl ?_)
  refine rs_nil ?_
  refine ew_next ?_
  refine cw_seq ?_
  refine cw_seq ?_
  refine cw_region ?_
  refine rs_op rfl (ow_move rfl ?_)
  refine rs_op rfl (ow_move rfl ?_)
  refine rs_op rfl (ow_lss rfl rfl ?_)
  refine rs_nil ?_
  refine ew_next ?_
  refine cw_set 30 (.bool true) rfl ((by rw [decide_eq_true (by omega)] : (.bool (decide ((((ex (rg a) : Nat) : Int) - 1074) < (((ex (rg b) : Nat) : Int) - 1074))) : Value) = _)) ?_
  refine cw_then rfl ?_
  refine cw_seq ?_
  refine cw_seq ?_
  refine cw_region ?_
  refine rs_op rfl (ow_move rfl ?_)
  refine rs_op rfl (ow_move rfl ?_)
  refine rs_op rfl (ow_sub rfl rfl (wrap_i64 (by omega)) ?_)
  refine rs_op rfl (ow_gtr rfl rfl ?_)
  refine rs_op rfl (ow_move rfl ?_)
  refine rs_set 35 (.bool (decide (53 < s))) rfl (bool_dec (by omega)) ?_
  refine rs_split 35 rfl (fun hbg => ?_) (fun hbg => ?_)
  · have _way := True.intro
    refine rs_op rfl (ow_off rfl ?_)
    refine rs_op rfl (ow_off rfl ?_)
    refine rs_op rfl (ow_off rfl ?_)
    refine rs_op rfl (ow_off rfl ?_)
    refine rs_op rfl (ow_off rfl ?_)
    refine rs_op rfl (ow_off rfl ?_)
    refine rs_op rfl (ow_off rfl ?_)
    refine rs_op rfl (ow_off rfl ?_)
    refine rs_op rfl (ow_pickT rfl rfl ?_)
    refine rs_nil ?_
    refine ew_next ?_
    refine cw_then rfl ?_
    refine cw_seq ?_
    refine cw_region ?_
    refine rs_op rfl (ow_move rfl ?_)
    refine rs_op rfl (ow_assign rfl ?_)
    refine rs_nil ?_
    refine ew_next ?_
    refine cw_ret ?_
    refine ew_then_ret ?_
    refine ew_then_ret ?_
    refine ew_ret (rs := [.tmp 4]) (vs := [_]) rfl ⟨rfl, trivial⟩ ?_
    exact ⟨by rw [hself (hbig (of_decide_eq_true hbg))]; rfl, (LW.step E XLW).toBelow⟩
  · have _way := True.intro
    have hbg := of_decide_eq_false hbg
    refine rs_op rfl (ow_on rfl (ow_move rfl ?_))
    refine rs_op rfl (ow_on rfl (ow_move rfl ?_))
    refine rs_op rfl (ow_on rfl (ow_move rfl ?_))
    refine rs_op rfl (ow_on rfl (ow_move rfl ?_))
    refine rs_op rfl (ow_on rfl (ow_sub rfl rfl (wrap_i64 (by omega)) ?_))
    refine rs_op rfl (ow_on rfl (ow_conv Tryz.underlying104 Tryz.underlying3 rfl (wrap_u64 (by omega)) ?_))
    refine rs_set 41 (.int .u64 ((s : Nat) : Int)) rfl ((by congr 1; omega : (.int .u64 ((((ex (rg b) : Nat) : Int) - 1074) - (((ex (rg a) : Nat) : Int) - 1074)) : Value) = _)) ?_
    refine rs_op rfl (ow_on rfl (ow_shr rfl rfl (by omega) (shr_nat _ s (by omega)) ?_))
    refine rs_op rfl (ow_on rfl (ow_gtr rfl rfl ?_))
    refine rs_op rfl (ow_pickF rfl rfl ?_)
    refine rs_nil ?_
    refine ew_next ?_
    refine cw_set 44 (.bool (decide (mg (rg a) / 2 ^ s < mg (rg b)))) rfl (bool_dec (by omega)) ?_
    refine cw_cond rfl (fun hlt => ?_) (fun hlt => ?_)
    · have _way := True.intro
      have hlt := of_decide_eq_true hlt
      have hlt2 : mg (rg a) < n := by rw [hn]; exact (Nat.div_lt_iff_lt_mul (Nat.pow_pos (by decide))).1 hlt
      refine cw_seq ?_
      refine cw_region ?_
      refine rs_op rfl (ow_move rfl ?_)
      refine rs_op rfl (ow_assign rfl ?_)
      refine rs_nil ?_
      refine ew_next ?_
      refine cw_ret ?_
      refine ew_then_ret ?_
      refine ew_then_ret ?_
      refine ew_ret (rs := [.tmp 4]) (vs := [_]) rfl ⟨rfl, trivial⟩ ?_
      exact ⟨by rw [hself hlt2]; rfl, (LW.step E XLW).toBelow⟩
    · have _way := True.intro
      have hlt := of_decide_eq_false hlt
      have hle : n ≤ mg (rg a) := by rw [hn]; exact (Nat.le_div_iff_mul_le (Nat.pow_pos (by decide))).1 (by omega)
      have hn0 : 0 < n := by rw [hn]; exact Nat.mul_pos (by omega) (Nat.pow_pos (by decide))
      refine cw_skip ?_
      refine ew_next ?_
      refine cw_seq ?_
      refine cw_region ?_
      refine rs_op rfl (ow_move rfl ?_)
      refine rs_op rfl (ow_move rfl ?_)
      refine rs_op rfl (ow_move rfl ?_)
      refine rs_op rfl (ow_sub rfl rfl (wrap_i64 (by omega)) ?_)
      refine rs_op rfl (ow_conv Tryz.underlying104 Tryz.underlying3 rfl (wrap_u64 (by omega)) ?_)
      refine rs_set 50 (.int .u64 ((s : Nat) : Int)) rfl ((by congr 1; omega : (.int .u64 ((((ex (rg b) : Nat) : Int) - 1074) - (((ex (rg a) : Nat) : Int) - 1074)) : Value) = _)) ?_
      refine rs_op rfl (ow_shl rfl rfl (by omega) (shl_nat _ s (by omega)) ?_)
      refine rs_set 51 (.int .u64 ((n : Nat) : Int)) rfl ((by rw [← hn, Nat.mod_eq_of_lt (by omega)] : (.int .u64 ((mg (rg b) * 2 ^ s % 18446744073709551616 : Nat) : Int) : Value) = _)) ?_
      refine rs_op rfl (ow_assign rfl ?_)
      refine rs_nil ?_
      refine ew_next ?_
      refine cw_region ?_
      refine rs_op rfl (ow_move rfl ?_)
      refine rs_op rfl (ow_assign rfl ?_)
      refine rs_nil ?_
      refine ew_next ?_
      refine cw_seq ?_
      refine cw_region ?_
      refine rs_op rfl (ow_move rfl ?_)
      refine rs_op rfl (ow_move rfl ?_)
      refine rs_op rfl (ow_rem (z := ((mg (rg a) % n : Nat) : Int)) rfl rfl (by omega) (tmod_nat _ _) ?_)
      refine rs_op rfl (ow_assign rfl ?_)
      refine rs_nil ?_
      refine ew_next ?_
      refine cw_seq ?_
      refine cw_block ?_
      replace HF := HF.on E
      replace LW := LW.step E XLW
      replace E := Ext.refl (No) w4
      refine cw_loop (ι := Nat) (fun k => [(0, .int .u64 ((a : Nat) : Int)), (6, .int .i64 (((L + D - k : Nat) : Int) - 1074)), (7, .int .u64 ((n : Nat) : Int)), (8, .int .i64 (((L : Nat) : Int) - 1074)), (9, .int .u64 ((mg (rg a) * 2 ^ k % n : Nat) : Int))]) (fun k w' => Ext (No) w4 w' ∧ (k ≤ D)) (fun k => D - k) 0 ⟨rfl, congrArg (fun z : Int => some (Value.int .i64 z)) (by omega), rfl, congrArg (fun z : Nat => some (Value.int .i64 ((z : Int) - 1074))) hL.symm, congrArg (fun z : Nat => some (Value.int .u64 (z : Int))) (by rw [Nat.pow_zero, Nat.mul_one]), trivial⟩ ⟨Ext.refl _ _, Nat.zero_le _⟩ ?_
      rintro k w6 ⟨M5, hk⟩
      have XM5 : ∀ q9, (No) q9 → (No) q9 ∨ w4.heap.size ≤ q9 := fun _ h => Or.inl h
      replace E := E.trans M5
      replace HF := HF.on E
      replace LW := LW.step E XLW
      replace E := Ext.refl (No) w6
      refine cw_seq ?_
      refine cw_seq ?_
      refine cw_region ?_
      refine rs_op rfl (ow_move rfl ?_)
      refine rs_op rfl (ow_move rfl ?_)
      refine rs_op rfl (ow_gtr rfl rfl ?_)
      refine rs_nil ?_
      refine ew_next ?_
      refine cw_set 58 (.bool (decide (k < D))) rfl (bool_dec (by omega)) ?_
      have hrlt : mg (rg a) * 2 ^ k % n < n := Nat.mod_lt _ (by omega)
      refine cw_cond rfl (fun hkd => ?_) (fun hkd => ?_)
      · have _way := True.intro
        have hkd := of_decide_eq_true hkd
        refine cw_skip ?_
        refine ew_next ?_
        refine cw_seq ?_
        refine cw_block ?_
        refine cw_region ?_
        refine rs_op rfl (ow_move rfl ?_)
        refine rs_op rfl (ow_mul rfl rfl (wrap_u64 (by omega)) ?_)
        refine rs_op rfl (ow_move rfl ?_)
        refine rs_op rfl (ow_rem (z := ((2 * (mg (rg a) * 2 ^ k % n) % n : Nat) : Int)) rfl rfl (by omega) (by rw [← tmod_nat, Int.natCast_mul]; rfl) ?_)
        refine rs_op rfl (ow_assign rfl ?_)
        refine rs_nil ?_
        refine ew_block_normal ?_
        refine ew_next ?_
        refine cw_region ?_
        refine rs_op rfl (ow_move rfl ?_)
        refine rs_op rfl (ow_sub rfl rfl (wrap_i64 (by omega)) ?_)
        refine rs_op rfl (ow_assign rfl ?_)
        refine rs_nil ?_
        exact ew_round (ι := Nat) (s := fun k => [(0, .int .u64 ((a : Nat) : Int)), (6, .int .i64 (((L + D - k : Nat) : Int) - 1074)), (7, .int .u64 ((n : Nat) : Int)), (8, .int .i64 (((L : Nat) : Int) - 1074)), (9, .int .u64 ((mg (rg a) * 2 ^ k % n : Nat) : Int))]) (R := fun k w' => Ext (No) w4 w' ∧ (k ≤ D)) (m := fun k => D - k) (i := k) (k + 1) (by omega) ⟨rfl, congrArg (fun z : Int => some (Value.int .i64 z)) (by omega), rfl, rfl, congrArg (fun z : Nat => some (Value.int .u64 (z : Int))) (rest_step _ _ _), trivial⟩ ⟨M5.step E XM5, by omega⟩
      · have _way := True.intro
        have hkd := of_decide_eq_false hkd
        obtain rfl : k = D := by omega
        obtain ⟨r, hr⟩ : ∃ r, r = mg (rg a) * 2 ^ k % n := ⟨_, rfl⟩
        have hrn : r < 9007199254740992 := by omega
        have hval : vl (rg a) % vl (rg b) = r * 2 ^ L := by rw [hr]; exact hfin
        have hrle : r * 2 ^ L ≤ vl (rg a) := by rw [← hval]; exact Nat.mod_le _ _
        obtain ⟨X8, hX8⟩ : ∃ X8, X8 = 1074 := ⟨_, rfl⟩
        refine cw_exit ?_
        refine ew_then_exit ?_
        refine ew_then_exit ?_
        refine ew_block_here ?_
        refine ew_next ?_
        refine cw_seq ?_
        refine cw_region ?_
        refine rs_op rfl (ow_move rfl ?_)
        refine rs_op rfl (ow_i2f Tryz.underlying57 (by rw [Tryz.underlying22]; rfl) rfl ?_)
        refine rs_set 66 (.float .f64 (rungOf (r * 2 ^ X8))) rfl ((by rw [← hr, nearest_nat hrn, hX8] : (.float .f64 (FloatKind.f64.nearest ((mg (rg a) * 2 ^ k % n : Nat) : Int)) : Value) = _)) ?_
        obtain ⟨Y9, hE⟩ : ∃ Y9, Y9 = 1074 + (L - 1074) := ⟨_, rfl⟩
        refine rs_op rfl (ow_assign rfl ?_)
        refine rs_nil ?_
        refine ew_next ?_
        refine cw_seq ?_
        refine cw_block ?_
        replace HF := HF.on E
        replace LW := LW.step E XLW
        replace M5 := M5.step E XM5
        replace E := Ext.refl (No) w6
        refine cw_loop (ι := Nat) (fun j => [(0, .int .u64 ((a : Nat) : Int)), (8, .int .i64 (((L : Nat) : Int) - 1074 - ((j : Nat) : Int))), (10, .float .f64 (rungOf (r * 2 ^ (X8 + j))))]) (fun j w' => Ext (No) w6 w' ∧ (j ≤ L - 1074)) (fun j => L - 1074 - j) 0 ⟨rfl, congrArg (fun z : Int => some (Value.int .i64 z)) (by omega), rfl, trivial⟩ ⟨Ext.refl _ _, Nat.zero_le _⟩ ?_
        rintro j w8 ⟨M7, hj⟩
        have XM7 : ∀ q9, (No) q9 → (No) q9 ∨ w6.heap.size ≤ q9 := fun _ h => Or.inl h
        replace E := E.trans M7
        replace HF := HF.on E
        replace LW := LW.step E XLW
        replace M5 := M5.step E XM5
        replace E := Ext.refl (No) w8
        refine cw_seq ?_
        refine cw_seq ?_
        refine cw_region ?_
        refine rs_op rfl (ow_move rfl ?_)
        refine rs_op rfl (ow_gtr rfl rfl ?_)
        refine rs_nil ?_
        refine ew_next ?_
        refine cw_set 68 (.bool (decide (j < L - 1074))) rfl (bool_dec (by omega)) ?_
        refine cw_cond rfl (fun hjl => ?_) (fun hjl => ?_)
        · have _way := True.intro
          have hjl := of_decide_eq_true hjl
          refine cw_skip ?_
          refine ew_next ?_
          refine cw_seq ?_
          refine cw_block ?_
          refine cw_region ?_
          refine rs_op rfl (ow_move rfl ?_)
          refine rs_op rfl (ow_fV (z := rungOf (r * 2 ^ (X8 + (j + 1)))) (.inr (.inr (.inl rfl))) rfl rfl (up_step (R := rg a) hrn hf (Nat.le_trans (Nat.mul_le_mul_left _ (Nat.pow_le_pow_right (by decide) (show X8 + j + 1 ≤ L by omega))) hrle)) ?_)
          refine rs_op rfl (ow_assign rfl ?_)
          refine rs_nil ?_
          refine ew_block_normal ?_
          refine ew_next ?_
          refine cw_region ?_
          refine rs_op rfl (ow_move rfl ?_)
          refine rs_op rfl (ow_sub rfl rfl (wrap_i64 (by omega)) ?_)
          refine rs_op rfl (ow_assign rfl ?_)
          refine rs_nil ?_
          exact ew_round (ι := Nat) (s := fun j => [(0, .int .u64 ((a : Nat) : Int)), (8, .int .i64 (((L : Nat) : Int) - 1074 - ((j : Nat) : Int))), (10, .float .f64 (rungOf (r * 2 ^ (X8 + j))))]) (R := fun j w' => Ext (No) w6 w' ∧ (j ≤ L - 1074)) (m := fun j => L - 1074 - j) (i := j) (j + 1) (by omega) ⟨rfl, congrArg (fun z : Int => some (Value.int .i64 z)) (by omega), rfl, trivial⟩ ⟨M7.step E XM7, by omega⟩
        · have _way := True.intro
          have hjl := of_decide_eq_false hjl
          obtain rfl : j = L - 1074 := by omega
          refine cw_exit ?_
          refine ew_then_exit ?_
          refine ew_then_exit ?_
          refine ew_block_here ?_
          refine ew_next ?_
          refine cw_seq ?_
          refine cw_block ?_
          replace HF := HF.on E
          replace LW := LW.step E XLW
          replace M5 := M5.step E XM5
          replace M7 := M7.step E XM7
          replace E := Ext.refl (No) w8
          refine cw_loop (ι := Nat) (fun j => [(0, .int .u64 ((a : Nat) : Int)), (8, .int .i64 (((L : Nat) : Int) - ((Y9 : Nat) : Int) + ((j : Nat) : Int))), (10, .float .f64 (rungOf (r * 2 ^ (Y9 - j))))]) (fun j w' => Ext (No) w8 w' ∧ (j ≤ Y9 - L)) (fun j => Y9 - L - j) 0 ⟨rfl, congrArg (fun z : Int => some (Value.int .i64 z)) (by omega), congrArg (fun z : Nat => some (Value.float .f64 (rungOf (r * 2 ^ z)))) (by omega), trivial⟩ ⟨Ext.refl _ _, Nat.zero_le _⟩ ?_
          rintro j w10 ⟨M9, hj2⟩
          have XM9 : ∀ q9, (No) q9 → (No) q9 ∨ w8.heap.size ≤ q9 := fun _ h => Or.inl h
          replace E := E.trans M9
          replace HF := HF.on E
          replace LW := LW.step E XLW
          replace M5 := M5.step E XM5
          replace M7 := M7.step E XM7
          replace E := Ext.refl (No) w10
          refine cw_seq ?_
          refine cw_seq ?_
          refine cw_region ?_
          refine rs_op rfl (ow_move rfl ?_)
          refine rs_op rfl (ow_lss rfl rfl ?_)
          refine rs_nil ?_
          refine ew_next ?_
          refine cw_set 74 (.bool (decide (j < Y9 - L))) rfl (bool_dec (by omega)) ?_
          refine cw_cond rfl (fun hjl2 => ?_) (fun hjl2 => ?_)
          · have _way := True.intro
            have hjl2 := of_decide_eq_true hjl2
            have e1 : Y9 - j = Y9 - (j + 1) + 1 := by omega
            refine cw_skip ?_
            refine ew_next ?_
            refine cw_seq ?_
            refine cw_block ?_
            refine cw_region ?_
            refine rs_op rfl (ow_move rfl ?_)
            refine rs_op rfl (ow_fV (z := rungOf (r * 2 ^ (Y9 - (j + 1)))) (.inr (.inr (.inr rfl))) rfl rfl (e1 ▸ down_step (R := 4845873199050653696) hrn (by decide) (small_le hrn (by omega))) ?_)
            refine rs_op rfl (ow_assign rfl ?_)
            refine rs_nil ?_
            refine ew_block_normal ?_
            refine ew_next ?_
            refine cw_region ?_
            refine rs_op rfl (ow_move rfl ?_)
            refine rs_op rfl (ow_add rfl rfl (wrap_i64 (by omega)) ?_)
            refine rs_op rfl (ow_assign rfl ?_)
            refine rs_nil ?_
            exact ew_round (ι := Nat) (s := fun j => [(0, .int .u64 ((a : Nat) : Int)), (8, .int .i64 (((L : Nat) : Int) - ((Y9 : Nat) : Int) + ((j : Nat) : Int))), (10, .float .f64 (rungOf (r * 2 ^ (Y9 - j))))]) (R := fun j w' => Ext (No) w8 w' ∧ (j ≤ Y9 - L)) (m := fun j => Y9 - L - j) (i := j) (j + 1) (by omega) ⟨rfl, congrArg (fun z : Int => some (Value.int .i64 z)) (by omega), rfl, trivial⟩ ⟨M9.step E XM9, by omega⟩
          · have _way := True.intro
            have hjl2 := of_decide_eq_false hjl2
            have hmod : rungOf (r * 2 ^ (Y9 - j)) = modR a b := by rw [show Y9 - j = L by omega, ← hval, modR, if_neg (by omega)]
            have hml := modR_le (a := a) (b := b) hf hb0
            refine cw_set 10 (.float .f64 (modR a b)) rfl ((by rw [hmod] : (.float .f64 (rungOf (r * 2 ^ (Y9 - j))) : Value) = _)) ?_
            refine cw_exit ?_
            refine ew_then_exit ?_
            refine ew_then_exit ?_
            refine ew_block_here ?_
            refine ew_next ?_
            refine cw_seq ?_
            refine cw_region ?_
            refine rs_op rfl (ow_move rfl ?_)
            refine rs_op rfl (ow_bits ex59 rfl ?_)
            refine rs_op rfl (ow_move rfl ?_)
            refine rs_op rfl (ow_and rfl rfl (and_sign ha) ?_)
            refine rs_op rfl (ow_or rfl rfl (or_bits (by omega) (by split <;> decide)) ?_)
            refine rs_op rfl (ow_assign rfl ?_)
            refine rs_nil ?_
            refine ew_next ?_
            refine cw_ret ?_
            refine ew_ret (rs := [.tmp 4]) (vs := [_]) rfl ⟨rfl, trivial⟩ ?_
            exact ⟨by rw [or_word (by omega)]; rfl, (LW.step E XLW).toBelow⟩
end
end
end
end Go.Proofs.YtljndllhmdpjlaaGreatDoor
namespace Go.Proofs.YtljndllhmdpjlaaGreatDoor
open Go.RowKit
set_option maxRecDepth 100000
theorem tdiv_nat (m n : Nat) : ((m : Nat) : Int).tdiv ((n : Nat) : Int) = ((m / n : Nat) : Int) := rfl
theorem quo_nat {m n : Nat} (h : m < 18446744073709551616) : IntKind.u64.wrap (((m : Nat) : Int).tdiv ((n : Nat) : Int)) = ((m / n : Nat) : Int) := by
  rw [tdiv_nat]; exact wrap_nat (Nat.lt_of_le_of_lt (Nat.div_le_self m n) h)
theorem mul_nat (m n : Nat) : IntKind.u64.wrap (((m : Nat) : Int) * ((n : Nat) : Int)) = ((m * n % 18446744073709551616 : Nat) : Int) := by rw [← Int.natCast_mul]; exact wrap_mod _
theorem add_nat (m n : Nat) : IntKind.u64.wrap (((m : Nat) : Int) + ((n : Nat) : Int)) = (((m + n) % 18446744073709551616 : Nat) : Int) := by rw [← Int.natCast_add]; exact wrap_mod _
theorem sub_mod_gen {M x y W : Nat} (hW : W < M) (h : (W + y) % M = x % M) : ((x : Int) - (y : Int)) % (M : Int) = (W : Int) := by
  have h' : ((W : Int) + (y : Int)) % (M : Int) = (x : Int) % (M : Int) := by exact_mod_cast h
  rw [Int.sub_emod, ← h', ← Int.sub_emod, Int.add_sub_cancel]
  exact Int.emod_eq_of_lt (by omega) (by omega)
theorem sub_nat {x y W : Nat} (hW : W < 18446744073709551616) (h : (W + y) % 18446744073709551616 = x % 18446744073709551616) : IntKind.u64.wrap (((x : Nat) : Int) - ((y : Nat) : Int)) = ((W : Nat) : Int) := by
  rw [IntKind.wrap_u64]
  exact sub_mod_gen hW h
theorem shl_cut {lo B V : Nat} (hB : B = lo % 2147483648) (hV : V = B * 8589934592) : lo * 2 ^ 33 % 18446744073709551616 = V := by
  rw [hV, hB]
  exact Nat.mul_mod_mul_right 8589934592 lo 2147483648
theorem split_div {U d q r : Nat} (hq : q = U / d) (hr : r = U % d) : q * d + r = U := by rw [hq, hr, Nat.mul_comm]; exact Nat.div_add_mod U d
theorem mod_lt_of {r U d : Nat} (hd : 0 < d) (hr : r = U % d) : r < d := by rw [hr]; exact Nat.mod_lt _ hd
/-- What is left of a dividend, reckoned in words that wrap. -/
theorem wrap_rest {M m q r d e f W x y : Nat} (hU : q * d + r = e) (hW : W = r * m + f) (hx : x = (e * m % M + f) % M) (hy : y = q * (d * m) % M) : (W + y) % M = x % M := by
  subst hx hy hW
  rw [Nat.mod_mod, Nat.add_mod_mod, Nat.mod_add_mod, ← hU, Nat.add_mul, Nat.mul_assoc]
  congr 1
  omega
/-- The whole of the division, by halves; the divisor's lower half is nought. -/
theorem div_gen {hi A B U V1 V0 q1 r1 q0 r0 m h y1 P a M : Nat} (hM : M = m * m) (hM2 : M = a * h) (hU : U = hi * h + A) (hV : V1 * m + V0 = B * h)
    (h1 : q1 * y1 + r1 = U) (h3 : q0 * y1 + r0 = r1 * m + V1) (hy : y1 * m = P * h) : (hi * M + (A * a + B)) * h = (q1 * m + q0) * P * h + (r0 * m + V0) := by
  have e1 : (hi * M + (A * a + B)) * h = (hi * h + A) * M + B * h := by
    rw [Nat.add_mul, Nat.add_mul, Nat.add_mul, Nat.mul_assoc A, ← hM2, Nat.mul_right_comm hi M h, Nat.add_assoc]
  have e2 : (q1 * m + q0) * P * h = (q1 * y1 * m + q0 * y1) * m := by
    rw [Nat.mul_assoc, ← hy, Nat.mul_comm y1 m, ← Nat.mul_assoc, Nat.mul_right_comm, Nat.add_mul, Nat.mul_right_comm q1 m y1]
  rw [e1, ← hU, ← hV, ← h1, hM, e2, Nat.add_mul, Nat.add_mul]
  have e3 : q0 * y1 * m + r0 * m = r1 * m * m + V1 * m := by rw [← Nat.add_mul, h3, Nat.add_mul]
  rw [← Nat.mul_assoc, ← Nat.mul_assoc]
  omega
theorem div_R {S Q P h m r0 V0 y1 : Nat} (h0 : 0 < h) (e : S * h = Q * P * h + (r0 * m + V0)) (hr : r0 < y1) (hv : V0 < m) (hy : y1 * m = P * h) : ∃ R, r0 * m + V0 = R * h ∧ R < P ∧ S = Q * P + R := by
  have hle : Q * P ≤ S := Nat.le_of_mul_le_mul_right (by omega) h0
  obtain ⟨R, rfl⟩ : ∃ R, S = Q * P + R := ⟨S - Q * P, by omega⟩
  rw [Nat.add_mul] at e
  have e1 : r0 * m + V0 = R * h := by omega
  refine ⟨R, e1, ?_, rfl⟩
  have e2 : (r0 + 1) * m ≤ y1 * m := Nat.mul_le_mul_right m hr
  rw [Nat.add_mul, Nat.one_mul, hy] at e2
  exact Nat.lt_of_mul_lt_mul_right (a := h) (by omega)
theorem div_eqs {hi A B U V1 V0 q1 r1 q0 r0 : Nat} (hU : U = hi * 8589934592 + A) (hV : V1 * 4294967296 + V0 = B * 8589934592)
    (h1 : q1 * 4294967294 + r1 = U) (h3 : q0 * 4294967294 + r0 = r1 * 4294967296 + V1) (h4 : r0 < 4294967294) (h5 : V0 < 4294967296) :
    ∃ R, r0 * 4294967296 + V0 = R * 8589934592 ∧ R < 2147483647 ∧ hi * 18446744073709551616 + (A * 2147483648 + B) = (q1 * 4294967296 + q0) * 2147483647 + R :=
  div_R (by decide) (div_gen (m := 4294967296) (a := 2147483648) rfl rfl hU hV h1 h3 rfl) h4 h5 rfl
theorem rr159_1 : Gives 159 #[.int .u64 2147483647] (.int .i64 31) := by
  intro w
  refine calls_cw Tryz.func159 rfl Tryz.ntmps159 rfl ?_
  have HF : Per (No) w (fun _ => True) := Per.true_
  have LW := Ext.refl (No) w
  have XLW : ∀ q9, (No) q9 → (No) q9 ∨ w.heap.size ≤ q9 := fun _ h => Or.inl h
  have E := Ext.refl (No) w
  refine cw_seq ?_
  refine cw_region ?_
  refine rs_op rfl (ow_assign rfl ?_)
  refine rs_nil ?_
  refine ew_next ?_
  refine cw_seq ?_
  refine cw_seq ?_
  refine cw_region ?_
  refine rs_op rfl (ow_move rfl ?_)
  refine rs_op rfl (ow_geq rfl rfl ?_)
  refine rs_nil ?_
  refine ew_next ?_
  refine cw_else rfl ?_
  refine cw_skip ?_
  refine ew_next ?_
  refine cw_seq ?_
  refine cw_seq ?_
  refine cw_region ?_
  refine rs_op rfl (ow_move rfl ?_)
  refine rs_op rfl (ow_geq rfl rfl ?_)
  refine rs_nil ?_
  refine ew_next ?_
  refine cw_then rfl ?_
  refine cw_seq ?_
  refine cw_region ?_
  refine rs_op rfl (ow_move rfl ?_)
  refine rs_op rfl (ow_shr (z := 32767) rfl rfl (by decide) (by kernel_rfl) ?_)
  refine rs_op rfl (ow_assign rfl ?_)
  refine rs_nil ?_
  refine ew_next ?_
  refine cw_region ?_
  refine rs_op rfl (ow_move rfl ?_)
  refine rs_op rfl (ow_add (z := 16) rfl rfl (by kernel_rfl) ?_)
  refine rs_op rfl (ow_assign rfl ?_)
  refine rs_nil ?_
  refine ew_next ?_
  refine cw_seq ?_
  refine cw_seq ?_
  refine cw_region ?_
  refine rs_op rfl (ow_move rfl ?_)
  refine rs_op rfl (ow_geq rfl rfl ?_)
  refine rs_nil ?_
  refine ew_next ?_
  refine cw_then rfl ?_
  refine cw_seq ?_
  refine cw_region ?_
  refine rs_op rfl (ow_move rfl ?_)
  refine rs_op rfl (ow_shr (z := 127) rfl rfl (by decide) (by kernel_rfl) ?_)
  refine rs_op rfl (ow_assign rfl ?_)
  refine rs_nil ?_
  refine ew_next ?_
  refine cw_region ?_
  refine rs_op rfl (ow_move rfl ?_)
  refine rs_op rfl (ow_add (z := 24) rfl rfl (by kernel_rfl) ?_)
  refine rs_op rfl (ow_assign rfl ?_)
  refine rs_nil ?_
  refine ew_next ?_
  refine cw_seq ?_
  refine cw_region ?_
  refine rs_op rfl (ow_move rfl ?_)
  refine rs_op rfl (ow_move rfl ?_)
  refine rs_op rfl (ow_conv (z := 127) Tryz.underlying5 Tryz.underlying22 rfl (by kernel_rfl) ?_)
  refine rs_op rfl (ow_indexSL (j := 127) (b := 7) Tryz.underlying9 rfl rfl rfl (by kernel_rfl) ?_)
  refine rs_op rfl (ow_conv (z := 7) Tryz.underlying3 Tryz.underlying5 rfl (by kernel_rfl) ?_)
  refine rs_op rfl (ow_add (z := 31) rfl rfl (by kernel_rfl) ?_)
  refine rs_op rfl (ow_assign rfl ?_)
  refine rs_nil ?_
  refine ew_next ?_
  refine cw_ret ?_
  refine ew_ret (rs := [.tmp 2]) (vs := [.int .i64 31]) rfl ⟨rfl, trivial⟩ ?_
  exact ⟨rfl, (LW.step E XLW).toBelow⟩
theorem rr140_2 : Gives 140 #[.int .u64 2147483647] (.int .i64 33) := by
  intro w
  refine calls_cw Tryz.func140 rfl Tryz.ntmps140 rfl ?_
  have HF : Per (No) w (fun _ => True) := Per.true_
  have LW := Ext.refl (No) w
  have XLW : ∀ q9, (No) q9 → (No) q9 ∨ w.heap.size ≤ q9 := fun _ h => Or.inl h
  have E := Ext.refl (No) w
  refine cw_seq ?_
  refine cw_region ?_
  refine rs_op rfl (ow_assign rfl ?_)
  refine rs_nil ?_
  refine ew_next ?_
  refine cw_seq ?_
  refine cw_region ?_
  refine rs_op rfl (ow_move rfl ?_)
  refine rs_op rfl (ow_enter en159 rfl ((rr159_1 _).mono ?_))
  rintro e w1 ⟨rfl, hb⟩
  refine ⟨_, rfl, ?_⟩
  have Ec := Ext.of_below hb No
  replace E := E.trans Ec.no
  clear hb Ec
  refine rs_op rfl (ow_sub (z := 33) rfl rfl (by kernel_rfl) ?_)
  refine rs_op rfl (ow_assign rfl ?_)
  refine rs_nil ?_
  refine ew_next ?_
  refine cw_ret ?_
  refine ew_ret (rs := [.tmp 2]) (vs := [.int .i64 33]) rfl ⟨rfl, trivial⟩ ?_
  exact ⟨rfl, (LW.step E XLW).toBelow⟩
section
variable (w : World)
theorem lead_prime : Calls Tryz.prog 140 #[.int .u64 2147483647] w fun e w' => e = .returned (.int .i64 33) ∧ Below w.heap.size w w' := by
  refine calls_cw Tryz.func140 rfl Tryz.ntmps140 rfl ?_
  have HF : Per (No) w (fun _ => True) := Per.true_
  have LW := Ext.refl (No) w
  have XLW : ∀ q9, (No) q9 → (No) q9 ∨ w.heap.size ≤ q9 := fun _ h => Or.inl h
  have E := Ext.refl (No) w
  refine cw_seq ?_
  refine cw_region ?_
  refine rs_op rfl (ow_assign rfl ?_)
  refine rs_nil ?_
  refine ew_next ?_
  refine cw_seq ?_
  refine cw_region ?_
  refine rs_op rfl (ow_move rfl ?_)
  refine rs_op rfl (ow_enter en159 rfl ((rr159_1 _).mono ?_))
  rintro e w1 ⟨rfl, hb⟩
  refine ⟨_, rfl, ?_⟩
  have Ec := Ext.of_below hb No
  replace E := E.trans Ec.no
  clear hb Ec
  refine rs_op rfl (ow_sub (z := 33) rfl rfl (by kernel_rfl) ?_)
  refine rs_op rfl (ow_assign rfl ?_)
  refine rs_nil ?_
  refine ew_next ?_
  refine cw_ret ?_
  refine ew_ret (rs := [.tmp 2]) (vs := [_]) rfl ⟨rfl, trivial⟩ ?_
  exact ⟨rfl, (LW.step E XLW).toBelow⟩
theorem div64_prime (hi lo : Nat) (h1 : hi < 2147483647) (h2 : lo < 18446744073709551616) : Calls Tryz.prog 109 #[.int .u64 ((hi : Nat) : Int), .int .u64 ((lo : Nat) : Int), .int .u64 2147483647] w fun e w' => e = .returned (.tuple #[.int .u64 (((hi * 18446744073709551616 + lo) / 2147483647 : Nat) : Int), .int .u64 (((hi * 18446744073709551616 + lo) % 2147483647 : Nat) : Int)]) ∧ Below w.heap.size w w' := by
  obtain ⟨A, hA⟩ : ∃ A, A = lo / 2147483648 := ⟨_, rfl⟩
  obtain ⟨B, hB⟩ : ∃ B, B = lo % 2147483648 := ⟨_, rfl⟩
  obtain ⟨U, hU⟩ : ∃ U, U = hi * 8589934592 + A := ⟨_, rfl⟩
  obtain ⟨V, hV⟩ : ∃ V, V = B * 8589934592 := ⟨_, rfl⟩
  have eV : lo * 2 ^ 33 % 18446744073709551616 = V := shl_cut hB hV
  have eA : lo / 2 ^ 31 = A := hA.symm
  have ehi : hi * 2 ^ 33 % 18446744073709551616 = hi * 8589934592 := Nat.mod_eq_of_lt (Nat.lt_of_lt_of_le (Nat.mul_lt_mul_of_pos_right h1 (by decide)) (by decide))
  have bA : A < 8589934592 := by omega
  have eor : hi * 8589934592 ||| A = U := by rw [hU]; exact or_add 33 bA (Nat.mul_mod_left hi 8589934592)
  have bB : B < 2147483648 := mod_lt_of (by decide) hB
  obtain ⟨V1, hV1⟩ : ∃ V1, V1 = V / 4294967296 := ⟨_, rfl⟩
  obtain ⟨V0, hV0⟩ : ∃ V0, V0 = V % 4294967296 := ⟨_, rfl⟩
  obtain ⟨q1, hq1⟩ : ∃ q1, q1 = U / 4294967294 := ⟨_, rfl⟩
  obtain ⟨r1, hr1⟩ : ∃ r1, r1 = U % 4294967294 := ⟨_, rfl⟩
  obtain ⟨W, hW⟩ : ∃ W, W = r1 * 4294967296 + V1 := ⟨_, rfl⟩
  obtain ⟨q0, hq0⟩ : ∃ q0, q0 = W / 4294967294 := ⟨_, rfl⟩
  obtain ⟨r0, hr0⟩ : ∃ r0, r0 = W % 4294967294 := ⟨_, rfl⟩
  obtain ⟨R, e1, e2, e3⟩ := div_eqs (hi := hi) (A := A) (B := B) (U := U) (V1 := V1) (V0 := V0) (q1 := q1) (r1 := r1) (q0 := q0) (r0 := r0) hU ((split_div hV1 hV0).trans hV) (split_div hq1 hr1) ((split_div hq0 hr0).trans hW) (mod_lt_of (by decide) hr0) (mod_lt_of (by decide) hV0)
  have elo : A * 2147483648 + B = lo := split_div hA hB
  have b1 := mod_lt_of (by decide) hr1
  have b0 := mod_lt_of (by decide) hr0
  have bV0 := mod_lt_of (by decide) hV0
  rw [elo] at e3
  have eR : (hi * 18446744073709551616 + lo) % 2147483647 = R := by rw [e3, Nat.add_comm, Nat.add_mul_mod_self_right, Nat.mod_eq_of_lt e2]
  have eQ : (hi * 18446744073709551616 + lo) / 2147483647 = q1 * 4294967296 + q0 := by rw [e3, Nat.add_comm, Nat.add_mul_div_right _ _ (by decide), Nat.div_eq_of_lt e2, Nat.zero_add]
  have bU : U < 18446744073709551616 := by omega
  have bq1 : q1 < 4294967296 := by omega
  have bq0 : q0 < 4294967296 := by omega
  have bW : W < 18446744073709551616 := by omega
  refine calls_cw Tryz.func109 rfl Tryz.ntmps109 rfl ?_
  have HF : Per (No) w (fun _ => True) := Per.true_
  have LW := Ext.refl (No) w
  have XLW : ∀ q9, (No) q9 → (No) q9 ∨ w.heap.size ≤ q9 := fun _ h => Or.inl h
  have E := Ext.refl (No) w
  refine cw_seq ?_
  refine cw_region ?_
  refine rs_op rfl (ow_assign rfl ?_)
  refine rs_op rfl (ow_assign rfl ?_)
  refine rs_nil ?_
  refine ew_next ?_
  refine cw_seq ?_
  refine cw_seq ?_
  refine cw_region ?_
  refine rs_op rfl (ow_move rfl ?_)
  refine rs_op rfl (ow_eql rfl rfl ?_)
  refine rs_nil ?_
  refine ew_next ?_
  refine cw_else rfl ?_
  refine cw_skip ?_
  refine ew_next ?_
  refine cw_seq ?_
  refine cw_seq ?_
  refine cw_region ?_
  refine rs_op rfl (ow_move rfl ?_)
  refine rs_op rfl (ow_move rfl ?_)
  refine rs_op rfl (ow_leq rfl rfl ?_)
  refine rs_nil ?_
  refine ew_next ?_
  refine cw_set 24 (.bool false) rfl ((by rw [decide_eq_false (by omega)] : (.bool (decide (2147483647 ≤ ((hi : Nat) : Int))) : Value) = _)) ?_
  refine cw_else rfl ?_
  refine cw_skip ?_
  refine ew_next ?_
  refine cw_seq ?_
  refine cw_seq ?_
  refine cw_region ?_
  refine rs_op rfl (ow_move rfl ?_)
  refine rs_op rfl (ow_eql rfl rfl ?_)
  refine rs_nil ?_
  refine ew_next ?_
  refine cw_cond rfl (fun h => ?_) (fun h => ?_)
  · have _way := True.intro
    have h := beq_iff_eq.1 h
    obtain rfl : hi = 0 := by omega
    refine cw_seq ?_
    have OY : ∀ q9, (Mut (outM [])) q9 → q9 < (World.drew w).heap.size → (No) q9 := fun k h _ => (Mut.none_) k h
    refine cw_drawn (No) Mut.none_ [] [] (fxAt [Fx.of (.int .u64 ((lo : Nat) : Int)),
        Fx.of (.int .u64 2147483647),
        Fx.of (.int .u64 ((lo / 2147483647 : Nat) : Int)),
        Fx.of (.int .u64 ((lo : Nat) : Int)),
        Fx.of (.int .u64 2147483647),
        Fx.of (.int .u64 ((lo % 2147483647 : Nat) : Int)),
        Fx.of (.int .u64 ((lo / 2147483647 : Nat) : Int)),
        Fx.of (.int .u64 ((lo % 2147483647 : Nat) : Int))]) mixed rfl trivial (fun _ h => by cases h) ?_ ?_
    · refine ⟨?_, ?_, ?_, ?_, ?_, ?_, ?_, ?_, trivial⟩
      · intro vs X wq K
        have LE := K.1
        have XN := K.2.1
        have SQ := Nat.le_trans LW.size (Nat.le_trans E.size LE.size)
        exact ow_move rfl ⟨Below.refl _ _, Left.of rfl⟩
      · intro vs X wq K
        have LE := K.1
        have XN := K.2.1
        have SQ := Nat.le_trans LW.size (Nat.le_trans E.size LE.size)
        exact ow_move rfl ⟨Below.refl _ _, Left.of rfl⟩
      · intro vs X wq K
        have LE := K.1
        have XN := K.2.1
        have SQ := Nat.le_trans LW.size (Nat.le_trans E.size LE.size)
        obtain ⟨_, e0, k0⟩ := K.dep 0 rfl rfl rfl
        refine ow_set 28 (.int .u64 ((lo : Nat) : Int)) rfl e0 ?_
        obtain ⟨_, e1, k1⟩ := K.dep 1 rfl rfl rfl
        refine ow_set 29 (.int .u64 2147483647) rfl e1 ?_
        exact ow_quo (z := ((lo / 2147483647 : Nat) : Int)) rfl rfl (by decide) (quo_nat (n := 2147483647) h2) ⟨Below.refl _ _, Left.of rfl⟩
      · intro vs X wq K
        have LE := K.1
        have XN := K.2.1
        have SQ := Nat.le_trans LW.size (Nat.le_trans E.size LE.size)
        exact ow_move rfl ⟨Below.refl _ _, Left.of rfl⟩
      · intro vs X wq K
        have LE := K.1
        have XN := K.2.1
        have SQ := Nat.le_trans LW.size (Nat.le_trans E.size LE.size)
        exact ow_move rfl ⟨Below.refl _ _, Left.of rfl⟩
      · intro vs X wq K
        have LE := K.1
        have XN := K.2.1
        have SQ := Nat.le_trans LW.size (Nat.le_trans E.size LE.size)
        obtain ⟨_, e3, k3⟩ := K.dep 3 rfl rfl rfl
        refine ow_set 31 (.int .u64 ((lo : Nat) : Int)) rfl e3 ?_
        obtain ⟨_, e4, k4⟩ := K.dep 4 rfl rfl rfl
        refine ow_set 32 (.int .u64 2147483647) rfl e4 ?_
        exact ow_rem (z := ((lo % 2147483647 : Nat) : Int)) rfl rfl (by decide) (tmod_nat lo 2147483647) ⟨Below.refl _ _, Left.of rfl⟩
      · intro vs X wq K
        have LE := K.1
        have XN := K.2.1
        have SQ := Nat.le_trans LW.size (Nat.le_trans E.size LE.size)
        obtain ⟨_, e2, k2⟩ := K.dep 2 rfl rfl rfl
        refine ow_set 30 (.int .u64 ((lo / 2147483647 : Nat) : Int)) rfl e2 ?_
        exact ow_assign rfl ⟨Below.refl _ _, Left.of rfl⟩
      · intro vs X wq K
        have LE := K.1
        have XN := K.2.1
        have SQ := Nat.le_trans LW.size (Nat.le_trans E.size LE.size)
        obtain ⟨_, e5, k5⟩ := K.dep 5 rfl rfl rfl
        refine ow_set 33 (.int .u64 ((lo % 2147483647 : Nat) : Int)) rfl e5 ?_
        exact ow_assign rfl ⟨Below.refl _ _, Left.of rfl⟩
    intro vs w1 LE AO AL AF AA
    replace E := E.drew.trans (LE.mono OY)
    obtain ⟨_, e6, k6⟩ := AL.2.2.2.2.2.2.1
    obtain ⟨_, e7, k7⟩ := AL.2.2.2.2.2.2.2.1
    refine ew_sub (τ := [(0, _), (1, _), (2, _), (6, .int .u64 ((lo / 2147483647 : Nat) : Int)), (7, .int .u64 ((lo % 2147483647 : Nat) : Int))]) ⟨rfl, rfl, rfl, congrArg some e6, congrArg some e7, trivial⟩ ?_
    clear AL AF AA LE AO OY e6 e7 k6 k7
    refine ew_next ?_
    refine cw_ret ?_
    refine ew_then_ret ?_
    refine ew_ret (rs := [.tmp 6, .tmp 7]) (vs := [_, _]) rfl ⟨rfl, rfl, trivial⟩ ?_
    exact ⟨by rw [Nat.zero_mul, Nat.zero_add]; rfl, (LW.step E XLW).toBelow⟩
  · have _way := True.intro
    refine cw_skip ?_
    refine ew_next ?_
    refine cw_seq ?_
    refine cw_region ?_
    refine rs_op rfl (ow_move rfl ?_)
    refine rs_op rfl (ow_enter en140 rfl ((rr140_2 _).mono ?_))
    rintro e w2 ⟨rfl, hb⟩
    refine ⟨_, rfl, ?_⟩
    have Ec := Ext.of_below hb No
    replace E := E.trans Ec.no
    clear hb Ec
    refine rs_op rfl (ow_conv (z := 33) Tryz.underlying104 Tryz.underlying3 rfl (by kernel_rfl) ?_)
    refine rs_op rfl (ow_assign rfl ?_)
    refine rs_nil ?_
    refine ew_next ?_
    refine cw_seq ?_
    refine cw_region ?_
    refine rs_op rfl (ow_move rfl ?_)
    refine rs_op rfl (ow_move rfl ?_)
    refine rs_op rfl (ow_shl (z := 18446744065119617024) rfl rfl (by decide) (by kernel_rfl) ?_)
    refine rs_op rfl (ow_assign rfl ?_)
    refine rs_nil ?_
    refine ew_next ?_
    refine cw_seq ?_
    refine cw_region ?_
    refine rs_op rfl (ow_move rfl ?_)
    refine rs_op rfl (ow_shr (z := 4294967294) rfl rfl (by decide) (by kernel_rfl) ?_)
    refine rs_op rfl (ow_assign rfl ?_)
    refine rs_nil ?_
    refine ew_next ?_
    refine cw_seq ?_
    refine cw_region ?_
    refine rs_op rfl (ow_move rfl ?_)
    refine rs_op rfl (ow_and (z := 0) rfl rfl (by kernel_rfl) ?_)
    refine rs_op rfl (ow_assign rfl ?_)
    refine rs_nil ?_
    refine ew_next ?_
    refine cw_seq ?_
    refine cw_region ?_
    refine rs_op rfl (ow_move rfl ?_)
    refine rs_op rfl (ow_move rfl ?_)
    refine rs_op rfl (ow_shl rfl rfl (by decide) (shl_nat hi 33 (by decide)) ?_)
    refine rs_set 46 (.int .u64 ((hi * 8589934592 : Nat) : Int)) rfl ((by rw [ehi] : (.int .u64 ((hi * 2 ^ 33 % 18446744073709551616 : Nat) : Int) : Value) = _)) ?_
    refine rs_op rfl (ow_move rfl ?_)
    refine rs_op rfl (ow_move rfl ?_)
    refine rs_op rfl (ow_sub (z := 31) rfl rfl (by kernel_rfl) ?_)
    refine rs_op rfl (ow_shr rfl rfl (by decide) (shr_nat lo 31 (by decide)) ?_)
    refine rs_set 50 (.int .u64 ((A : Nat) : Int)) rfl ((by rw [eA] : (.int .u64 ((lo / 2 ^ 31 : Nat) : Int) : Value) = _)) ?_
    refine rs_op rfl (ow_or rfl rfl (or_bits (by omega) (by omega)) ?_)
    refine rs_set 51 (.int .u64 ((U : Nat) : Int)) rfl ((by rw [eor] : (.int .u64 ((hi * 8589934592 ||| A : Nat) : Int) : Value) = _)) ?_
    refine rs_op rfl (ow_assign rfl ?_)
    refine rs_nil ?_
    refine ew_next ?_
    refine cw_seq ?_
    refine cw_region ?_
    refine rs_op rfl (ow_move rfl ?_)
    refine rs_op rfl (ow_move rfl ?_)
    refine rs_op rfl (ow_shl rfl rfl (by decide) (shl_nat lo 33 (by decide)) ?_)
    refine rs_set 54 (.int .u64 ((V : Nat) : Int)) rfl ((by rw [eV] : (.int .u64 ((lo * 2 ^ 33 % 18446744073709551616 : Nat) : Int) : Value) = _)) ?_
    refine rs_op rfl (ow_assign rfl ?_)
    refine rs_nil ?_
    refine ew_next ?_
    refine cw_seq ?_
    refine cw_region ?_
    refine rs_op rfl (ow_move rfl ?_)
    refine rs_op rfl (ow_shr rfl rfl (by decide) (shr_nat V 32 (by decide)) ?_)
    refine rs_set 56 (.int .u64 ((V1 : Nat) : Int)) rfl ((by rw [hV1] : (.int .u64 ((V / 2 ^ 32 : Nat) : Int) : Value) = _)) ?_
    refine rs_op rfl (ow_assign rfl ?_)
    refine rs_nil ?_
    refine ew_next ?_
    refine cw_seq ?_
    refine cw_region ?_
    refine rs_op rfl (ow_move rfl ?_)
    refine rs_op rfl (ow_and rfl rfl (and_bits (n := 4294967295) (by omega) (by decide)) ?_)
    refine rs_set 58 (.int .u64 ((V0 : Nat) : Int)) rfl ((by rw [show V &&& 4294967295 = V % 4294967296 from Nat.and_two_pow_sub_one_eq_mod V 32, hV0] : (.int .u64 ((V &&& 4294967295 : Nat) : Int) : Value) = _)) ?_
    refine rs_op rfl (ow_assign rfl ?_)
    refine rs_nil ?_
    refine ew_next ?_
    refine cw_seq ?_
    refine cw_region ?_
    refine rs_op rfl (ow_move rfl ?_)
    refine rs_op rfl (ow_move rfl ?_)
    refine rs_op rfl (ow_quo (z := ((U / 4294967294 : Nat) : Int)) rfl rfl (by decide) (quo_nat (n := 4294967294) bU) ?_)
    refine rs_set 61 (.int .u64 ((q1 : Nat) : Int)) rfl ((by rw [hq1] : (.int .u64 ((U / 4294967294 : Nat) : Int) : Value) = _)) ?_
    refine rs_op rfl (ow_assign rfl ?_)
    refine rs_nil ?_
    refine ew_next ?_
    refine cw_seq ?_
    refine cw_region ?_
    refine rs_op rfl (ow_move rfl ?_)
    refine rs_op rfl (ow_move rfl ?_)
    refine rs_op rfl (ow_move rfl ?_)
    refine rs_op rfl (ow_mul rfl rfl (wrap_u64 (by omega)) ?_)
    refine rs_op rfl (ow_sub rfl rfl (wrap_u64 (by omega)) ?_)
    refine rs_op rfl (ow_assign rfl ?_)
    refine rs_nil ?_
    refine ew_next ?_
    refine cw_seq ?_
    refine cw_block ?_
    refine cw_unroll ?_
    refine cw_seq ?_
    refine cw_seq ?_
    refine cw_region ?_
    refine rs_op rfl (ow_move rfl ?_)
    refine rs_op rfl (ow_geq rfl rfl ?_)
    refine rs_op rfl (ow_move rfl ?_)
    refine rs_set 16 (.int .u64 ((r1 : Nat) : Int)) rfl ((by congr 1; omega : (.int .u64 (((U : Nat) : Int) - (((q1 : Nat) : Int) * 4294967294)) : Value) = _)) ?_
    refine rs_set 69 (.bool false) rfl ((by rw [decide_eq_false (by omega)] : (.bool (decide (4294967296 ≤ ((q1 : Nat) : Int))) : Value) = _)) ?_
    refine rs_op rfl (ow_on rfl (ow_move rfl ?_))
    refine rs_op rfl (ow_on rfl (ow_move rfl ?_))
    refine rs_op rfl (ow_on rfl (ow_mul rfl rfl (wrap_u64 (by omega)) ?_))
    refine rs_op rfl (ow_on rfl (ow_move rfl ?_))
    refine rs_op rfl (ow_on rfl (ow_mul rfl rfl (wrap_u64 (by omega)) ?_))
    refine rs_op rfl (ow_on rfl (ow_move rfl ?_))
    refine rs_op rfl (ow_on rfl (ow_add rfl rfl (wrap_u64 (by omega)) ?_))
    refine rs_op rfl (ow_on rfl (ow_gtr rfl rfl ?_))
    refine rs_op rfl (ow_pickF rfl rfl ?_)
    refine rs_nil ?_
    refine ew_next ?_
    refine cw_set 78 (.bool false) rfl ((by rw [decide_eq_false (by omega)] : (.bool (decide (((4294967296 * ((r1 : Nat) : Int)) + ((V1 : Nat) : Int)) < (((q1 : Nat) : Int) * 0))) : Value) = _)) ?_
    refine cw_else rfl ?_
    refine cw_exit ?_
    refine ew_then_exit ?_
    refine ew_then_exit ?_
    refine ew_block_here ?_
    refine ew_next ?_
    refine cw_seq ?_
    refine cw_region ?_
    refine rs_op rfl (ow_move rfl ?_)
    refine rs_op rfl (ow_mul rfl rfl (mul_nat U 4294967296) ?_)
    refine rs_op rfl (ow_move rfl ?_)
    refine rs_op rfl (ow_add rfl rfl (add_nat _ V1) ?_)
    refine rs_op rfl (ow_move rfl ?_)
    refine rs_op rfl (ow_move rfl ?_)
    refine rs_op rfl (ow_mul rfl rfl (mul_nat q1 18446744065119617024) ?_)
    refine rs_op rfl (ow_sub (z := ((W : Nat) : Int)) rfl rfl (sub_nat bW (wrap_rest (m := 4294967296) (split_div hq1 hr1) hW rfl rfl)) ?_)
    refine rs_op rfl (ow_assign rfl ?_)
    refine rs_nil ?_
    refine ew_next ?_
    refine cw_seq ?_
    refine cw_region ?_
    refine rs_op rfl (ow_move rfl ?_)
    refine rs_op rfl (ow_move rfl ?_)
    refine rs_op rfl (ow_quo (z := ((W / 4294967294 : Nat) : Int)) rfl rfl (by decide) (quo_nat (n := 4294967294) bW) ?_)
    refine rs_set 96 (.int .u64 ((q0 : Nat) : Int)) rfl ((by rw [hq0] : (.int .u64 ((W / 4294967294 : Nat) : Int) : Value) = _)) ?_
    refine rs_op rfl (ow_assign rfl ?_)
    refine rs_nil ?_
    refine ew_next ?_
    refine cw_seq ?_
    refine cw_region ?_
    refine rs_op rfl (ow_move rfl ?_)
    refine rs_op rfl (ow_move rfl ?_)
    refine rs_op rfl (ow_move rfl ?_)
    refine rs_op rfl (ow_mul rfl rfl (wrap_u64 (by omega)) ?_)
    refine rs_op rfl (ow_sub rfl rfl (wrap_u64 (by omega)) ?_)
    refine rs_op rfl (ow_assign rfl ?_)
    refine rs_nil ?_
    refine ew_next ?_
    refine cw_seq ?_
    refine cw_block ?_
    refine cw_unroll ?_
    refine cw_seq ?_
    refine cw_seq ?_
    refine cw_region ?_
    refine rs_op rfl (ow_move rfl ?_)
    refine rs_op rfl (ow_geq rfl rfl ?_)
    refine rs_op rfl (ow_move rfl ?_)
    refine rs_set 16 (.int .u64 ((r0 : Nat) : Int)) rfl ((by congr 1; omega : (.int .u64 (((W : Nat) : Int) - (((q0 : Nat) : Int) * 4294967294)) : Value) = _)) ?_
    refine rs_set 104 (.bool false) rfl ((by rw [decide_eq_false (by omega)] : (.bool (decide (4294967296 ≤ ((q0 : Nat) : Int))) : Value) = _)) ?_
    refine rs_op rfl (ow_on rfl (ow_move rfl ?_))
    refine rs_op rfl (ow_on rfl (ow_move rfl ?_))
    refine rs_op rfl (ow_on rfl (ow_mul rfl rfl (wrap_u64 (by omega)) ?_))
    refine rs_op rfl (ow_on rfl (ow_move rfl ?_))
    refine rs_op rfl (ow_on rfl (ow_mul rfl rfl (wrap_u64 (by omega)) ?_))
    refine rs_op rfl (ow_on rfl (ow_move rfl ?_))
    refine rs_op rfl (ow_on rfl (ow_add rfl rfl (wrap_u64 (by omega)) ?_))
    refine rs_op rfl (ow_on rfl (ow_gtr rfl rfl ?_))
    refine rs_op rfl (ow_pickF rfl rfl ?_)
    refine rs_nil ?_
    refine ew_next ?_
    refine cw_set 113 (.bool false) rfl ((by rw [decide_eq_false (by omega)] : (.bool (decide (((4294967296 * ((r0 : Nat) : Int)) + ((V0 : Nat) : Int)) < (((q0 : Nat) : Int) * 0))) : Value) = _)) ?_
    refine cw_else rfl ?_
    refine cw_exit ?_
    refine ew_then_exit ?_
    refine ew_then_exit ?_
    refine ew_block_here ?_
    refine ew_next ?_
    refine cw_seq ?_
    refine cw_region ?_
    refine rs_op rfl (ow_move rfl ?_)
    refine rs_op rfl (ow_mul rfl rfl (wrap_u64 (by omega)) ?_)
    refine rs_op rfl (ow_move rfl ?_)
    refine rs_op rfl (ow_add rfl rfl (wrap_u64 (by omega)) ?_)
    refine rs_op rfl (ow_move rfl ?_)
    refine rs_set 124 (.int .u64 ((q1 * 4294967296 + q0 : Nat) : Int)) rfl ((by rw [Int.natCast_add, Int.natCast_mul]; rfl : (.int .u64 ((((q1 : Nat) : Int) * 4294967296) + ((q0 : Nat) : Int)) : Value) = _)) ?_
    refine rs_op rfl (ow_mul rfl rfl (mul_nat W 4294967296) ?_)
    refine rs_op rfl (ow_move rfl ?_)
    refine rs_op rfl (ow_add rfl rfl (add_nat _ V0) ?_)
    refine rs_op rfl (ow_move rfl ?_)
    refine rs_op rfl (ow_move rfl ?_)
    refine rs_op rfl (ow_mul rfl rfl (mul_nat q0 18446744065119617024) ?_)
    refine rs_op rfl (ow_sub (z := ((R * 8589934592 : Nat) : Int)) rfl rfl (sub_nat (Nat.lt_of_lt_of_le (Nat.mul_lt_mul_of_pos_right e2 (by decide)) (by decide)) (wrap_rest (m := 4294967296) (split_div hq0 hr0) e1.symm rfl rfl)) ?_)
    refine rs_op rfl (ow_move rfl ?_)
    refine rs_op rfl (ow_shr rfl rfl (by decide) (shr_nat (R * 8589934592) 33 (by decide)) ?_)
    refine rs_set 134 (.int .u64 ((R : Nat) : Int)) rfl ((by rw [show R * 8589934592 / 2 ^ 33 = R from Nat.mul_div_cancel R (show 0 < 8589934592 by decide)] : (.int .u64 ((R * 8589934592 / 2 ^ 33 : Nat) : Int) : Value) = _)) ?_
    refine rs_op rfl (ow_assign rfl ?_)
    refine rs_op rfl (ow_assign rfl ?_)
    refine rs_nil ?_
    refine ew_next ?_
    refine cw_ret ?_
    refine ew_ret (rs := [.tmp 6, .tmp 7]) (vs := [_, _]) rfl ⟨rfl, rfl, trivial⟩ ?_
    exact ⟨by rw [eR, eQ]; rfl, (LW.step E XLW).toBelow⟩
theorem rem64_any (hi lo : Nat) (h1 : hi < 18446744073709551616) (h2 : lo < 18446744073709551616) : Calls Tryz.prog 74 #[.int .u64 ((hi : Nat) : Int), .int .u64 ((lo : Nat) : Int), .int .u64 2147483647] w fun e w' => e = .returned (.int .u64 (((hi * 18446744073709551616 + lo) % 2147483647 : Nat) : Int)) ∧ Below w.heap.size w w' := by
  have e : (hi % 2147483647 * 18446744073709551616 + lo) % 2147483647 = (hi * 18446744073709551616 + lo) % 2147483647 := by omega
  have _ := h1
  refine calls_cw Tryz.func74 rfl Tryz.ntmps74 rfl ?_
  have HF : Per (No) w (fun _ => True) := Per.true_
  have LW := Ext.refl (No) w
  have XLW : ∀ q9, (No) q9 → (No) q9 ∨ w.heap.size ≤ q9 := fun _ h => Or.inl h
  have E := Ext.refl (No) w
  refine cw_seq ?_
  refine cw_region ?_
  refine rs_op rfl (ow_assign rfl ?_)
  refine rs_nil ?_
  refine ew_next ?_
  refine cw_seq ?_
  refine cw_region ?_
  refine rs_op rfl (ow_move rfl ?_)
  refine rs_op rfl (ow_move rfl ?_)
  refine rs_op rfl (ow_rem (z := ((hi % 2147483647 : Nat) : Int)) rfl rfl (by decide) (tmod_nat hi 2147483647) ?_)
  refine rs_op rfl (ow_move rfl ?_)
  refine rs_op rfl (ow_move rfl ?_)
  refine rs_op rfl (ow_enter en109 rfl ((div64_prime _ (hi % 2147483647) lo (Nat.mod_lt _ (by decide)) h2).mono ?_))
  rintro e w1 ⟨rfl, hb⟩
  refine ⟨_, rfl, ?_⟩
  have Ec := Ext.of_below hb No
  replace E := E.trans Ec.no
  clear hb Ec
  refine rs_op rfl (ow_move rfl ?_)
  refine rs_op rfl (ow_extract rfl rfl ?_)
  refine rs_op rfl (ow_extract rfl rfl ?_)
  refine rs_op rfl (ow_assign rfl ?_)
  refine rs_op rfl (ow_assign rfl ?_)
  refine rs_nil ?_
  refine ew_next ?_
  refine cw_seq ?_
  refine cw_region ?_
  refine rs_op rfl (ow_move rfl ?_)
  refine rs_op rfl (ow_assign rfl ?_)
  refine rs_nil ?_
  refine ew_next ?_
  refine cw_ret ?_
  refine ew_ret (rs := [.tmp 6]) (vs := [_]) rfl ⟨rfl, trivial⟩ ?_
  exact ⟨by rw [← e]; rfl, (LW.step E XLW).toBelow⟩
end
end Go.Proofs.YtljndllhmdpjlaaGreatDoor
namespace Go.Proofs.YtljndllhmdpjlaaGreatDoor
open Go.RowKit
set_option maxRecDepth 100000
theorem cc71_6 : Gives 71 #[.float .f64 13840687554816376832] (.float .f64 4617315517961601024) := by
  intro w
  refine calls_cw Tryz.func71 rfl Tryz.ntmps71 rfl ?_
  have HF : Per (No) w (fun _ => True) := Per.true_
  have LW := Ext.refl (No) w
  have XLW : ∀ q9, (No) q9 → (No) q9 ∨ w.heap.size ≤ q9 := fun _ h => Or.inl h
  have E := Ext.refl (No) w
  refine cw_seq ?_
  refine cw_region ?_
  refine rs_op rfl (ow_assign rfl ?_)
  refine rs_nil ?_
  refine ew_next ?_
  refine cw_seq ?_
  refine cw_region ?_
  refine rs_op rfl (ow_move rfl ?_)
  refine rs_op rfl (ow_bits ex59 rfl ?_)
  refine rs_op rfl (ow_andNot (z := 4617315517961601024) rfl rfl (by kernel_rfl) ?_)
  refine rs_op rfl (ow_frombits (b := 4617315517961601024) ex60 rfl ?_)
  refine rs_op rfl (ow_assign rfl ?_)
  refine rs_nil ?_
  refine ew_next ?_
  refine cw_ret ?_
  refine ew_ret (rs := [.tmp 2]) (vs := [.float .f64 4617315517961601024]) rfl ⟨rfl, trivial⟩ ?_
  exact ⟨rfl, (LW.step E XLW).toBelow⟩
theorem cc61_6 : Gives 61 #[.float .f64 13840687554816376832, .int .i64 0] (.bool false) := by
  intro w
  refine calls_cw Tryz.func61 rfl Tryz.ntmps61 rfl ?_
  have HF : Per (No) w (fun _ => True) := Per.true_
  have LW := Ext.refl (No) w
  have XLW : ∀ q9, (No) q9 → (No) q9 ∨ w.heap.size ≤ q9 := fun _ h => Or.inl h
  have E := Ext.refl (No) w
  refine cw_seq ?_
  refine cw_region ?_
  refine rs_op rfl (ow_assign rfl ?_)
  refine rs_nil ?_
  refine ew_next ?_
  refine cw_seq ?_
  refine cw_seq ?_
  refine cw_region ?_
  refine rs_op rfl (ow_move rfl ?_)
  refine rs_op rfl (ow_eql rfl rfl ?_)
  refine rs_nil ?_
  refine ew_next ?_
  refine cw_then rfl ?_
  refine cw_region ?_
  refine rs_op rfl (ow_move rfl ?_)
  refine rs_op rfl (ow_enter en71 rfl ((cc71_6 _).mono ?_))
  rintro e w1 ⟨rfl, hb⟩
  refine ⟨_, rfl, ?_⟩
  have Ec := Ext.of_below hb No
  replace E := E.trans Ec.no
  clear hb Ec
  refine rs_op rfl (ow_assign rfl ?_)
  refine rs_nil ?_
  refine ew_next ?_
  refine cw_seq ?_
  refine cw_region ?_
  refine rs_op rfl (ow_move rfl ?_)
  refine rs_op rfl (ow_fgtr rfl rfl ?_)
  refine rs_set 14 (.bool false) rfl (by kernel_rfl : (.bool (ford 4617315517961601024 9218868437227405311 == some .gt) : Value) = _) ?_
  refine rs_op rfl (ow_assign rfl ?_)
  refine rs_nil ?_
  refine ew_next ?_
  refine cw_ret ?_
  refine ew_ret (rs := [.tmp 4]) (vs := [.bool false]) rfl ⟨rfl, trivial⟩ ?_
  exact ⟨rfl, (LW.step E XLW).toBelow⟩
theorem cc138_7 : Gives 138 #[.float .f64 13840687554816376832] (.bool false) := by
  intro w
  refine calls_cw Tryz.func138 rfl Tryz.ntmps138 rfl ?_
  have HF : Per (No) w (fun _ => True) := Per.true_
  have LW := Ext.refl (No) w
  have XLW : ∀ q9, (No) q9 → (No) q9 ∨ w.heap.size ≤ q9 := fun _ h => Or.inl h
  have E := Ext.refl (No) w
  refine cw_seq ?_
  refine cw_region ?_
  refine rs_op rfl (ow_assign rfl ?_)
  refine rs_nil ?_
  refine ew_next ?_
  refine cw_seq ?_
  refine cw_region ?_
  refine rs_op rfl (ow_move rfl ?_)
  refine rs_op rfl (ow_move rfl ?_)
  refine rs_op rfl (ow_fneq rfl rfl ?_)
  refine rs_set 5 (.bool false) rfl (by kernel_rfl : (.bool (ford 13840687554816376832 13840687554816376832 != some .eq) : Value) = _) ?_
  refine rs_op rfl (ow_assign rfl ?_)
  refine rs_nil ?_
  refine ew_next ?_
  refine cw_ret ?_
  refine ew_ret (rs := [.tmp 2]) (vs := [.bool false]) rfl ⟨rfl, trivial⟩ ?_
  exact ⟨rfl, (LW.step E XLW).toBelow⟩
theorem cc138_8 : Gives 138 #[.float .f64 9218868437227405312] (.bool false) := by
  intro w
  refine calls_cw Tryz.func138 rfl Tryz.ntmps138 rfl ?_
  have HF : Per (No) w (fun _ => True) := Per.true_
  have LW := Ext.refl (No) w
  have XLW : ∀ q9, (No) q9 → (No) q9 ∨ w.heap.size ≤ q9 := fun _ h => Or.inl h
  have E := Ext.refl (No) w
  refine cw_seq ?_
  refine cw_region ?_
  refine rs_op rfl (ow_assign rfl ?_)
  refine rs_nil ?_
  refine ew_next ?_
  refine cw_seq ?_
  refine cw_region ?_
  refine rs_op rfl (ow_move rfl ?_)
  refine rs_op rfl (ow_move rfl ?_)
  refine rs_op rfl (ow_fneq rfl rfl ?_)
  refine rs_set 5 (.bool false) rfl (by kernel_rfl : (.bool (ford 9218868437227405312 9218868437227405312 != some .eq) : Value) = _) ?_
  refine rs_op rfl (ow_assign rfl ?_)
  refine rs_nil ?_
  refine ew_next ?_
  refine cw_ret ?_
  refine ew_ret (rs := [.tmp 2]) (vs := [.bool false]) rfl ⟨rfl, trivial⟩ ?_
  exact ⟨rfl, (LW.step E XLW).toBelow⟩
theorem cc71_9 : Gives 71 #[.float .f64 9218868437227405312] (.float .f64 9218868437227405312) := by
  intro w
  refine calls_cw Tryz.func71 rfl Tryz.ntmps71 rfl ?_
  have HF : Per (No) w (fun _ => True) := Per.true_
  have LW := Ext.refl (No) w
  have XLW : ∀ q9, (No) q9 → (No) q9 ∨ w.heap.size ≤ q9 := fun _ h => Or.inl h
  have E := Ext.refl (No) w
  refine cw_seq ?_
  refine cw_region ?_
  refine rs_op rfl (ow_assign rfl ?_)
  refine rs_nil ?_
  refine ew_next ?_
  refine cw_seq ?_
  refine cw_region ?_
  refine rs_op rfl (ow_move rfl ?_)
  refine rs_op rfl (ow_bits ex59 rfl ?_)
  refine rs_op rfl (ow_andNot (z := 9218868437227405312) rfl rfl (by kernel_rfl) ?_)
  refine rs_op rfl (ow_frombits (b := 9218868437227405312) ex60 rfl ?_)
  refine rs_op rfl (ow_assign rfl ?_)
  refine rs_nil ?_
  refine ew_next ?_
  refine cw_ret ?_
  refine ew_ret (rs := [.tmp 2]) (vs := [.float .f64 9218868437227405312]) rfl ⟨rfl, trivial⟩ ?_
  exact ⟨rfl, (LW.step E XLW).toBelow⟩
theorem cc61_12 : Gives 61 #[.float .f64 9218868437227405312, .int .i64 0] (.bool true) := by
  intro w
  refine calls_cw Tryz.func61 rfl Tryz.ntmps61 rfl ?_
  have HF : Per (No) w (fun _ => True) := Per.true_
  have LW := Ext.refl (No) w
  have XLW : ∀ q9, (No) q9 → (No) q9 ∨ w.heap.size ≤ q9 := fun _ h => Or.inl h
  have E := Ext.refl (No) w
  refine cw_seq ?_
  refine cw_region ?_
  refine rs_op rfl (ow_assign rfl ?_)
  refine rs_nil ?_
  refine ew_next ?_
  refine cw_seq ?_
  refine cw_seq ?_
  refine cw_region ?_
  refine rs_op rfl (ow_move rfl ?_)
  refine rs_op rfl (ow_eql rfl rfl ?_)
  refine rs_nil ?_
  refine ew_next ?_
  refine cw_then rfl ?_
  refine cw_region ?_
  refine rs_op rfl (ow_move rfl ?_)
  refine rs_op rfl (ow_enter en71 rfl ((cc71_9 _).mono ?_))
  rintro e w1 ⟨rfl, hb⟩
  refine ⟨_, rfl, ?_⟩
  have Ec := Ext.of_below hb No
  replace E := E.trans Ec.no
  clear hb Ec
  refine rs_op rfl (ow_assign rfl ?_)
  refine rs_nil ?_
  refine ew_next ?_
  refine cw_seq ?_
  refine cw_region ?_
  refine rs_op rfl (ow_move rfl ?_)
  refine rs_op rfl (ow_fgtr rfl rfl ?_)
  refine rs_set 14 (.bool true) rfl (by kernel_rfl : (.bool (ford 9218868437227405312 9218868437227405311 == some .gt) : Value) = _) ?_
  refine rs_op rfl (ow_assign rfl ?_)
  refine rs_nil ?_
  refine ew_next ?_
  refine cw_ret ?_
  refine ew_ret (rs := [.tmp 4]) (vs := [.bool true]) rfl ⟨rfl, trivial⟩ ?_
  exact ⟨rfl, (LW.step E XLW).toBelow⟩
theorem cc106_12 : Gives 106 #[.float .f64 9218868437227405312] (.tuple #[.float .f64 9218868437227405312, .int .i64 0]) := by
  intro w
  refine calls_cw Tryz.func106 rfl Tryz.ntmps106 rfl ?_
  have HF : Per (No) w (fun _ => True) := Per.true_
  have LW := Ext.refl (No) w
  have XLW : ∀ q9, (No) q9 → (No) q9 ∨ w.heap.size ≤ q9 := fun _ h => Or.inl h
  have E := Ext.refl (No) w
  refine cw_seq ?_
  refine cw_region ?_
  refine rs_op rfl (ow_assign rfl ?_)
  refine rs_op rfl (ow_assign rfl ?_)
  refine rs_nil ?_
  refine ew_next ?_
  refine cw_seq ?_
  refine cw_block ?_
  refine cw_seq ?_
  refine cw_region ?_
  refine rs_op rfl (ow_move rfl ?_)
  refine rs_op rfl (ow_feql rfl rfl ?_)
  refine rs_set 7 (.bool false) rfl (by kernel_rfl : (.bool (ford 9218868437227405312 0 == some .eq) : Value) = _) ?_
  refine rs_op rfl (ow_assign rfl ?_)
  refine rs_nil ?_
  refine ew_next ?_
  refine cw_else rfl ?_
  refine cw_seq ?_
  refine cw_region ?_
  refine rs_op rfl (ow_move rfl ?_)
  refine rs_op rfl (ow_enter en61 rfl ((cc61_12 _).mono ?_))
  rintro e w1 ⟨rfl, hb⟩
  refine ⟨_, rfl, ?_⟩
  have Ec := Ext.of_below hb No
  replace E := E.trans Ec.no
  clear hb Ec
  refine rs_op rfl (ow_move rfl ?_)
  refine rs_op rfl (ow_off rfl ?_)
  refine rs_op rfl (ow_off rfl ?_)
  refine rs_op rfl (ow_pickT rfl rfl ?_)
  refine rs_op rfl (ow_assign rfl ?_)
  refine rs_nil ?_
  refine ew_next ?_
  refine cw_then rfl ?_
  refine cw_seq ?_
  refine cw_region ?_
  refine rs_op rfl (ow_move rfl ?_)
  refine rs_op rfl (ow_assign rfl ?_)
  refine rs_op rfl (ow_assign rfl ?_)
  refine rs_nil ?_
  refine ew_next ?_
  refine cw_ret ?_
  refine ew_block_ret ?_
  refine ew_then_ret ?_
  refine ew_ret (rs := [.tmp 2, .tmp 3]) (vs := [.float .f64 9218868437227405312, .int .i64 0]) rfl ⟨rfl, rfl, trivial⟩ ?_
  exact ⟨rfl, (LW.step E XLW).toBelow⟩
theorem cc70_12 : Gives 70 #[.float .f64 9218868437227405312] (.tuple #[.float .f64 9218868437227405312, .int .i64 0]) := by
  intro w
  refine calls_cw Tryz.func70 rfl Tryz.ntmps70 rfl ?_
  have HF : Per (No) w (fun _ => True) := Per.true_
  have LW := Ext.refl (No) w
  have XLW : ∀ q9, (No) q9 → (No) q9 ∨ w.heap.size ≤ q9 := fun _ h => Or.inl h
  have E := Ext.refl (No) w
  refine cw_seq ?_
  refine cw_region ?_
  refine rs_op rfl (ow_assign rfl ?_)
  refine rs_op rfl (ow_assign rfl ?_)
  refine rs_nil ?_
  refine ew_next ?_
  refine cw_seq ?_
  refine cw_else rfl ?_
  refine cw_skip ?_
  refine ew_next ?_
  refine cw_seq ?_
  refine cw_region ?_
  refine rs_op rfl (ow_move rfl ?_)
  refine rs_op rfl (ow_enter en106 rfl ((cc106_12 _).mono ?_))
  rintro e w1 ⟨rfl, hb⟩
  refine ⟨_, rfl, ?_⟩
  have Ec := Ext.of_below hb No
  replace E := E.trans Ec.no
  clear hb Ec
  refine rs_op rfl (ow_extract rfl rfl ?_)
  refine rs_op rfl (ow_extract rfl rfl ?_)
  refine rs_op rfl (ow_assign rfl ?_)
  refine rs_op rfl (ow_assign rfl ?_)
  refine rs_nil ?_
  refine ew_next ?_
  refine cw_ret ?_
  refine ew_ret (rs := [.tmp 2, .tmp 3]) (vs := [.float .f64 9218868437227405312, .int .i64 0]) rfl ⟨rfl, rfl, trivial⟩ ?_
  exact ⟨rfl, (LW.step E XLW).toBelow⟩
theorem cc135_12 : Gives 135 #[.float .f64 13840687554816376832, .float .f64 9218868437227405312] (.float .f64 13840687554816376832) := by
  intro w
  refine calls_cw Tryz.func135 rfl Tryz.ntmps135 rfl ?_
  have HF : Per (No) w (fun _ => True) := Per.true_
  have LW := Ext.refl (No) w
  have XLW : ∀ q9, (No) q9 → (No) q9 ∨ w.heap.size ≤ q9 := fun _ h => Or.inl h
  have E := Ext.refl (No) w
  refine cw_seq ?_
  refine cw_region ?_
  refine rs_op rfl (ow_assign rfl ?_)
  refine rs_nil ?_
  refine ew_next ?_
  refine cw_seq ?_
  refine cw_seq ?_
  refine cw_region ?_
  refine rs_op rfl (ow_move rfl ?_)
  refine rs_op rfl (ow_feql rfl rfl ?_)
  refine rs_set 11 (.bool false) rfl (by kernel_rfl : (.bool (ford 9218868437227405312 0 == some .eq) : Value) = _) ?_
  refine rs_op rfl (ow_move rfl ?_)
  refine rs_op rfl (ow_on rfl (ow_move rfl ?_))
  refine rs_op rfl (ow_on rfl (ow_enter en61 rfl ((cc61_6 _).mono ?_)))
  rintro e w1 ⟨rfl, hb⟩
  refine ⟨_, rfl, ?_⟩
  have Ec := Ext.of_below hb No
  replace E := E.trans Ec.no
  clear hb Ec
  refine rs_op rfl (ow_pickF rfl rfl ?_)
  refine rs_op rfl (ow_move rfl ?_)
  refine rs_op rfl (ow_on rfl (ow_move rfl ?_))
  refine rs_op rfl (ow_on rfl (ow_enter en138 rfl ((cc138_7 _).mono ?_)))
  rintro e w2 ⟨rfl, hb⟩
  refine ⟨_, rfl, ?_⟩
  have Ec := Ext.of_below hb No
  replace E := E.trans Ec.no
  clear hb Ec
  refine rs_op rfl (ow_pickF rfl rfl ?_)
  refine rs_op rfl (ow_move rfl ?_)
  refine rs_op rfl (ow_on rfl (ow_move rfl ?_))
  refine rs_op rfl (ow_on rfl (ow_enter en138 rfl ((cc138_8 _).mono ?_)))
  rintro e w3 ⟨rfl, hb⟩
  refine ⟨_, rfl, ?_⟩
  have Ec := Ext.of_below hb No
  replace E := E.trans Ec.no
  clear hb Ec
  refine rs_op rfl (ow_pickF rfl rfl ?_)
  refine rs_nil ?_
  refine ew_next ?_
  refine cw_else rfl ?_
  refine cw_skip ?_
  refine ew_next ?_
  refine cw_seq ?_
  refine cw_region ?_
  refine rs_op rfl (ow_move rfl ?_)
  refine rs_op rfl (ow_enter en71 rfl ((cc71_9 _).mono ?_))
  rintro e w4 ⟨rfl, hb⟩
  refine ⟨_, rfl, ?_⟩
  have Ec := Ext.of_below hb No
  replace E := E.trans Ec.no
  clear hb Ec
  refine rs_op rfl (ow_assign rfl ?_)
  refine rs_nil ?_
  refine ew_next ?_
  refine cw_seq ?_
  refine cw_region ?_
  refine rs_op rfl (ow_move rfl ?_)
  refine rs_op rfl (ow_enter en70 rfl ((cc70_12 _).mono ?_))
  rintro e w5 ⟨rfl, hb⟩
  refine ⟨_, rfl, ?_⟩
  have Ec := Ext.of_below hb No
  replace E := E.trans Ec.no
  clear hb Ec
  refine rs_op rfl (ow_move rfl ?_)
  refine rs_op rfl (ow_extract rfl rfl ?_)
  refine rs_op rfl (ow_extract rfl rfl ?_)
  refine rs_op rfl (ow_assign rfl ?_)
  refine rs_op rfl (ow_assign rfl ?_)
  refine rs_nil ?_
  refine ew_next ?_
  refine cw_seq ?_
  refine cw_region ?_
  refine rs_op rfl (ow_move rfl ?_)
  refine rs_op rfl (ow_assign rfl ?_)
  refine rs_nil ?_
  refine ew_next ?_
  refine cw_seq ?_
  refine cw_seq ?_
  refine cw_region ?_
  refine rs_op rfl (ow_move rfl ?_)
  refine rs_op rfl (ow_flss rfl rfl ?_)
  refine rs_set 34 (.bool true) rfl (by kernel_rfl : (.bool (ford 13840687554816376832 0 == some .lt) : Value) = _) ?_
  refine rs_nil ?_
  refine ew_next ?_
  refine cw_then rfl ?_
  refine cw_region ?_
  refine rs_op rfl (ow_move rfl ?_)
  refine rs_op rfl (ow_fneg rfl ?_)
  refine rs_set 36 (.float .f64 4617315517961601024) rfl (by kernel_rfl : (.float .f64 (13840687554816376832 ^^^ 9223372036854775808) : Value) = _) ?_
  refine rs_op rfl (ow_assign rfl ?_)
  refine rs_nil ?_
  refine ew_next ?_
  refine cw_seq ?_
  refine cw_block ?_
  refine cw_unroll ?_
  refine cw_seq ?_
  refine cw_seq ?_
  refine cw_region ?_
  refine rs_op rfl (ow_move rfl ?_)
  refine rs_op rfl (ow_move rfl ?_)
  refine rs_op rfl (ow_fgeq rfl rfl ?_)
  refine rs_set 39 (.bool false) rfl (by kernel_rfl : (.bool (ford 4617315517961601024 9218868437227405312 == some .gt || ford 4617315517961601024 9218868437227405312 == some .eq) : Value) = _) ?_
  refine rs_nil ?_
  refine ew_next ?_
  refine cw_else rfl ?_
  refine cw_exit ?_
  refine ew_then_exit ?_
  refine ew_then_exit ?_
  refine ew_block_here ?_
  refine ew_next ?_
  refine cw_seq ?_
  refine cw_seq ?_
  refine cw_region ?_
  refine rs_op rfl (ow_move rfl ?_)
  refine rs_op rfl (ow_flss rfl rfl ?_)
  refine rs_set 58 (.bool true) rfl (by kernel_rfl : (.bool (ford 13840687554816376832 0 == some .lt) : Value) = _) ?_
  refine rs_nil ?_
  refine ew_next ?_
  refine cw_then rfl ?_
  refine cw_region ?_
  refine rs_op rfl (ow_move rfl ?_)
  refine rs_op rfl (ow_fneg rfl ?_)
  refine rs_set 60 (.float .f64 13840687554816376832) rfl (by kernel_rfl : (.float .f64 (4617315517961601024 ^^^ 9223372036854775808) : Value) = _) ?_
  refine rs_op rfl (ow_assign rfl ?_)
  refine rs_nil ?_
  refine ew_next ?_
  refine cw_seq ?_
  refine cw_region ?_
  refine rs_op rfl (ow_move rfl ?_)
  refine rs_op rfl (ow_assign rfl ?_)
  refine rs_nil ?_
  refine ew_next ?_
  refine cw_ret ?_
  refine ew_ret (rs := [.tmp 4]) (vs := [.float .f64 13840687554816376832]) rfl ⟨rfl, trivial⟩ ?_
  exact ⟨rfl, (LW.step E XLW).toBelow⟩
theorem cc102_12 : Gives 102 #[.float .f64 13840687554816376832, .float .f64 9218868437227405312] (.float .f64 13840687554816376832) := by
  intro w
  refine calls_cw Tryz.func102 rfl Tryz.ntmps102 rfl ?_
  have HF : Per (No) w (fun _ => True) := Per.true_
  have LW := Ext.refl (No) w
  have XLW : ∀ q9, (No) q9 → (No) q9 ∨ w.heap.size ≤ q9 := fun _ h => Or.inl h
  have E := Ext.refl (No) w
  refine cw_seq ?_
  refine cw_region ?_
  refine rs_op rfl (ow_assign rfl ?_)
  refine rs_nil ?_
  refine ew_next ?_
  refine cw_seq ?_
  refine cw_else rfl ?_
  refine cw_skip ?_
  refine ew_next ?_
  refine cw_seq ?_
  refine cw_region ?_
  refine rs_op rfl (ow_move rfl ?_)
  refine rs_op rfl (ow_move rfl ?_)
  refine rs_op rfl (ow_enter en135 rfl ((cc135_12 _).mono ?_))
  rintro e w1 ⟨rfl, hb⟩
  refine ⟨_, rfl, ?_⟩
  have Ec := Ext.of_below hb No
  replace E := E.trans Ec.no
  clear hb Ec
  refine rs_op rfl (ow_assign rfl ?_)
  refine rs_nil ?_
  refine ew_next ?_
  refine cw_ret ?_
  refine ew_ret (rs := [.tmp 4]) (vs := [.float .f64 13840687554816376832]) rfl ⟨rfl, trivial⟩ ?_
  exact ⟨rfl, (LW.step E XLW).toBelow⟩
theorem cc103_13 : Gives 103 #[.float .f64 13830554455654793216] (.float .f64 13830554455654793216) := by
  intro w
  refine calls_cw Tryz.func103 rfl Tryz.ntmps103 rfl ?_
  have HF : Per (No) w (fun _ => True) := Per.true_
  have LW := Ext.refl (No) w
  have XLW : ∀ q9, (No) q9 → (No) q9 ∨ w.heap.size ≤ q9 := fun _ h => Or.inl h
  have E := Ext.refl (No) w
  refine cw_seq ?_
  refine cw_region ?_
  refine rs_op rfl (ow_assign rfl ?_)
  refine rs_nil ?_
  refine ew_next ?_
  refine cw_seq ?_
  refine cw_then rfl ?_
  refine cw_seq ?_
  refine cw_region ?_
  refine rs_op rfl (ow_move rfl ?_)
  refine rs_op rfl (ow_round ex136 rfl (by kernel_rfl) ?_)
  refine rs_set 4 (.float .f64 13830554455654793216) rfl (by kernel_rfl : (.float .f64 (fround .down 13830554455654793216) : Value) = _) ?_
  refine rs_op rfl (ow_assign rfl ?_)
  refine rs_nil ?_
  refine ew_next ?_
  refine cw_ret ?_
  refine ew_then_ret ?_
  refine ew_ret (rs := [.tmp 2]) (vs := [.float .f64 13830554455654793216]) rfl ⟨rfl, trivial⟩ ?_
  exact ⟨rfl, (LW.step E XLW).toBelow⟩
theorem cc66_13 : Gives 66 #[.float .f64 13840687554816376832, .float .f64 9218868437227405312] (.tuple #[.float .f64 13830554455654793216, .float .f64 9218868437227405312]) := by
  intro w
  refine calls_cw Tryz.func66 rfl Tryz.ntmps66 rfl ?_
  have HF : Per (No) w (fun _ => True) := Per.true_
  have LW := Ext.refl (No) w
  have XLW : ∀ q9, (No) q9 → (No) q9 ∨ w.heap.size ≤ q9 := fun _ h => Or.inl h
  have E := Ext.refl (No) w
  refine cw_seq ?_
  refine cw_region ?_
  refine rs_op rfl (ow_assign rfl ?_)
  refine rs_op rfl (ow_assign rfl ?_)
  refine rs_nil ?_
  refine ew_next ?_
  refine cw_seq ?_
  refine cw_region ?_
  refine rs_op rfl (ow_move rfl ?_)
  refine rs_op rfl (ow_move rfl ?_)
  refine rs_op rfl (ow_enter en102 rfl ((cc102_12 _).mono ?_))
  rintro e w1 ⟨rfl, hb⟩
  refine ⟨_, rfl, ?_⟩
  have Ec := Ext.of_below hb No
  replace E := E.trans Ec.no
  clear hb Ec
  refine rs_op rfl (ow_assign rfl ?_)
  refine rs_nil ?_
  refine ew_next ?_
  refine cw_seq ?_
  refine cw_region ?_
  refine rs_op rfl (ow_move rfl ?_)
  refine rs_op rfl (ow_move rfl ?_)
  refine rs_op rfl (ow_fV (z := 0) (.inr (.inl rfl)) rfl rfl (by kernel_rfl) ?_)
  refine rs_op rfl (ow_move rfl ?_)
  refine rs_op rfl (ow_fV (z := 0) (.inr (.inr (.inr rfl))) rfl rfl (by kernel_rfl) ?_)
  refine rs_op rfl (ow_assign rfl ?_)
  refine rs_nil ?_
  refine ew_next ?_
  refine cw_seq ?_
  refine cw_seq ?_
  refine cw_region ?_
  refine rs_op rfl (ow_move rfl ?_)
  refine rs_op rfl (ow_fneq rfl rfl ?_)
  refine rs_set 18 (.bool true) rfl (by kernel_rfl : (.bool (ford 13840687554816376832 0 != some .eq) : Value) = _) ?_
  refine rs_nil ?_
  refine ew_next ?_
  refine cw_then rfl ?_
  refine cw_seq ?_
  refine cw_region ?_
  refine rs_op rfl (ow_move rfl ?_)
  refine rs_op rfl (ow_flss rfl rfl ?_)
  refine rs_set 20 (.bool true) rfl (by kernel_rfl : (.bool (ford 13840687554816376832 0 == some .lt) : Value) = _) ?_
  refine rs_op rfl (ow_move rfl ?_)
  refine rs_op rfl (ow_flss rfl rfl ?_)
  refine rs_set 22 (.bool false) rfl (by kernel_rfl : (.bool (ford 9218868437227405312 0 == some .lt) : Value) = _) ?_
  refine rs_op rfl (ow_neqB Tryz.underlying4 rfl rfl ?_)
  refine rs_nil ?_
  refine ew_next ?_
  refine cw_then rfl ?_
  refine cw_seq ?_
  refine cw_region ?_
  refine rs_op rfl (ow_move rfl ?_)
  refine rs_op rfl (ow_move rfl ?_)
  refine rs_op rfl (ow_fV (z := 9218868437227405312) (.inl rfl) rfl rfl (by kernel_rfl) ?_)
  refine rs_op rfl (ow_assign rfl ?_)
  refine rs_nil ?_
  refine ew_next ?_
  refine cw_region ?_
  refine rs_op rfl (ow_move rfl ?_)
  refine rs_op rfl (ow_fV (z := 13830554455654793216) (.inr (.inl rfl)) rfl rfl (by kernel_rfl) ?_)
  refine rs_op rfl (ow_assign rfl ?_)
  refine rs_nil ?_
  refine ew_next ?_
  refine cw_seq ?_
  refine cw_seq ?_
  refine cw_region ?_
  refine rs_op rfl (ow_move rfl ?_)
  refine rs_op rfl (ow_feql rfl rfl ?_)
  refine rs_set 32 (.bool false) rfl (by kernel_rfl : (.bool (ford 13830554455654793216 0 == some .eq) : Value) = _) ?_
  refine rs_nil ?_
  refine ew_next ?_
  refine cw_else rfl ?_
  refine cw_skip ?_
  refine ew_next ?_
  refine cw_seq ?_
  refine cw_region ?_
  refine rs_op rfl (ow_move rfl ?_)
  refine rs_op rfl (ow_enter en103 rfl ((cc103_13 _).mono ?_))
  rintro e w2 ⟨rfl, hb⟩
  refine ⟨_, rfl, ?_⟩
  have Ec := Ext.of_below hb No
  replace E := E.trans Ec.no
  clear hb Ec
  refine rs_op rfl (ow_assign rfl ?_)
  refine rs_nil ?_
  refine ew_next ?_
  refine cw_seq ?_
  refine cw_seq ?_
  refine cw_region ?_
  refine rs_op rfl (ow_move rfl ?_)
  refine rs_op rfl (ow_move rfl ?_)
  refine rs_op rfl (ow_fV (z := 0) (.inr (.inl rfl)) rfl rfl (by kernel_rfl) ?_)
  refine rs_op rfl (ow_fgtr rfl rfl ?_)
  refine rs_set 43 (.bool false) rfl (by kernel_rfl : (.bool (ford 0 4602678819172646912 == some .gt) : Value) = _) ?_
  refine rs_nil ?_
  refine ew_next ?_
  refine cw_else rfl ?_
  refine cw_skip ?_
  refine ew_next ?_
  refine cw_seq ?_
  refine cw_region ?_
  refine rs_op rfl (ow_move rfl ?_)
  refine rs_op rfl (ow_move rfl ?_)
  refine rs_op rfl (ow_assign rfl ?_)
  refine rs_op rfl (ow_assign rfl ?_)
  refine rs_nil ?_
  refine ew_next ?_
  refine cw_ret ?_
  refine ew_ret (rs := [.tmp 4, .tmp 5]) (vs := [.float .f64 13830554455654793216, .float .f64 9218868437227405312]) rfl ⟨rfl, rfl, trivial⟩ ?_
  exact ⟨rfl, (LW.step E XLW).toBelow⟩
theorem cc57_14 : Gives 57 #[.float .f64 9218868437227405312] (.int .u64 9218868437227405312) := by
  intro w
  refine calls_cw Tryz.func57 rfl Tryz.ntmps57 rfl ?_
  have HF : Per (No) w (fun _ => True) := Per.true_
  have LW := Ext.refl (No) w
  have XLW : ∀ q9, (No) q9 → (No) q9 ∨ w.heap.size ≤ q9 := fun _ h => Or.inl h
  have E := Ext.refl (No) w
  refine cw_seq ?_
  refine cw_region ?_
  refine rs_op rfl (ow_assign rfl ?_)
  refine rs_nil ?_
  refine ew_next ?_
  refine cw_seq ?_
  refine cw_seq ?_
  refine cw_region ?_
  refine rs_op rfl (ow_move rfl ?_)
  refine rs_op rfl (ow_move rfl ?_)
  refine rs_op rfl (ow_fneq rfl rfl ?_)
  refine rs_set 5 (.bool false) rfl (by kernel_rfl : (.bool (ford 9218868437227405312 9218868437227405312 != some .eq) : Value) = _) ?_
  refine rs_nil ?_
  refine ew_next ?_
  refine cw_else rfl ?_
  refine cw_skip ?_
  refine ew_next ?_
  refine cw_seq ?_
  refine cw_region ?_
  refine rs_op rfl (ow_move rfl ?_)
  refine rs_op rfl (ow_bits ex59 rfl ?_)
  refine rs_op rfl (ow_assign rfl ?_)
  refine rs_nil ?_
  refine ew_next ?_
  refine cw_ret ?_
  refine ew_ret (rs := [.tmp 2]) (vs := [.int .u64 9218868437227405312]) rfl ⟨rfl, trivial⟩ ?_
  exact ⟨rfl, (LW.step E XLW).toBelow⟩
theorem cc21_14 : Gives 21 #[.int .u64 13840687554816376832, .int .u64 9218868437227405312] (.tuple #[.int .u64 9218868437227405312, .int .i64 0]) := by
  intro w
  refine calls_cw Tryz.func21 rfl Tryz.ntmps21 rfl ?_
  have HF : Per (No) w (fun _ => True) := Per.true_
  have LW := Ext.refl (No) w
  have XLW : ∀ q9, (No) q9 → (No) q9 ∨ w.heap.size ≤ q9 := fun _ h => Or.inl h
  have E := Ext.refl (No) w
  refine cw_seq ?_
  refine cw_region ?_
  refine rs_op rfl (ow_assign rfl ?_)
  refine rs_op rfl (ow_assign rfl ?_)
  refine rs_nil ?_
  refine ew_next ?_
  refine cw_seq ?_
  refine cw_region ?_
  refine rs_op rfl (ow_move rfl ?_)
  refine rs_op rfl (ow_frombits (b := 9218868437227405312) ex60 rfl ?_)
  refine rs_op rfl (ow_assign rfl ?_)
  refine rs_nil ?_
  refine ew_next ?_
  refine cw_seq ?_
  refine cw_seq ?_
  refine cw_region ?_
  refine rs_op rfl (ow_move rfl ?_)
  refine rs_op rfl (ow_feql rfl rfl ?_)
  refine rs_set 12 (.bool false) rfl (by kernel_rfl : (.bool (ford 9218868437227405312 0 == some .eq) : Value) = _) ?_
  refine rs_nil ?_
  refine ew_next ?_
  refine cw_else rfl ?_
  refine cw_skip ?_
  refine ew_next ?_
  refine cw_seq ?_
  refine cw_region ?_
  refine rs_op rfl (ow_move rfl ?_)
  refine rs_op rfl (ow_frombits (b := 13840687554816376832) ex60 rfl ?_)
  refine rs_op rfl (ow_move rfl ?_)
  refine rs_op rfl (ow_enter en66 rfl ((cc66_13 _).mono ?_))
  rintro e w1 ⟨rfl, hb⟩
  refine ⟨_, rfl, ?_⟩
  have Ec := Ext.of_below hb No
  replace E := E.trans Ec.no
  clear hb Ec
  refine rs_op rfl (ow_move rfl ?_)
  refine rs_op rfl (ow_extract rfl rfl ?_)
  refine rs_op rfl (ow_extract rfl rfl ?_)
  refine rs_op rfl (ow_assign rfl ?_)
  refine rs_op rfl (ow_assign rfl ?_)
  refine rs_nil ?_
  refine ew_next ?_
  refine cw_seq ?_
  refine cw_region ?_
  refine rs_op rfl (ow_move rfl ?_)
  refine rs_op rfl (ow_enter en57 rfl ((cc57_14 _).mono ?_))
  rintro e w2 ⟨rfl, hb⟩
  refine ⟨_, rfl, ?_⟩
  have Ec := Ext.of_below hb No
  replace E := E.trans Ec.no
  clear hb Ec
  refine rs_op rfl (ow_assign rfl ?_)
  refine rs_op rfl (ow_assign rfl ?_)
  refine rs_nil ?_
  refine ew_next ?_
  refine cw_ret ?_
  refine ew_ret (rs := [.tmp 4, .tmp 5]) (vs := [.int .u64 9218868437227405312, .int .i64 0]) rfl ⟨rfl, rfl, trivial⟩ ?_
  exact ⟨rfl, (LW.step E XLW).toBelow⟩
theorem cc123_18 : Gives 123 #[.string ⟨#[45, 110, 97, 110]⟩, .string ⟨#[45]⟩] (.bool true) := by
  intro w
  refine calls_cw Tryz.func123 rfl Tryz.ntmps123 rfl ?_
  have HF : Per (No) w (fun _ => True) := Per.true_
  have LW := Ext.refl (No) w
  have XLW : ∀ q9, (No) q9 → (No) q9 ∨ w.heap.size ≤ q9 := fun _ h => Or.inl h
  have E := Ext.refl (No) w
  refine cw_seq ?_
  refine cw_region ?_
  refine rs_op rfl (ow_assign rfl ?_)
  refine rs_nil ?_
  refine ew_next ?_
  refine cw_seq ?_
  refine cw_region ?_
  refine rs_op rfl (ow_move rfl ?_)
  refine rs_op rfl (ow_lenS Tryz.underlying9 rfl ?_)
  refine rs_op rfl (ow_move rfl ?_)
  refine rs_op rfl (ow_lenS Tryz.underlying9 rfl ?_)
  refine rs_op rfl (ow_geq rfl rfl ?_)
  refine rs_op rfl (ow_move rfl ?_)
  refine rs_op rfl (ow_on rfl (ow_move rfl ?_))
  refine rs_op rfl (ow_on rfl (ow_move rfl ?_))
  refine rs_op rfl (ow_on rfl (ow_lenS Tryz.underlying9 rfl ?_))
  refine rs_op rfl (ow_on rfl (ow_sliceS (l := 0) (h := 1) Tryz.underlying9 rfl rfl ⟨_, rfl⟩ (by decide) (by decide) ?_))
  refine rs_set 14 (.string ⟨#[45]⟩) rfl (by kernel_rfl : (.string ((⟨#[45, 110, 97, 110]⟩ : ByteArray).extract 0 1) : Value) = _) ?_
  refine rs_op rfl (ow_on rfl (ow_move rfl ?_))
  refine rs_op rfl (ow_on rfl (ow_eqlS rfl rfl ?_))
  refine rs_set 16 (.bool true) rfl (by simp only [bytes_list]; rfl : (.bool ((⟨#[45]⟩ : ByteArray).toList == (⟨#[45]⟩ : ByteArray).toList) : Value) = _) ?_
  refine rs_op rfl (ow_pickT rfl rfl ?_)
  refine rs_op rfl (ow_assign rfl ?_)
  refine rs_nil ?_
  refine ew_next ?_
  refine cw_ret ?_
  refine ew_ret (rs := [.tmp 4]) (vs := [.bool true]) rfl ⟨rfl, trivial⟩ ?_
  exact ⟨rfl, (LW.step E XLW).toBelow⟩
theorem cc92_18 : Gives 92 #[.string ⟨#[45, 110, 97, 110]⟩, .string ⟨#[45]⟩] (.tuple #[.string ⟨#[110, 97, 110]⟩, .bool true]) := by
  intro w
  refine calls_cw Tryz.func92 rfl Tryz.ntmps92 rfl ?_
  have HF : Per (No) w (fun _ => True) := Per.true_
  have LW := Ext.refl (No) w
  have XLW : ∀ q9, (No) q9 → (No) q9 ∨ w.heap.size ≤ q9 := fun _ h => Or.inl h
  have E := Ext.refl (No) w
  refine cw_seq ?_
  refine cw_region ?_
  refine rs_op rfl (ow_assign rfl ?_)
  refine rs_op rfl (ow_assign rfl ?_)
  refine rs_nil ?_
  refine ew_next ?_
  refine cw_seq ?_
  refine cw_seq ?_
  refine cw_region ?_
  refine rs_op rfl (ow_move rfl ?_)
  refine rs_op rfl (ow_move rfl ?_)
  refine rs_op rfl (ow_enter en123 rfl ((cc123_18 _).mono ?_))
  rintro e w1 ⟨rfl, hb⟩
  refine ⟨_, rfl, ?_⟩
  have Ec := Ext.of_below hb No
  replace E := E.trans Ec.no
  clear hb Ec
  refine rs_op rfl (ow_not rfl ?_)
  refine rs_nil ?_
  refine ew_next ?_
  refine cw_else rfl ?_
  refine cw_skip ?_
  refine ew_next ?_
  refine cw_seq ?_
  refine cw_region ?_
  refine rs_op rfl (ow_move rfl ?_)
  refine rs_op rfl (ow_move rfl ?_)
  refine rs_op rfl (ow_lenS Tryz.underlying9 rfl ?_)
  refine rs_op rfl (ow_sliceS (l := 1) (h := 4) Tryz.underlying9 rfl ⟨_, rfl⟩ rfl (by decide) (by decide) ?_)
  refine rs_set 14 (.string ⟨#[110, 97, 110]⟩) rfl (by kernel_rfl : (.string ((⟨#[45, 110, 97, 110]⟩ : ByteArray).extract 1 4) : Value) = _) ?_
  refine rs_op rfl (ow_assign rfl ?_)
  refine rs_op rfl (ow_assign rfl ?_)
  refine rs_nil ?_
  refine ew_next ?_
  refine cw_ret ?_
  refine ew_ret (rs := [.tmp 4, .tmp 5]) (vs := [.string ⟨#[110, 97, 110]⟩, .bool true]) rfl ⟨rfl, rfl, trivial⟩ ?_
  exact ⟨rfl, (LW.step E XLW).toBelow⟩
theorem cc52_18 : Gives 52 #[.string ⟨#[45, 110, 97, 110]⟩, .string ⟨#[45]⟩] (.tuple #[.string ⟨#[110, 97, 110]⟩, .bool true]) := by
  intro w
  refine calls_cw Tryz.func52 rfl Tryz.ntmps52 rfl ?_
  have HF : Per (No) w (fun _ => True) := Per.true_
  have LW := Ext.refl (No) w
  have XLW : ∀ q9, (No) q9 → (No) q9 ∨ w.heap.size ≤ q9 := fun _ h => Or.inl h
  have E := Ext.refl (No) w
  refine cw_seq ?_
  refine cw_region ?_
  refine rs_op rfl (ow_assign rfl ?_)
  refine rs_op rfl (ow_assign rfl ?_)
  refine rs_nil ?_
  refine ew_next ?_
  refine cw_seq ?_
  refine cw_region ?_
  refine rs_op rfl (ow_move rfl ?_)
  refine rs_op rfl (ow_move rfl ?_)
  refine rs_op rfl (ow_enter en92 rfl ((cc92_18 _).mono ?_))
  rintro e w1 ⟨rfl, hb⟩
  refine ⟨_, rfl, ?_⟩
  have Ec := Ext.of_below hb No
  replace E := E.trans Ec.no
  clear hb Ec
  refine rs_op rfl (ow_extract rfl rfl ?_)
  refine rs_op rfl (ow_extract rfl rfl ?_)
  refine rs_op rfl (ow_assign rfl ?_)
  refine rs_op rfl (ow_assign rfl ?_)
  refine rs_nil ?_
  refine ew_next ?_
  refine cw_ret ?_
  refine ew_ret (rs := [.tmp 4, .tmp 5]) (vs := [.string ⟨#[110, 97, 110]⟩, .bool true]) rfl ⟨rfl, rfl, trivial⟩ ?_
  exact ⟨rfl, (LW.step E XLW).toBelow⟩
theorem cc14_18 : Gives 14 #[.string ⟨#[45, 110, 97, 110]⟩] (.tuple #[.int .u64 9221120237041090560, .int .i64 0]) := by
  intro w
  refine calls_cw Tryz.func14 rfl Tryz.ntmps14 rfl ?_
  have HF : Per (No) w (fun _ => True) := Per.true_
  have LW := Ext.refl (No) w
  have XLW : ∀ q9, (No) q9 → (No) q9 ∨ w.heap.size ≤ q9 := fun _ h => Or.inl h
  have E := Ext.refl (No) w
  refine cw_seq ?_
  refine cw_region ?_
  refine rs_op rfl (ow_assign rfl ?_)
  refine rs_op rfl (ow_assign rfl ?_)
  refine rs_nil ?_
  refine ew_next ?_
  refine cw_seq ?_
  refine cw_seq ?_
  refine cw_region ?_
  refine rs_op rfl (ow_move rfl ?_)
  refine rs_op rfl (ow_lenS Tryz.underlying9 rfl ?_)
  refine rs_op rfl (ow_gtr rfl rfl ?_)
  refine rs_nil ?_
  refine ew_next ?_
  refine cw_else rfl ?_
  refine cw_skip ?_
  refine ew_next ?_
  refine cw_seq ?_
  refine cw_region ?_
  refine rs_op rfl (ow_move rfl ?_)
  refine rs_op rfl (ow_enter en52 rfl ((cc52_18 _).mono ?_))
  rintro e w1 ⟨rfl, hb⟩
  refine ⟨_, rfl, ?_⟩
  have Ec := Ext.of_below hb No
  replace E := E.trans Ec.no
  clear hb Ec
  refine rs_op rfl (ow_move rfl ?_)
  refine rs_op rfl (ow_extract rfl rfl ?_)
  refine rs_op rfl (ow_extract rfl rfl ?_)
  refine rs_op rfl (ow_assign rfl ?_)
  refine rs_op rfl (ow_assign rfl ?_)
  refine rs_nil ?_
  refine ew_next ?_
  refine cw_seq ?_
  refine cw_region ?_
  refine rs_op rfl (ow_assign rfl ?_)
  refine rs_nil ?_
  refine ew_next ?_
  refine cw_seq ?_
  refine cw_block ?_
  refine cw_seq ?_
  refine cw_region ?_
  refine rs_op rfl (ow_move rfl ?_)
  refine rs_op rfl (ow_eqlS rfl rfl ?_)
  refine rs_set 17 (.bool false) rfl (by simp only [bytes_list]; rfl : (.bool ((⟨#[110, 97, 110]⟩ : ByteArray).toList == (⟨#[105, 110, 102]⟩ : ByteArray).toList) : Value) = _) ?_
  refine rs_op rfl (ow_assign rfl ?_)
  refine rs_nil ?_
  refine ew_next ?_
  refine cw_else rfl ?_
  refine cw_seq ?_
  refine cw_region ?_
  refine rs_op rfl (ow_move rfl ?_)
  refine rs_op rfl (ow_eqlS rfl rfl ?_)
  refine rs_set 21 (.bool true) rfl (by simp only [bytes_list]; rfl : (.bool ((⟨#[110, 97, 110]⟩ : ByteArray).toList == (⟨#[110, 97, 110]⟩ : ByteArray).toList) : Value) = _) ?_
  refine rs_op rfl (ow_assign rfl ?_)
  refine rs_nil ?_
  refine ew_next ?_
  refine cw_then rfl ?_
  refine cw_seq ?_
  refine cw_region ?_
  refine rs_op rfl (ow_assign rfl ?_)
  refine rs_op rfl (ow_assign rfl ?_)
  refine rs_nil ?_
  refine ew_next ?_
  refine cw_ret ?_
  refine ew_block_ret ?_
  refine ew_then_ret ?_
  refine ew_ret (rs := [.tmp 2, .tmp 3]) (vs := [.int .u64 9221120237041090560, .int .i64 0]) rfl ⟨rfl, rfl, trivial⟩ ?_
  exact ⟨rfl, (LW.step E XLW).toBelow⟩
theorem cc100_20 : Gives 100 #[.string ⟨#[43, 48, 48]⟩] (.tuple #[.int .i64 0, .nilIface]) := by
  intro w
  refine calls_cw Tryz.func100 rfl Tryz.ntmps100 rfl ?_
  have HF : Per (No) w (fun _ => True) := Per.true_
  have LW := Ext.refl (No) w
  have XLW : ∀ q9, (No) q9 → (No) q9 ∨ w.heap.size ≤ q9 := fun _ h => Or.inl h
  have E := Ext.refl (No) w
  refine cw_seq ?_
  refine cw_region ?_
  refine rs_op rfl (ow_assign rfl ?_)
  refine rs_op rfl (ow_assign rfl ?_)
  refine rs_nil ?_
  refine ew_next ?_
  refine cw_seq ?_
  refine cw_region ?_
  refine rs_op rfl (ow_move rfl ?_)
  refine rs_op rfl (ow_lenS Tryz.underlying9 rfl ?_)
  refine rs_op rfl (ow_assign rfl ?_)
  refine rs_nil ?_
  refine ew_next ?_
  refine cw_seq ?_
  refine cw_seq ?_
  refine cw_region ?_
  refine rs_op rfl (ow_move rfl ?_)
  refine rs_op rfl (ow_off rfl ?_)
  refine rs_op rfl (ow_off rfl ?_)
  refine rs_op rfl (ow_off rfl ?_)
  refine rs_op rfl (ow_offU rfl rfl ?_)
  refine rs_op rfl (ow_offU rfl rfl ?_)
  refine rs_op rfl (ow_off rfl ?_)
  refine rs_op rfl (ow_pickF rfl rfl ?_)
  refine rs_op rfl (ow_move rfl ?_)
  refine rs_op rfl (ow_on rfl (ow_move rfl ?_))
  refine rs_op rfl (ow_on rfl (ow_move rfl ?_))
  refine rs_op rfl (ow_on rfl (ow_lss rfl rfl ?_))
  refine rs_op rfl (ow_on rfl (ow_move rfl ?_))
  refine rs_op rfl (ow_on rfl (ow_move rfl ?_))
  refine rs_op rfl (ow_on rfl (ow_lss rfl rfl ?_))
  refine rs_op rfl (ow_on rfl (ow_pickT rfl rfl ?_))
  refine rs_op rfl (ow_on rfl (ow_pickT rfl rfl ?_))
  refine rs_op rfl (ow_pickF rfl rfl ?_)
  refine rs_nil ?_
  refine ew_next ?_
  refine cw_then rfl ?_
  refine cw_seq ?_
  refine cw_region ?_
  refine rs_op rfl (ow_move rfl ?_)
  refine rs_op rfl (ow_assign rfl ?_)
  refine rs_nil ?_
  refine ew_next ?_
  refine cw_seq ?_
  refine cw_seq ?_
  refine cw_region ?_
  refine rs_op rfl (ow_move rfl ?_)
  refine rs_op rfl (ow_indexSL (j := 0) (b := 43) Tryz.underlying9 rfl rfl rfl (by kernel_rfl) ?_)
  refine rs_op rfl (ow_eql rfl rfl ?_)
  refine rs_op rfl (ow_move rfl ?_)
  refine rs_op rfl (ow_on rfl (ow_move rfl ?_))
  refine rs_op rfl (ow_on rfl (ow_indexSL (j := 0) (b := 43) Tryz.underlying9 rfl rfl rfl (by kernel_rfl) ?_))
  refine rs_op rfl (ow_on rfl (ow_eql rfl rfl ?_))
  refine rs_op rfl (ow_pickF rfl rfl ?_)
  refine rs_nil ?_
  refine ew_next ?_
  refine cw_then rfl ?_
  refine cw_seq ?_
  refine cw_region ?_
  refine rs_op rfl (ow_move rfl ?_)
  refine rs_op rfl (ow_sliceS (l := 1) (h := 3) Tryz.underlying9 rfl ⟨_, rfl⟩ rfl (by decide) (by decide) ?_)
  refine rs_set 41 (.string ⟨#[48, 48]⟩) rfl (by kernel_rfl : (.string ((⟨#[43, 48, 48]⟩ : ByteArray).extract 1 3) : Value) = _) ?_
  refine rs_op rfl (ow_assign rfl ?_)
  refine rs_nil ?_
  refine ew_next ?_
  refine cw_seq ?_
  refine cw_region ?_
  refine rs_op rfl (ow_move rfl ?_)
  refine rs_op rfl (ow_lenS Tryz.underlying9 rfl ?_)
  refine rs_op rfl (ow_lss rfl rfl ?_)
  refine rs_nil ?_
  refine ew_next ?_
  refine cw_else rfl ?_
  refine cw_skip ?_
  refine ew_next ?_
  refine cw_seq ?_
  refine cw_region ?_
  refine rs_op rfl (ow_assign rfl ?_)
  refine rs_nil ?_
  refine ew_next ?_
  refine cw_seq ?_
  refine cw_seq ?_
  refine cw_region ?_
  refine rs_op rfl (ow_move rfl ?_)
  refine rs_op rfl (ow_strBytes (n := 2) (xs := [.int .u8 48, .int .u8 48]) Tryz.underlying9 Tryz.underlying84 Tryz.underlying5 rfl rfl rfl ?_)
  intro gb1 cb1 w2 Rb1 Eb1 Gb1
  replace E := E.trans Eb1.no
  clear Eb1
  replace HF := HF.on E
  replace LW := LW.step E XLW
  replace E := Ext.refl (No) w2
  replace HF := HF.and (Per.rowL Rb1)
  refine rs_op rfl (ow_len Tryz.underlying84 rfl ?_)
  refine rs_set 48 (.int .i64 2) rfl (by kernel_rfl : (.int .i64 (2 : Nat) : Value) = _) ?_
  refine rs_op rfl (ow_move rfl ?_)
  refine rs_nil ?_
  refine ew_next ?_
  refine cw_block ?_
  refine cw_unroll ?_
  refine cw_seq ?_
  refine cw_region ?_
  refine rs_op rfl (ow_lss rfl rfl ?_)
  refine rs_nil ?_
  refine ew_next ?_
  refine cw_seq ?_
  refine cw_then rfl ?_
  refine cw_skip ?_
  refine ew_next ?_
  refine cw_seq ?_
  refine cw_block ?_
  refine cw_seq ?_
  refine cw_region ?_
  refine rs_op rfl (ow_indexAddr1 (j := 0) Tryz.underlying84 sz5 rfl rfl rfl (by decide) ?_)
  refine rs_op rfl (ow_load1 Tryz.underlying5 rfl rfl ((HF.on E).here.2 0 _ rfl) ?_)
  refine rs_op rfl (ow_assign rfl ?_)
  refine rs_nil ?_
  refine ew_next ?_
  refine cw_seq ?_
  refine cw_region ?_
  refine rs_op rfl (ow_move rfl ?_)
  refine rs_op rfl (ow_sub (z := 0) rfl rfl (by kernel_rfl) ?_)
  refine rs_op rfl (ow_assign rfl ?_)
  refine rs_nil ?_
  refine ew_next ?_
  refine cw_seq ?_
  refine cw_seq ?_
  refine cw_region ?_
  refine rs_op rfl (ow_move rfl ?_)
  refine rs_op rfl (ow_gtr rfl rfl ?_)
  refine rs_nil ?_
  refine ew_next ?_
  refine cw_else rfl ?_
  refine cw_skip ?_
  refine ew_next ?_
  refine cw_region ?_
  refine rs_op rfl (ow_move rfl ?_)
  refine rs_op rfl (ow_mul (z := 0) rfl rfl (by kernel_rfl) ?_)
  refine rs_op rfl (ow_move rfl ?_)
  refine rs_op rfl (ow_conv (z := 0) Tryz.underlying3 Tryz.underlying5 rfl (by kernel_rfl) ?_)
  refine rs_op rfl (ow_add (z := 0) rfl rfl (by kernel_rfl) ?_)
  refine rs_op rfl (ow_assign rfl ?_)
  refine rs_nil ?_
  refine ew_block_normal ?_
  refine ew_next ?_
  refine cw_region ?_
  refine rs_op rfl (ow_add (z := 1) rfl rfl (by kernel_rfl) ?_)
  refine rs_op rfl (ow_move rfl ?_)
  refine rs_nil ?_
  refine ew_again ?_
  refine cw_seq ?_
  refine cw_region ?_
  refine rs_op rfl (ow_lss rfl rfl ?_)
  refine rs_nil ?_
  refine ew_next ?_
  refine cw_seq ?_
  refine cw_then rfl ?_
  refine cw_skip ?_
  refine ew_next ?_
  refine cw_seq ?_
  refine cw_block ?_
  refine cw_seq ?_
  refine cw_region ?_
  refine rs_op rfl (ow_indexAddr1 (j := 1) Tryz.underlying84 sz5 rfl rfl rfl (by decide) ?_)
  refine rs_op rfl (ow_load1 Tryz.underlying5 rfl rfl ((HF.on E).here.2 1 _ rfl) ?_)
  refine rs_op rfl (ow_assign rfl ?_)
  refine rs_nil ?_
  refine ew_next ?_
  refine cw_seq ?_
  refine cw_region ?_
  refine rs_op rfl (ow_move rfl ?_)
  refine rs_op rfl (ow_sub (z := 0) rfl rfl (by kernel_rfl) ?_)
  refine rs_op rfl (ow_assign rfl ?_)
  refine rs_nil ?_
  refine ew_next ?_
  refine cw_seq ?_
  refine cw_seq ?_
  refine cw_region ?_
  refine rs_op rfl (ow_move rfl ?_)
  refine rs_op rfl (ow_gtr rfl rfl ?_)
  refine rs_nil ?_
  refine ew_next ?_
  refine cw_else rfl ?_
  refine cw_skip ?_
  refine ew_next ?_
  refine cw_region ?_
  refine rs_op rfl (ow_move rfl ?_)
  refine rs_op rfl (ow_mul (z := 0) rfl rfl (by kernel_rfl) ?_)
  refine rs_op rfl (ow_move rfl ?_)
  refine rs_op rfl (ow_conv (z := 0) Tryz.underlying3 Tryz.underlying5 rfl (by kernel_rfl) ?_)
  refine rs_op rfl (ow_add (z := 0) rfl rfl (by kernel_rfl) ?_)
  refine rs_op rfl (ow_assign rfl ?_)
  refine rs_nil ?_
  refine ew_block_normal ?_
  refine ew_next ?_
  refine cw_region ?_
  refine rs_op rfl (ow_add (z := 2) rfl rfl (by kernel_rfl) ?_)
  refine rs_op rfl (ow_move rfl ?_)
  refine rs_nil ?_
  refine ew_again ?_
  refine cw_seq ?_
  refine cw_region ?_
  refine rs_op rfl (ow_lss rfl rfl ?_)
  refine rs_nil ?_
  refine ew_next ?_
  refine cw_seq ?_
  refine cw_else rfl ?_
  refine cw_exit ?_
  refine ew_then_exit ?_
  refine ew_then_exit ?_
  refine ew_block_here ?_
  refine ew_next ?_
  refine cw_seq ?_
  refine cw_seq ?_
  refine cw_region ?_
  refine rs_op rfl (ow_move rfl ?_)
  refine rs_op rfl (ow_indexSL (j := 0) (b := 43) Tryz.underlying9 rfl rfl rfl (by kernel_rfl) ?_)
  refine rs_op rfl (ow_eql rfl rfl ?_)
  refine rs_nil ?_
  refine ew_next ?_
  refine cw_else rfl ?_
  refine cw_skip ?_
  refine ew_next ?_
  refine cw_seq ?_
  refine cw_region ?_
  refine rs_op rfl (ow_move rfl ?_)
  refine rs_op rfl (ow_assign rfl ?_)
  refine rs_op rfl (ow_assign rfl ?_)
  refine rs_nil ?_
  refine ew_next ?_
  refine cw_ret ?_
  refine ew_then_ret ?_
  refine ew_ret (rs := [.tmp 2, .tmp 3]) (vs := [.int .i64 0, .nilIface]) rfl ⟨rfl, rfl, trivial⟩ ?_
  exact ⟨rfl, (LW.step E XLW).toBelow⟩
theorem cc64_20 : Gives 64 #[.string ⟨#[43, 48, 48]⟩] (.tuple #[.int .i64 0, .nilIface]) := by
  intro w
  refine calls_cw Tryz.func64 rfl Tryz.ntmps64 rfl ?_
  have HF : Per (No) w (fun _ => True) := Per.true_
  have LW := Ext.refl (No) w
  have XLW : ∀ q9, (No) q9 → (No) q9 ∨ w.heap.size ≤ q9 := fun _ h => Or.inl h
  have E := Ext.refl (No) w
  refine cw_seq ?_
  refine cw_region ?_
  refine rs_op rfl (ow_assign rfl ?_)
  refine rs_op rfl (ow_assign rfl ?_)
  refine rs_nil ?_
  refine ew_next ?_
  refine cw_seq ?_
  refine cw_region ?_
  refine rs_op rfl (ow_move rfl ?_)
  refine rs_op rfl (ow_enter en100 rfl ((cc100_20 _).mono ?_))
  rintro e w1 ⟨rfl, hb⟩
  refine ⟨_, rfl, ?_⟩
  have Ec := Ext.of_below hb No
  replace E := E.trans Ec.no
  clear hb Ec
  refine rs_op rfl (ow_move rfl ?_)
  refine rs_op rfl (ow_extract rfl rfl ?_)
  refine rs_op rfl (ow_extract rfl rfl ?_)
  refine rs_op rfl (ow_assign rfl ?_)
  refine rs_op rfl (ow_assign rfl ?_)
  refine rs_nil ?_
  refine ew_next ?_
  refine cw_seq ?_
  refine cw_seq ?_
  refine cw_region ?_
  refine rs_op rfl (ow_move rfl ?_)
  refine rs_op rfl (ow_neqN Tryz.underlying60 rfl ?_)
  refine rs_nil ?_
  refine ew_next ?_
  refine cw_else rfl ?_
  refine cw_skip ?_
  refine ew_next ?_
  refine cw_seq ?_
  refine cw_region ?_
  refine rs_op rfl (ow_move rfl ?_)
  refine rs_op rfl (ow_assign rfl ?_)
  refine rs_op rfl (ow_assign rfl ?_)
  refine rs_nil ?_
  refine ew_next ?_
  refine cw_ret ?_
  refine ew_ret (rs := [.tmp 2, .tmp 3]) (vs := [.int .i64 0, .nilIface]) rfl ⟨rfl, rfl, trivial⟩ ?_
  exact ⟨rfl, (LW.step E XLW).toBelow⟩
theorem cc99_24 : Gives 99 #[.string ⟨#[45, 48]⟩, .int .u8 46] (.int .i64 (-1)) := by
  intro w
  refine calls_cw Tryz.func99 rfl Tryz.ntmps99 rfl ?_
  have HF : Per (No) w (fun _ => True) := Per.true_
  have LW := Ext.refl (No) w
  have XLW : ∀ q9, (No) q9 → (No) q9 ∨ w.heap.size ≤ q9 := fun _ h => Or.inl h
  have E := Ext.refl (No) w
  refine cw_seq ?_
  refine cw_region ?_
  refine rs_op rfl (ow_assign rfl ?_)
  refine rs_nil ?_
  refine ew_next ?_
  refine cw_seq ?_
  refine cw_region ?_
  refine rs_op rfl (ow_move rfl ?_)
  refine rs_op rfl (ow_move rfl ?_)
  refine rs_op rfl (ow_ext ex131 rfl (run_indexByte_string _ _ _) ?_)
  refine rs_set 7 (.int .i64 (-1)) rfl (by kernel_rfl : (.int .i64 (firstIdx ⟨#[45, 48]⟩ (46 : Int).toNat.toUInt8) : Value) = _) ?_
  refine rs_op rfl (ow_assign rfl ?_)
  refine rs_nil ?_
  refine ew_next ?_
  refine cw_ret ?_
  refine ew_ret (rs := [.tmp 4]) (vs := [.int .i64 (-1)]) rfl ⟨rfl, trivial⟩ ?_
  exact ⟨rfl, (LW.step E XLW).toBelow⟩
theorem cc133_24 : Gives 133 #[.string ⟨#[45, 48]⟩, .string ⟨#[46]⟩] (.int .i64 (-1)) := by
  intro w
  refine calls_cw Tryz.func133 rfl Tryz.ntmps133 rfl ?_
  have HF : Per (No) w (fun _ => True) := Per.true_
  have LW := Ext.refl (No) w
  have XLW : ∀ q9, (No) q9 → (No) q9 ∨ w.heap.size ≤ q9 := fun _ h => Or.inl h
  have E := Ext.refl (No) w
  refine cw_seq ?_
  refine cw_region ?_
  refine rs_op rfl (ow_assign rfl ?_)
  refine rs_nil ?_
  refine ew_next ?_
  refine cw_seq ?_
  refine cw_region ?_
  refine rs_op rfl (ow_move rfl ?_)
  refine rs_op rfl (ow_lenS Tryz.underlying9 rfl ?_)
  refine rs_op rfl (ow_assign rfl ?_)
  refine rs_nil ?_
  refine ew_next ?_
  refine cw_seq ?_
  refine cw_block ?_
  refine cw_seq ?_
  refine cw_region ?_
  refine rs_op rfl (ow_move rfl ?_)
  refine rs_op rfl (ow_eql rfl rfl ?_)
  refine rs_op rfl (ow_move rfl ?_)
  refine rs_op rfl (ow_on rfl (ow_move rfl ?_))
  refine rs_op rfl (ow_on rfl (ow_move rfl ?_))
  refine rs_op rfl (ow_on rfl (ow_eqlS rfl rfl ?_))
  refine rs_set 22 (.bool false) rfl (by simp only [bytes_list]; rfl : (.bool ((⟨#[46]⟩ : ByteArray).toList == (⟨#[45, 48]⟩ : ByteArray).toList) : Value) = _) ?_
  refine rs_op rfl (ow_pickF rfl rfl ?_)
  refine rs_op rfl (ow_assign rfl ?_)
  refine rs_nil ?_
  refine ew_next ?_
  refine cw_else rfl ?_
  refine cw_seq ?_
  refine cw_region ?_
  refine rs_op rfl (ow_move rfl ?_)
  refine rs_op rfl (ow_eql rfl rfl ?_)
  refine rs_op rfl (ow_assign rfl ?_)
  refine rs_nil ?_
  refine ew_next ?_
  refine cw_then rfl ?_
  refine cw_seq ?_
  refine cw_region ?_
  refine rs_op rfl (ow_move rfl ?_)
  refine rs_op rfl (ow_move rfl ?_)
  refine rs_op rfl (ow_indexSL (j := 0) (b := 46) Tryz.underlying9 rfl rfl rfl (by kernel_rfl) ?_)
  refine rs_op rfl (ow_enter en99 rfl ((cc99_24 _).mono ?_))
  rintro e w1 ⟨rfl, hb⟩
  refine ⟨_, rfl, ?_⟩
  have Ec := Ext.of_below hb No
  replace E := E.trans Ec.no
  clear hb Ec
  refine rs_op rfl (ow_assign rfl ?_)
  refine rs_nil ?_
  refine ew_next ?_
  refine cw_ret ?_
  refine ew_block_ret ?_
  refine ew_then_ret ?_
  refine ew_ret (rs := [.tmp 4]) (vs := [.int .i64 (-1)]) rfl ⟨rfl, trivial⟩ ?_
  exact ⟨rfl, (LW.step E XLW).toBelow⟩
theorem cc101_24 : Gives 101 #[.string ⟨#[45, 48]⟩, .string ⟨#[46]⟩] (.int .i64 (-1)) := by
  intro w
  refine calls_cw Tryz.func101 rfl Tryz.ntmps101 rfl ?_
  have HF : Per (No) w (fun _ => True) := Per.true_
  have LW := Ext.refl (No) w
  have XLW : ∀ q9, (No) q9 → (No) q9 ∨ w.heap.size ≤ q9 := fun _ h => Or.inl h
  have E := Ext.refl (No) w
  refine cw_seq ?_
  refine cw_region ?_
  refine rs_op rfl (ow_assign rfl ?_)
  refine rs_nil ?_
  refine ew_next ?_
  refine cw_seq ?_
  refine cw_region ?_
  refine rs_op rfl (ow_move rfl ?_)
  refine rs_op rfl (ow_move rfl ?_)
  refine rs_op rfl (ow_enter en133 rfl ((cc133_24 _).mono ?_))
  rintro e w1 ⟨rfl, hb⟩
  refine ⟨_, rfl, ?_⟩
  have Ec := Ext.of_below hb No
  replace E := E.trans Ec.no
  clear hb Ec
  refine rs_op rfl (ow_assign rfl ?_)
  refine rs_nil ?_
  refine ew_next ?_
  refine cw_ret ?_
  refine ew_ret (rs := [.tmp 4]) (vs := [.int .i64 (-1)]) rfl ⟨rfl, trivial⟩ ?_
  exact ⟨rfl, (LW.step E XLW).toBelow⟩
theorem cc65_24 : Gives 65 #[.string ⟨#[45, 48]⟩, .string ⟨#[46]⟩] (.bool false) := by
  intro w
  refine calls_cw Tryz.func65 rfl Tryz.ntmps65 rfl ?_
  have HF : Per (No) w (fun _ => True) := Per.true_
  have LW := Ext.refl (No) w
  have XLW : ∀ q9, (No) q9 → (No) q9 ∨ w.heap.size ≤ q9 := fun _ h => Or.inl h
  have E := Ext.refl (No) w
  refine cw_seq ?_
  refine cw_region ?_
  refine rs_op rfl (ow_assign rfl ?_)
  refine rs_nil ?_
  refine ew_next ?_
  refine cw_seq ?_
  refine cw_region ?_
  refine rs_op rfl (ow_move rfl ?_)
  refine rs_op rfl (ow_move rfl ?_)
  refine rs_op rfl (ow_enter en101 rfl ((cc101_24 _).mono ?_))
  rintro e w1 ⟨rfl, hb⟩
  refine ⟨_, rfl, ?_⟩
  have Ec := Ext.of_below hb No
  replace E := E.trans Ec.no
  clear hb Ec
  refine rs_op rfl (ow_geq rfl rfl ?_)
  refine rs_op rfl (ow_assign rfl ?_)
  refine rs_nil ?_
  refine ew_next ?_
  refine cw_ret ?_
  refine ew_ret (rs := [.tmp 4]) (vs := [.bool false]) rfl ⟨rfl, trivial⟩ ?_
  exact ⟨rfl, (LW.step E XLW).toBelow⟩
theorem cc99_28 : Gives 99 #[.string ⟨#[49]⟩, .int .u8 46] (.int .i64 (-1)) := by
  intro w
  refine calls_cw Tryz.func99 rfl Tryz.ntmps99 rfl ?_
  have HF : Per (No) w (fun _ => True) := Per.true_
  have LW := Ext.refl (No) w
  have XLW : ∀ q9, (No) q9 → (No) q9 ∨ w.heap.size ≤ q9 := fun _ h => Or.inl h
  have E := Ext.refl (No) w
  refine cw_seq ?_
  refine cw_region ?_
  refine rs_op rfl (ow_assign rfl ?_)
  refine rs_nil ?_
  refine ew_next ?_
  refine cw_seq ?_
  refine cw_region ?_
  refine rs_op rfl (ow_move rfl ?_)
  refine rs_op rfl (ow_move rfl ?_)
  refine rs_op rfl (ow_ext ex131 rfl (run_indexByte_string _ _ _) ?_)
  refine rs_set 7 (.int .i64 (-1)) rfl (by kernel_rfl : (.int .i64 (firstIdx ⟨#[49]⟩ (46 : Int).toNat.toUInt8) : Value) = _) ?_
  refine rs_op rfl (ow_assign rfl ?_)
  refine rs_nil ?_
  refine ew_next ?_
  refine cw_ret ?_
  refine ew_ret (rs := [.tmp 4]) (vs := [.int .i64 (-1)]) rfl ⟨rfl, trivial⟩ ?_
  exact ⟨rfl, (LW.step E XLW).toBelow⟩
theorem cc133_28 : Gives 133 #[.string ⟨#[49]⟩, .string ⟨#[46]⟩] (.int .i64 (-1)) := by
  intro w
  refine calls_cw Tryz.func133 rfl Tryz.ntmps133 rfl ?_
  have HF : Per (No) w (fun _ => True) := Per.true_
  have LW := Ext.refl (No) w
  have XLW : ∀ q9, (No) q9 → (No) q9 ∨ w.heap.size ≤ q9 := fun _ h => Or.inl h
  have E := Ext.refl (No) w
  refine cw_seq ?_
  refine cw_region ?_
  refine rs_op rfl (ow_assign rfl ?_)
  refine rs_nil ?_
  refine ew_next ?_
  refine cw_seq ?_
  refine cw_region ?_
  refine rs_op rfl (ow_move rfl ?_)
  refine rs_op rfl (ow_lenS Tryz.underlying9 rfl ?_)
  refine rs_op rfl (ow_assign rfl ?_)
  refine rs_nil ?_
  refine ew_next ?_
  refine cw_seq ?_
  refine cw_block ?_
  refine cw_seq ?_
  refine cw_region ?_
  refine rs_op rfl (ow_move rfl ?_)
  refine rs_op rfl (ow_eql rfl rfl ?_)
  refine rs_op rfl (ow_move rfl ?_)
  refine rs_op rfl (ow_on rfl (ow_move rfl ?_))
  refine rs_op rfl (ow_on rfl (ow_move rfl ?_))
  refine rs_op rfl (ow_on rfl (ow_eqlS rfl rfl ?_))
  refine rs_set 22 (.bool false) rfl (by simp only [bytes_list]; rfl : (.bool ((⟨#[46]⟩ : ByteArray).toList == (⟨#[49]⟩ : ByteArray).toList) : Value) = _) ?_
  refine rs_op rfl (ow_pickF rfl rfl ?_)
  refine rs_op rfl (ow_assign rfl ?_)
  refine rs_nil ?_
  refine ew_next ?_
  refine cw_else rfl ?_
  refine cw_seq ?_
  refine cw_region ?_
  refine rs_op rfl (ow_move rfl ?_)
  refine rs_op rfl (ow_eql rfl rfl ?_)
  refine rs_op rfl (ow_assign rfl ?_)
  refine rs_nil ?_
  refine ew_next ?_
  refine cw_then rfl ?_
  refine cw_seq ?_
  refine cw_region ?_
  refine rs_op rfl (ow_move rfl ?_)
  refine rs_op rfl (ow_move rfl ?_)
  refine rs_op rfl (ow_indexSL (j := 0) (b := 46) Tryz.underlying9 rfl rfl rfl (by kernel_rfl) ?_)
  refine rs_op rfl (ow_enter en99 rfl ((cc99_28 _).mono ?_))
  rintro e w1 ⟨rfl, hb⟩
  refine ⟨_, rfl, ?_⟩
  have Ec := Ext.of_below hb No
  replace E := E.trans Ec.no
  clear hb Ec
  refine rs_op rfl (ow_assign rfl ?_)
  refine rs_nil ?_
  refine ew_next ?_
  refine cw_ret ?_
  refine ew_block_ret ?_
  refine ew_then_ret ?_
  refine ew_ret (rs := [.tmp 4]) (vs := [.int .i64 (-1)]) rfl ⟨rfl, trivial⟩ ?_
  exact ⟨rfl, (LW.step E XLW).toBelow⟩
theorem cc101_28 : Gives 101 #[.string ⟨#[49]⟩, .string ⟨#[46]⟩] (.int .i64 (-1)) := by
  intro w
  refine calls_cw Tryz.func101 rfl Tryz.ntmps101 rfl ?_
  have HF : Per (No) w (fun _ => True) := Per.true_
  have LW := Ext.refl (No) w
  have XLW : ∀ q9, (No) q9 → (No) q9 ∨ w.heap.size ≤ q9 := fun _ h => Or.inl h
  have E := Ext.refl (No) w
  refine cw_seq ?_
  refine cw_region ?_
  refine rs_op rfl (ow_assign rfl ?_)
  refine rs_nil ?_
  refine ew_next ?_
  refine cw_seq ?_
  refine cw_region ?_
  refine rs_op rfl (ow_move rfl ?_)
  refine rs_op rfl (ow_move rfl ?_)
  refine rs_op rfl (ow_enter en133 rfl ((cc133_28 _).mono ?_))
  rintro e w1 ⟨rfl, hb⟩
  refine ⟨_, rfl, ?_⟩
  have Ec := Ext.of_below hb No
  replace E := E.trans Ec.no
  clear hb Ec
  refine rs_op rfl (ow_assign rfl ?_)
  refine rs_nil ?_
  refine ew_next ?_
  refine cw_ret ?_
  refine ew_ret (rs := [.tmp 4]) (vs := [.int .i64 (-1)]) rfl ⟨rfl, trivial⟩ ?_
  exact ⟨rfl, (LW.step E XLW).toBelow⟩
theorem cc65_28 : Gives 65 #[.string ⟨#[49]⟩, .string ⟨#[46]⟩] (.bool false) := by
  intro w
  refine calls_cw Tryz.func65 rfl Tryz.ntmps65 rfl ?_
  have HF : Per (No) w (fun _ => True) := Per.true_
  have LW := Ext.refl (No) w
  have XLW : ∀ q9, (No) q9 → (No) q9 ∨ w.heap.size ≤ q9 := fun _ h => Or.inl h
  have E := Ext.refl (No) w
  refine cw_seq ?_
  refine cw_region ?_
  refine rs_op rfl (ow_assign rfl ?_)
  refine rs_nil ?_
  refine ew_next ?_
  refine cw_seq ?_
  refine cw_region ?_
  refine rs_op rfl (ow_move rfl ?_)
  refine rs_op rfl (ow_move rfl ?_)
  refine rs_op rfl (ow_enter en101 rfl ((cc101_28 _).mono ?_))
  rintro e w1 ⟨rfl, hb⟩
  refine ⟨_, rfl, ?_⟩
  have Ec := Ext.of_below hb No
  replace E := E.trans Ec.no
  clear hb Ec
  refine rs_op rfl (ow_geq rfl rfl ?_)
  refine rs_op rfl (ow_assign rfl ?_)
  refine rs_nil ?_
  refine ew_next ?_
  refine cw_ret ?_
  refine ew_ret (rs := [.tmp 4]) (vs := [.bool false]) rfl ⟨rfl, trivial⟩ ?_
  exact ⟨rfl, (LW.step E XLW).toBelow⟩
theorem cc99_30 : Gives 99 #[.string ⟨#[45, 48, 101, 43, 48, 48]⟩, .int .u8 101] (.int .i64 2) := by
  intro w
  refine calls_cw Tryz.func99 rfl Tryz.ntmps99 rfl ?_
  have HF : Per (No) w (fun _ => True) := Per.true_
  have LW := Ext.refl (No) w
  have XLW : ∀ q9, (No) q9 → (No) q9 ∨ w.heap.size ≤ q9 := fun _ h => Or.inl h
  have E := Ext.refl (No) w
  refine cw_seq ?_
  refine cw_region ?_
  refine rs_op rfl (ow_assign rfl ?_)
  refine rs_nil ?_
  refine ew_next ?_
  refine cw_seq ?_
  refine cw_region ?_
  refine rs_op rfl (ow_move rfl ?_)
  refine rs_op rfl (ow_move rfl ?_)
  refine rs_op rfl (ow_ext ex131 rfl (run_indexByte_string _ _ _) ?_)
  refine rs_set 7 (.int .i64 2) rfl (by kernel_rfl : (.int .i64 (firstIdx ⟨#[45, 48, 101, 43, 48, 48]⟩ (101 : Int).toNat.toUInt8) : Value) = _) ?_
  refine rs_op rfl (ow_assign rfl ?_)
  refine rs_nil ?_
  refine ew_next ?_
  refine cw_ret ?_
  refine ew_ret (rs := [.tmp 4]) (vs := [.int .i64 2]) rfl ⟨rfl, trivial⟩ ?_
  exact ⟨rfl, (LW.step E XLW).toBelow⟩
theorem cc63_30 : Gives 63 #[.string ⟨#[45, 48, 101, 43, 48, 48]⟩, .int .u8 101] (.int .i64 2) := by
  intro w
  refine calls_cw Tryz.func63 rfl Tryz.ntmps63 rfl ?_
  have HF : Per (No) w (fun _ => True) := Per.true_
  have LW := Ext.refl (No) w
  have XLW : ∀ q9, (No) q9 → (No) q9 ∨ w.heap.size ≤ q9 := fun _ h => Or.inl h
  have E := Ext.refl (No) w
  refine cw_seq ?_
  refine cw_region ?_
  refine rs_op rfl (ow_assign rfl ?_)
  refine rs_nil ?_
  refine ew_next ?_
  refine cw_seq ?_
  refine cw_region ?_
  refine rs_op rfl (ow_move rfl ?_)
  refine rs_op rfl (ow_move rfl ?_)
  refine rs_op rfl (ow_enter en99 rfl ((cc99_30 _).mono ?_))
  rintro e w1 ⟨rfl, hb⟩
  refine ⟨_, rfl, ?_⟩
  have Ec := Ext.of_below hb No
  replace E := E.trans Ec.no
  clear hb Ec
  refine rs_op rfl (ow_assign rfl ?_)
  refine rs_nil ?_
  refine ew_next ?_
  refine cw_ret ?_
  refine ew_ret (rs := [.tmp 4]) (vs := [.int .i64 2]) rfl ⟨rfl, trivial⟩ ?_
  exact ⟨rfl, (LW.step E XLW).toBelow⟩
theorem cc99_32 : Gives 99 #[.string ⟨#[49, 101, 43, 48, 48]⟩, .int .u8 101] (.int .i64 1) := by
  intro w
  refine calls_cw Tryz.func99 rfl Tryz.ntmps99 rfl ?_
  have HF : Per (No) w (fun _ => True) := Per.true_
  have LW := Ext.refl (No) w
  have XLW : ∀ q9, (No) q9 → (No) q9 ∨ w.heap.size ≤ q9 := fun _ h => Or.inl h
  have E := Ext.refl (No) w
  refine cw_seq ?_
  refine cw_region ?_
  refine rs_op rfl (ow_assign rfl ?_)
  refine rs_nil ?_
  refine ew_next ?_
  refine cw_seq ?_
  refine cw_region ?_
  refine rs_op rfl (ow_move rfl ?_)
  refine rs_op rfl (ow_move rfl ?_)
  refine rs_op rfl (ow_ext ex131 rfl (run_indexByte_string _ _ _) ?_)
  refine rs_set 7 (.int .i64 1) rfl (by kernel_rfl : (.int .i64 (firstIdx ⟨#[49, 101, 43, 48, 48]⟩ (101 : Int).toNat.toUInt8) : Value) = _) ?_
  refine rs_op rfl (ow_assign rfl ?_)
  refine rs_nil ?_
  refine ew_next ?_
  refine cw_ret ?_
  refine ew_ret (rs := [.tmp 4]) (vs := [.int .i64 1]) rfl ⟨rfl, trivial⟩ ?_
  exact ⟨rfl, (LW.step E XLW).toBelow⟩
theorem cc63_32 : Gives 63 #[.string ⟨#[49, 101, 43, 48, 48]⟩, .int .u8 101] (.int .i64 1) := by
  intro w
  refine calls_cw Tryz.func63 rfl Tryz.ntmps63 rfl ?_
  have HF : Per (No) w (fun _ => True) := Per.true_
  have LW := Ext.refl (No) w
  have XLW : ∀ q9, (No) q9 → (No) q9 ∨ w.heap.size ≤ q9 := fun _ h => Or.inl h
  have E := Ext.refl (No) w
  refine cw_seq ?_
  refine cw_region ?_
  refine rs_op rfl (ow_assign rfl ?_)
  refine rs_nil ?_
  refine ew_next ?_
  refine cw_seq ?_
  refine cw_region ?_
  refine rs_op rfl (ow_move rfl ?_)
  refine rs_op rfl (ow_move rfl ?_)
  refine rs_op rfl (ow_enter en99 rfl ((cc99_32 _).mono ?_))
  rintro e w1 ⟨rfl, hb⟩
  refine ⟨_, rfl, ?_⟩
  have Ec := Ext.of_below hb No
  replace E := E.trans Ec.no
  clear hb Ec
  refine rs_op rfl (ow_assign rfl ?_)
  refine rs_nil ?_
  refine ew_next ?_
  refine cw_ret ?_
  refine ew_ret (rs := [.tmp 4]) (vs := [.int .i64 1]) rfl ⟨rfl, trivial⟩ ?_
  exact ⟨rfl, (LW.step E XLW).toBelow⟩
theorem cc159_33 : Gives 159 #[.int .u64 1] (.int .i64 1) := by
  intro w
  refine calls_cw Tryz.func159 rfl Tryz.ntmps159 rfl ?_
  have HF : Per (No) w (fun _ => True) := Per.true_
  have LW := Ext.refl (No) w
  have XLW : ∀ q9, (No) q9 → (No) q9 ∨ w.heap.size ≤ q9 := fun _ h => Or.inl h
  have E := Ext.refl (No) w
  refine cw_seq ?_
  refine cw_region ?_
  refine rs_op rfl (ow_assign rfl ?_)
  refine rs_nil ?_
  refine ew_next ?_
  refine cw_seq ?_
  refine cw_seq ?_
  refine cw_region ?_
  refine rs_op rfl (ow_move rfl ?_)
  refine rs_op rfl (ow_geq rfl rfl ?_)
  refine rs_nil ?_
  refine ew_next ?_
  refine cw_else rfl ?_
  refine cw_skip ?_
  refine ew_next ?_
  refine cw_seq ?_
  refine cw_seq ?_
  refine cw_region ?_
  refine rs_op rfl (ow_move rfl ?_)
  refine rs_op rfl (ow_geq rfl rfl ?_)
  refine rs_nil ?_
  refine ew_next ?_
  refine cw_else rfl ?_
  refine cw_skip ?_
  refine ew_next ?_
  refine cw_seq ?_
  refine cw_seq ?_
  refine cw_region ?_
  refine rs_op rfl (ow_move rfl ?_)
  refine rs_op rfl (ow_geq rfl rfl ?_)
  refine rs_nil ?_
  refine ew_next ?_
  refine cw_else rfl ?_
  refine cw_skip ?_
  refine ew_next ?_
  refine cw_seq ?_
  refine cw_region ?_
  refine rs_op rfl (ow_move rfl ?_)
  refine rs_op rfl (ow_move rfl ?_)
  refine rs_op rfl (ow_conv (z := 1) Tryz.underlying5 Tryz.underlying22 rfl (by kernel_rfl) ?_)
  refine rs_op rfl (ow_indexSL (j := 1) (b := 1) Tryz.underlying9 rfl rfl rfl (by kernel_rfl) ?_)
  refine rs_op rfl (ow_conv (z := 1) Tryz.underlying3 Tryz.underlying5 rfl (by kernel_rfl) ?_)
  refine rs_op rfl (ow_add (z := 1) rfl rfl (by kernel_rfl) ?_)
  refine rs_op rfl (ow_assign rfl ?_)
  refine rs_nil ?_
  refine ew_next ?_
  refine cw_ret ?_
  refine ew_ret (rs := [.tmp 2]) (vs := [.int .i64 1]) rfl ⟨rfl, trivial⟩ ?_
  exact ⟨rfl, (LW.step E XLW).toBelow⟩
theorem cc163_34 : Gives 163 #[.int .i64 1] (.int .i64 0) := by
  intro w
  refine calls_cw Tryz.func163 rfl Tryz.ntmps163 rfl ?_
  have HF : Per (No) w (fun _ => True) := Per.true_
  have LW := Ext.refl (No) w
  have XLW : ∀ q9, (No) q9 → (No) q9 ∨ w.heap.size ≤ q9 := fun _ h => Or.inl h
  have E := Ext.refl (No) w
  refine cw_seq ?_
  refine cw_region ?_
  refine rs_op rfl (ow_assign rfl ?_)
  refine rs_nil ?_
  refine ew_next ?_
  refine cw_seq ?_
  refine cw_region ?_
  refine rs_op rfl (ow_move rfl ?_)
  refine rs_op rfl (ow_mul (z := 78913) rfl rfl (by kernel_rfl) ?_)
  refine rs_op rfl (ow_shr (z := 0) rfl rfl (by decide) (by kernel_rfl) ?_)
  refine rs_op rfl (ow_assign rfl ?_)
  refine rs_nil ?_
  refine ew_next ?_
  refine cw_ret ?_
  refine ew_ret (rs := [.tmp 2]) (vs := [.int .i64 0]) rfl ⟨rfl, trivial⟩ ?_
  exact ⟨rfl, (LW.step E XLW).toBelow⟩
theorem cc159_35 : Gives 159 #[.int .u64 4503599627370496] (.int .i64 53) := by
  intro w
  refine calls_cw Tryz.func159 rfl Tryz.ntmps159 rfl ?_
  have HF : Per (No) w (fun _ => True) := Per.true_
  have LW := Ext.refl (No) w
  have XLW : ∀ q9, (No) q9 → (No) q9 ∨ w.heap.size ≤ q9 := fun _ h => Or.inl h
  have E := Ext.refl (No) w
  refine cw_seq ?_
  refine cw_region ?_
  refine rs_op rfl (ow_assign rfl ?_)
  refine rs_nil ?_
  refine ew_next ?_
  refine cw_seq ?_
  refine cw_seq ?_
  refine cw_region ?_
  refine rs_op rfl (ow_move rfl ?_)
  refine rs_op rfl (ow_geq rfl rfl ?_)
  refine rs_nil ?_
  refine ew_next ?_
  refine cw_then rfl ?_
  refine cw_seq ?_
  refine cw_region ?_
  refine rs_op rfl (ow_move rfl ?_)
  refine rs_op rfl (ow_shr (z := 1048576) rfl rfl (by decide) (by kernel_rfl) ?_)
  refine rs_op rfl (ow_assign rfl ?_)
  refine rs_nil ?_
  refine ew_next ?_
  refine cw_region ?_
  refine rs_op rfl (ow_assign rfl ?_)
  refine rs_nil ?_
  refine ew_next ?_
  refine cw_seq ?_
  refine cw_seq ?_
  refine cw_region ?_
  refine rs_op rfl (ow_move rfl ?_)
  refine rs_op rfl (ow_geq rfl rfl ?_)
  refine rs_nil ?_
  refine ew_next ?_
  refine cw_then rfl ?_
  refine cw_seq ?_
  refine cw_region ?_
  refine rs_op rfl (ow_move rfl ?_)
  refine rs_op rfl (ow_shr (z := 16) rfl rfl (by decide) (by kernel_rfl) ?_)
  refine rs_op rfl (ow_assign rfl ?_)
  refine rs_nil ?_
  refine ew_next ?_
  refine cw_region ?_
  refine rs_op rfl (ow_move rfl ?_)
  refine rs_op rfl (ow_add (z := 48) rfl rfl (by kernel_rfl) ?_)
  refine rs_op rfl (ow_assign rfl ?_)
  refine rs_nil ?_
  refine ew_next ?_
  refine cw_seq ?_
  refine cw_seq ?_
  refine cw_region ?_
  refine rs_op rfl (ow_move rfl ?_)
  refine rs_op rfl (ow_geq rfl rfl ?_)
  refine rs_nil ?_
  refine ew_next ?_
  refine cw_else rfl ?_
  refine cw_skip ?_
  refine ew_next ?_
  refine cw_seq ?_
  refine cw_region ?_
  refine rs_op rfl (ow_move rfl ?_)
  refine rs_op rfl (ow_move rfl ?_)
  refine rs_op rfl (ow_conv (z := 16) Tryz.underlying5 Tryz.underlying22 rfl (by kernel_rfl) ?_)
  refine rs_op rfl (ow_indexSL (j := 16) (b := 5) Tryz.underlying9 rfl rfl rfl (by kernel_rfl) ?_)
  refine rs_op rfl (ow_conv (z := 5) Tryz.underlying3 Tryz.underlying5 rfl (by kernel_rfl) ?_)
  refine rs_op rfl (ow_add (z := 53) rfl rfl (by kernel_rfl) ?_)
  refine rs_op rfl (ow_assign rfl ?_)
  refine rs_nil ?_
  refine ew_next ?_
  refine cw_ret ?_
  refine ew_ret (rs := [.tmp 2]) (vs := [.int .i64 53]) rfl ⟨rfl, trivial⟩ ?_
  exact ⟨rfl, (LW.step E XLW).toBelow⟩
end Go.Proofs.YtljndllhmdpjlaaGreatDoor
namespace Go.Proofs.YtljndllhmdpjlaaGreatDoor
open Go.RowKit
set_option maxRecDepth 100000
/-- The caller's own row comes back longer. -/
def RetRowB (W : World) (base : Nat) (key : Option Nat) (n : Nat) (xs : List Value) (e : Ending) (w' : World) : Prop :=
  ∃ A c, e = .returned (.slice A n c) ∧ w'.ownsRow base 5 1 (.slice A n c) n xs ∧ Ext (Mut [key]) W w' ∧ ∀ q, (Value.slice A n c).ownBlock = some q → key = some q ∨ W.heap.size ≤ q
theorem kn_of {r r' : Option Nat} {n : Nat} (h : ∀ q, Mut [r'] q → Mut [r] q ∨ n ≤ q) : ∀ q, r' = some q → r = some q ∨ n ≤ q := fun q e => (h q (Or.inl e.symm)).imp (fun h => h.elim (fun e => e.symm) (fun e => e.elim)) id
section
variable (w : World) (base : Nat) (A : Option Addr) (c : Nat) (HB : base ≤ w.heap.size) (ho : w.ownsRow base 5 1 (.slice A 0 c) 0 [])
include HB ho
theorem efg_ze : Calls Tryz.prog 158 #[.slice A 0 c, .bool true, .slice none 0 0, .int .i64 0, .int .i64 0, .int .i64 (-1), .int .u8 101, .bool true] w (RetRowB w base (Value.slice A 0 c).ownBlock 6 [.int .u8 45, .int .u8 48, .int .u8 101, .int .u8 43, .int .u8 48, .int .u8 48]) := by
  refine calls_cw Tryz.func158 rfl Tryz.ntmps158 rfl ?_
  have Odst : World.ownsRow w base 5 1 (.slice A 0 c) 0 ([]) := ho
  have HF : Per (Mut [((Value.slice A 0 c).ownBlock)]) w (fun _ => True) := Per.true_
  have LW := Ext.refl (Mut [((Value.slice A 0 c).ownBlock)]) w
  have XLW : ∀ q9, (Mut [((Value.slice A 0 c).ownBlock)]) q9 → (Mut [((Value.slice A 0 c).ownBlock)]) q9 ∨ w.heap.size ≤ q9 := fun _ h => Or.inl h
  have E := Ext.refl (Mut [((Value.slice A 0 c).ownBlock)]) w
  refine cw_seq ?_
  refine cw_region ?_
  refine rs_op rfl (ow_assign rfl ?_)
  refine rs_nil ?_
  refine ew_next ?_
  refine cw_seq ?_
  refine cw_seq ?_
  refine cw_region ?_
  refine rs_op rfl (ow_move rfl ?_)
  refine rs_op rfl (ow_eql rfl rfl ?_)
  refine rs_op rfl (ow_move rfl ?_)
  refine rs_op rfl (ow_on rfl (ow_move rfl ?_))
  refine rs_op rfl (ow_on rfl (ow_eql rfl rfl ?_))
  refine rs_op rfl (ow_pickF rfl rfl ?_)
  refine rs_nil ?_
  refine ew_next ?_
  refine cw_else rfl ?_
  refine cw_skip ?_
  refine ew_next ?_
  refine cw_seq ?_
  refine cw_seq ?_
  refine cw_region ?_
  refine rs_op rfl (ow_move rfl ?_)
  refine rs_nil ?_
  refine ew_next ?_
  refine cw_block ?_
  refine cw_seq ?_
  refine cw_seq ?_
  refine cw_region ?_
  refine rs_op rfl (ow_eql rfl rfl ?_)
  refine rs_op rfl (ow_assign rfl ?_)
  refine rs_nil ?_
  refine ew_next ?_
  refine cw_then rfl ?_
  refine cw_skip ?_
  refine ew_next ?_
  refine cw_then rfl ?_
  refine cw_seq ?_
  refine cw_seq ?_
  refine cw_region ?_
  refine rs_op rfl (ow_move rfl ?_)
  refine rs_nil ?_
  refine ew_next ?_
  refine cw_then rfl ?_
  refine cw_region ?_
  refine rs_op rfl (ow_move rfl ?_)
  refine rs_op rfl (ow_buildSlice (cs := #[.int .u8 45]) Tryz.underlying84 sz5 zr5 (by decide) rfl (by rw [map_range_]; rfl) ?_)
  intro gb1 w2 Bb1 Eb1 Gb1
  have Db1_dst : Apart (some gb1) ((Value.slice A 0 c).ownBlock) := Apart.of_lt (owns_lt Odst) Gb1
  have Ddst_b1 := Db1_dst.symm
  have Gb1 : _ ≤ gb1 := Nat.le_trans E.size Gb1
  have GLb1 := Nat.le_trans LW.size Gb1
  replace Odst := owns_extN Odst Eb1 NotIn.nil
  replace E := E.trans Eb1.no
  clear Eb1
  replace HF := HF.cons (some_ge Gb1)
  replace E := E.cons (some gb1)
  replace XLW := Mut.grow XLW (fun k e => Or.inr (Nat.le_trans LW.size ((some_ge Gb1) k e)))
  replace HF := HF.on E
  replace LW := LW.step E XLW
  have SB : ∀ q9, Mut [((Value.slice A 0 c).ownBlock)] q9 → Mut [(some gb1), ((Value.slice A 0 c).ownBlock)] q9 := (Mut.skip (Mut.keep Mut.nil_))
  replace HF := HF.less SB
  replace XLW := fun k h => XLW k (SB k h)
  clear SB
  replace E := Ext.refl (Mut [((Value.slice A 0 c).ownBlock)]) w2
  replace HF := HF.and (Per.blkN Bb1 (NotIn.cons Db1_dst NotIn.nil))
  clear Bb1
  refine rs_op rfl (ow_append (news := [.int .u8 45]) Tryz.underlying84 inf5 rfl (by decide) rfl Odst rfl (reads_row (HF.on E).here.2 ((HF.on E).here.2).lt rfl) (by simp [Value.oneCell']) (by unfold maxLen; omega) (by omega) (by exact Nat.le_trans HB (Nat.le_trans LW.size E.size)) ?_)
  intro v0 w4 On En KN
  obtain ⟨Aq3, cq3, rfl⟩ := owns_shape On
  replace KN : ∀ q9, ((Value.slice Aq3 1 cq3).ownBlock) = some q9 → ((Value.slice A 0 c).ownBlock) = some q9 ∨ w2.heap.size ≤ q9 := KN
  have HY : ∀ q9, (Mut [((Value.slice Aq3 1 cq3).ownBlock)]) q9 → (Mut [((Value.slice A 0 c).ownBlock)]) q9 ∨ w2.heap.size ≤ q9 := (Mut.grow Mut.none_ (fun k e => (KN k e).elim (fun e => Or.inl (Mut.head k e)) (fun h => Or.inr (Nat.le_trans E.size h))))
  replace E := E.step1 En Mut.head
  replace HF := HF.turn E HY
  have XT := fun q9 (h : (Mut [((Value.slice Aq3 1 cq3).ownBlock)]) q9) => (HY q9 h).elim (XLW q9) (fun h => Or.inr (Nat.le_trans LW.size h))
  replace LW := LW.step E XLW
  replace XLW := XT
  clear XT
  replace E := Ext.refl (Mut [((Value.slice Aq3 1 cq3).ownBlock)]) w4
  clear HY
  replace Odst : World.ownsRow w4 base 5 1 (.slice Aq3 1 cq3) 1 ([.int .u8 45]) := by
    have e : (([]) : List Value) ++ ([.int .u8 45] : List Value) = [.int .u8 45] := rfl
    rw [← e]
    exact On
  clear On KN En
  refine rs_op rfl (ow_assign rfl ?_)
  refine rs_nil ?_
  refine ew_next ?_
  refine cw_seq ?_
  refine cw_region ?_
  refine rs_op rfl (ow_assign rfl ?_)
  refine rs_nil ?_
  refine ew_next ?_
  refine cw_seq ?_
  refine cw_seq ?_
  refine cw_region ?_
  refine rs_op rfl (ow_move rfl ?_)
  refine rs_op rfl (ow_neq rfl rfl ?_)
  refine rs_nil ?_
  refine ew_next ?_
  refine cw_else rfl ?_
  refine cw_skip ?_
  refine ew_next ?_
  refine cw_seq ?_
  refine cw_region ?_
  refine rs_op rfl (ow_move rfl ?_)
  refine rs_op rfl (ow_move rfl ?_)
  refine rs_op rfl (ow_buildSlice (cs := #[.int .u8 48]) Tryz.underlying84 sz5 zr5 (by decide) rfl (by rw [map_range_]; rfl) ?_)
  intro gb5 w6 Bb5 Eb5 Gb5
  have Db5_dst : Apart (some gb5) ((Value.slice Aq3 1 cq3).ownBlock) := Apart.of_lt (owns_lt Odst) Gb5
  have Ddst_b5 := Db5_dst.symm
  have Gb5 : _ ≤ gb5 := Nat.le_trans E.size Gb5
  have GLb5 := Nat.le_trans LW.size Gb5
  replace Odst := owns_extN Odst Eb5 NotIn.nil
  replace E := E.trans Eb5.no
  clear Eb5
  replace HF := HF.cons (some_ge Gb5)
  replace E := E.cons (some gb5)
  replace XLW := Mut.grow XLW (fun k e => Or.inr (Nat.le_trans LW.size ((some_ge Gb5) k e)))
  replace HF := HF.on E
  replace LW := LW.step E XLW
  have SB : ∀ q9, Mut [((Value.slice Aq3 1 cq3).ownBlock)] q9 → Mut [(some gb5), ((Value.slice Aq3 1 cq3).ownBlock)] q9 := (Mut.skip (Mut.keep Mut.nil_))
  replace HF := HF.less SB
  replace XLW := fun k h => XLW k (SB k h)
  clear SB
  replace E := Ext.refl (Mut [((Value.slice Aq3 1 cq3).ownBlock)]) w6
  replace HF := HF.and (Per.blkN Bb5 (NotIn.cons Db5_dst NotIn.nil))
  clear Bb5
  refine rs_op rfl (ow_append (news := [.int .u8 48]) Tryz.underlying84 inf5 rfl (by decide) rfl Odst rfl (reads_row (HF.on E).here.2 ((HF.on E).here.2).lt rfl) (by simp [Value.oneCell']) (by unfold maxLen; omega) (by omega) (by exact Nat.le_trans HB (Nat.le_trans LW.size E.size)) ?_)
  intro v0 w8 On En KN
  obtain ⟨Aq7, cq7, rfl⟩ := owns_shape On
  replace KN : ∀ q9, ((Value.slice Aq7 2 cq7).ownBlock) = some q9 → ((Value.slice Aq3 1 cq3).ownBlock) = some q9 ∨ w6.heap.size ≤ q9 := KN
  have HY : ∀ q9, (Mut [((Value.slice Aq7 2 cq7).ownBlock)]) q9 → (Mut [((Value.slice Aq3 1 cq3).ownBlock)]) q9 ∨ w6.heap.size ≤ q9 := (Mut.grow Mut.none_ (fun k e => (KN k e).elim (fun e => Or.inl (Mut.head k e)) (fun h => Or.inr (Nat.le_trans E.size h))))
  replace E := E.step1 En Mut.head
  replace HF := HF.turn E HY
  have XT := fun q9 (h : (Mut [((Value.slice Aq7 2 cq7).ownBlock)]) q9) => (HY q9 h).elim (XLW q9) (fun h => Or.inr (Nat.le_trans LW.size h))
  replace LW := LW.step E XLW
  replace XLW := XT
  clear XT
  replace E := Ext.refl (Mut [((Value.slice Aq7 2 cq7).ownBlock)]) w8
  clear HY
  replace Odst : World.ownsRow w8 base 5 1 (.slice Aq7 2 cq7) 2 ([.int .u8 45, .int .u8 48]) := by
    have e : (([.int .u8 45]) : List Value) ++ ([.int .u8 48] : List Value) = [.int .u8 45, .int .u8 48] := rfl
    rw [← e]
    exact On
  clear On KN En
  refine rs_op rfl (ow_assign rfl ?_)
  refine rs_nil ?_
  refine ew_next ?_
  refine cw_seq ?_
  refine cw_seq ?_
  refine cw_region ?_
  refine rs_op rfl (ow_move rfl ?_)
  refine rs_op rfl (ow_gtr rfl rfl ?_)
  refine rs_nil ?_
  refine ew_next ?_
  refine cw_else rfl ?_
  refine cw_skip ?_
  refine ew_next ?_
  refine cw_seq ?_
  refine cw_region ?_
  refine rs_op rfl (ow_move rfl ?_)
  refine rs_op rfl (ow_move rfl ?_)
  refine rs_op rfl (ow_buildSlice (cs := #[.int .u8 101]) Tryz.underlying84 sz5 zr5 (by decide) rfl (by rw [map_range_]; rfl) ?_)
  intro gb9 w10 Bb9 Eb9 Gb9
  have Db9_dst : Apart (some gb9) ((Value.slice Aq7 2 cq7).ownBlock) := Apart.of_lt (owns_lt Odst) Gb9
  have Ddst_b9 := Db9_dst.symm
  have Gb9 : _ ≤ gb9 := Nat.le_trans E.size Gb9
  have GLb9 := Nat.le_trans LW.size Gb9
  replace Odst := owns_extN Odst Eb9 NotIn.nil
  replace E := E.trans Eb9.no
  clear Eb9
  replace HF := HF.cons (some_ge Gb9)
  replace E := E.cons (some gb9)
  replace XLW := Mut.grow XLW (fun k e => Or.inr (Nat.le_trans LW.size ((some_ge Gb9) k e)))
  replace HF := HF.on E
  replace LW := LW.step E XLW
  have SB : ∀ q9, Mut [((Value.slice Aq7 2 cq7).ownBlock)] q9 → Mut [(some gb9), ((Value.slice Aq7 2 cq7).ownBlock)] q9 := (Mut.skip (Mut.keep Mut.nil_))
  replace HF := HF.less SB
  replace XLW := fun k h => XLW k (SB k h)
  clear SB
  replace E := Ext.refl (Mut [((Value.slice Aq7 2 cq7).ownBlock)]) w10
  replace HF := HF.and (Per.blkN Bb9 (NotIn.cons Db9_dst NotIn.nil))
  clear Bb9
  refine rs_op rfl (ow_append (news := [.int .u8 101]) Tryz.underlying84 inf5 rfl (by decide) rfl Odst rfl (reads_row (HF.on E).here.2 ((HF.on E).here.2).lt rfl) (by simp [Value.oneCell']) (by unfold maxLen; omega) (by omega) (by exact Nat.le_trans HB (Nat.le_trans LW.size E.size)) ?_)
  intro v0 w12 On En KN
  obtain ⟨Aq11, cq11, rfl⟩ := owns_shape On
  replace KN : ∀ q9, ((Value.slice Aq11 3 cq11).ownBlock) = some q9 → ((Value.slice Aq7 2 cq7).ownBlock) = some q9 ∨ w10.heap.size ≤ q9 := KN
  have HY : ∀ q9, (Mut [((Value.slice Aq11 3 cq11).ownBlock)]) q9 → (Mut [((Value.slice Aq7 2 cq7).ownBlock)]) q9 ∨ w10.heap.size ≤ q9 := (Mut.grow Mut.none_ (fun k e => (KN k e).elim (fun e => Or.inl (Mut.head k e)) (fun h => Or.inr (Nat.le_trans E.size h))))
  replace E := E.step1 En Mut.head
  replace HF := HF.turn E HY
  have XT := fun q9 (h : (Mut [((Value.slice Aq11 3 cq11).ownBlock)]) q9) => (HY q9 h).elim (XLW q9) (fun h => Or.inr (Nat.le_trans LW.size h))
  replace LW := LW.step E XLW
  replace XLW := XT
  clear XT
  replace E := Ext.refl (Mut [((Value.slice Aq11 3 cq11).ownBlock)]) w12
  clear HY
  replace Odst : World.ownsRow w12 base 5 1 (.slice Aq11 3 cq11) 3 ([.int .u8 45, .int .u8 48, .int .u8 101]) := by
    have e : (([.int .u8 45, .int .u8 48]) : List Value) ++ ([.int .u8 101] : List Value) = [.int .u8 45, .int .u8 48, .int .u8 101] := rfl
    rw [← e]
    exact On
  clear On KN En
  refine rs_op rfl (ow_assign rfl ?_)
  refine rs_nil ?_
  refine ew_next ?_
  refine cw_seq ?_
  refine cw_region ?_
  refine rs_op rfl (ow_move rfl ?_)
  refine rs_op rfl (ow_sub (z := (-1)) rfl rfl (by kernel_rfl) ?_)
  refine rs_op rfl (ow_assign rfl ?_)
  refine rs_nil ?_
  refine ew_next ?_
  refine cw_seq ?_
  refine cw_seq ?_
  refine cw_region ?_
  refine rs_op rfl (ow_move rfl ?_)
  refine rs_op rfl (ow_eql rfl rfl ?_)
  refine rs_nil ?_
  refine ew_next ?_
  refine cw_then rfl ?_
  refine cw_region ?_
  refine rs_op rfl (ow_assign rfl ?_)
  refine rs_nil ?_
  refine ew_next ?_
  refine cw_seq ?_
  refine cw_seq ?_
  refine cw_region ?_
  refine rs_op rfl (ow_move rfl ?_)
  refine rs_op rfl (ow_lss rfl rfl ?_)
  refine rs_nil ?_
  refine ew_next ?_
  refine cw_else rfl ?_
  refine cw_region ?_
  refine rs_op rfl (ow_assign rfl ?_)
  refine rs_nil ?_
  refine ew_next ?_
  refine cw_seq ?_
  refine cw_region ?_
  refine rs_op rfl (ow_move rfl ?_)
  refine rs_op rfl (ow_move rfl ?_)
  refine rs_op rfl (ow_buildSlice (cs := #[.int .u8 43]) Tryz.underlying84 sz5 zr5 (by decide) rfl (by rw [map_range_]; rfl) ?_)
  intro gb13 w14 Bb13 Eb13 Gb13
  have Db13_dst : Apart (some gb13) ((Value.slice Aq11 3 cq11).ownBlock) := Apart.of_lt (owns_lt Odst) Gb13
  have Ddst_b13 := Db13_dst.symm
  have Gb13 : _ ≤ gb13 := Nat.le_trans E.size Gb13
  have GLb13 := Nat.le_trans LW.size Gb13
  replace Odst := owns_extN Odst Eb13 NotIn.nil
  replace E := E.trans Eb13.no
  clear Eb13
  replace HF := HF.cons (some_ge Gb13)
  replace E := E.cons (some gb13)
  replace XLW := Mut.grow XLW (fun k e => Or.inr (Nat.le_trans LW.size ((some_ge Gb13) k e)))
  replace HF := HF.on E
  replace LW := LW.step E XLW
  have SB : ∀ q9, Mut [((Value.slice Aq11 3 cq11).ownBlock)] q9 → Mut [(some gb13), ((Value.slice Aq11 3 cq11).ownBlock)] q9 := (Mut.skip (Mut.keep Mut.nil_))
  replace HF := HF.less SB
  replace XLW := fun k h => XLW k (SB k h)
  clear SB
  replace E := Ext.refl (Mut [((Value.slice Aq11 3 cq11).ownBlock)]) w14
  replace HF := HF.and (Per.blkN Bb13 (NotIn.cons Db13_dst NotIn.nil))
  clear Bb13
  refine rs_op rfl (ow_append (news := [.int .u8 43]) Tryz.underlying84 inf5 rfl (by decide) rfl Odst rfl (reads_row (HF.on E).here.2 ((HF.on E).here.2).lt rfl) (by simp [Value.oneCell']) (by unfold maxLen; omega) (by omega) (by exact Nat.le_trans HB (Nat.le_trans LW.size E.size)) ?_)
  intro v0 w16 On En KN
  obtain ⟨Aq15, cq15, rfl⟩ := owns_shape On
  replace KN : ∀ q9, ((Value.slice Aq15 4 cq15).ownBlock) = some q9 → ((Value.slice Aq11 3 cq11).ownBlock) = some q9 ∨ w14.heap.size ≤ q9 := KN
  have HY : ∀ q9, (Mut [((Value.slice Aq15 4 cq15).ownBlock)]) q9 → (Mut [((Value.slice Aq11 3 cq11).ownBlock)]) q9 ∨ w14.heap.size ≤ q9 := (Mut.grow Mut.none_ (fun k e => (KN k e).elim (fun e => Or.inl (Mut.head k e)) (fun h => Or.inr (Nat.le_trans E.size h))))
  replace E := E.step1 En Mut.head
  replace HF := HF.turn E HY
  have XT := fun q9 (h : (Mut [((Value.slice Aq15 4 cq15).ownBlock)]) q9) => (HY q9 h).elim (XLW q9) (fun h => Or.inr (Nat.le_trans LW.size h))
  replace LW := LW.step E XLW
  replace XLW := XT
  clear XT
  replace E := Ext.refl (Mut [((Value.slice Aq15 4 cq15).ownBlock)]) w16
  clear HY
  replace Odst : World.ownsRow w16 base 5 1 (.slice Aq15 4 cq15) 4 ([.int .u8 45, .int .u8 48, .int .u8 101, .int .u8 43]) := by
    have e : (([.int .u8 45, .int .u8 48, .int .u8 101]) : List Value) ++ ([.int .u8 43] : List Value) = [.int .u8 45, .int .u8 48, .int .u8 101, .int .u8 43] := rfl
    rw [← e]
    exact On
  clear On KN En
  refine rs_op rfl (ow_assign rfl ?_)
  refine rs_nil ?_
  refine ew_next ?_
  refine cw_seq ?_
  refine cw_block ?_
  refine cw_seq ?_
  refine cw_region ?_
  refine rs_op rfl (ow_move rfl ?_)
  refine rs_op rfl (ow_lss rfl rfl ?_)
  refine rs_op rfl (ow_assign rfl ?_)
  refine rs_nil ?_
  refine ew_next ?_
  refine cw_then rfl ?_
  refine cw_region ?_
  refine rs_op rfl (ow_move rfl ?_)
  refine rs_op rfl (ow_move rfl ?_)
  refine rs_op rfl (ow_conv (z := 0) Tryz.underlying5 Tryz.underlying3 rfl (by kernel_rfl) ?_)
  refine rs_op rfl (ow_add (z := 48) rfl rfl (by kernel_rfl) ?_)
  refine rs_op rfl (ow_buildSlice (cs := #[.int .u8 48, .int .u8 48]) Tryz.underlying84 sz5 zr5 (by decide) rfl (by rw [map_range_]; rfl) ?_)
  intro gb17 w18 Bb17 Eb17 Gb17
  have Db17_dst : Apart (some gb17) ((Value.slice Aq15 4 cq15).ownBlock) := Apart.of_lt (owns_lt Odst) Gb17
  have Ddst_b17 := Db17_dst.symm
  have Gb17 : _ ≤ gb17 := Nat.le_trans E.size Gb17
  have GLb17 := Nat.le_trans LW.size Gb17
  replace Odst := owns_extN Odst Eb17 NotIn.nil
  replace E := E.trans Eb17.no
  clear Eb17
  replace HF := HF.cons (some_ge Gb17)
  replace E := E.cons (some gb17)
  replace XLW := Mut.grow XLW (fun k e => Or.inr (Nat.le_trans LW.size ((some_ge Gb17) k e)))
  replace HF := HF.on E
  replace LW := LW.step E XLW
  have SB : ∀ q9, Mut [((Value.slice Aq15 4 cq15).ownBlock)] q9 → Mut [(some gb17), ((Value.slice Aq15 4 cq15).ownBlock)] q9 := (Mut.skip (Mut.keep Mut.nil_))
  replace HF := HF.less SB
  replace XLW := fun k h => XLW k (SB k h)
  clear SB
  replace E := Ext.refl (Mut [((Value.slice Aq15 4 cq15).ownBlock)]) w18
  replace HF := HF.and (Per.blkN Bb17 (NotIn.cons Db17_dst NotIn.nil))
  clear Bb17
  refine rs_op rfl (ow_append (news := [.int .u8 48, .int .u8 48]) Tryz.underlying84 inf5 rfl (by decide) rfl Odst rfl (reads_row (HF.on E).here.2 ((HF.on E).here.2).lt rfl) (by simp [Value.oneCell']) (by unfold maxLen; omega) (by omega) (by exact Nat.le_trans HB (Nat.le_trans LW.size E.size)) ?_)
  intro v0 w20 On En KN
  obtain ⟨Aq19, cq19, rfl⟩ := owns_shape On
  replace KN : ∀ q9, ((Value.slice Aq19 6 cq19).ownBlock) = some q9 → ((Value.slice Aq15 4 cq15).ownBlock) = some q9 ∨ w18.heap.size ≤ q9 := KN
  have HY : ∀ q9, (Mut [((Value.slice Aq19 6 cq19).ownBlock)]) q9 → (Mut [((Value.slice Aq15 4 cq15).ownBlock)]) q9 ∨ w18.heap.size ≤ q9 := (Mut.grow Mut.none_ (fun k e => (KN k e).elim (fun e => Or.inl (Mut.head k e)) (fun h => Or.inr (Nat.le_trans E.size h))))
  replace E := E.step1 En Mut.head
  replace HF := HF.turn E HY
  have XT := fun q9 (h : (Mut [((Value.slice Aq19 6 cq19).ownBlock)]) q9) => (HY q9 h).elim (XLW q9) (fun h => Or.inr (Nat.le_trans LW.size h))
  replace LW := LW.step E XLW
  replace XLW := XT
  clear XT
  replace E := Ext.refl (Mut [((Value.slice Aq19 6 cq19).ownBlock)]) w20
  clear HY
  replace Odst : World.ownsRow w20 base 5 1 (.slice Aq19 6 cq19) 6 ([.int .u8 45, .int .u8 48, .int .u8 101, .int .u8 43, .int .u8 48, .int .u8 48]) := by
    have e : (([.int .u8 45, .int .u8 48, .int .u8 101, .int .u8 43]) : List Value) ++ ([.int .u8 48, .int .u8 48] : List Value) = [.int .u8 45, .int .u8 48, .int .u8 101, .int .u8 43, .int .u8 48, .int .u8 48] := rfl
    rw [← e]
    exact On
  clear On KN En
  refine rs_op rfl (ow_assign rfl ?_)
  refine rs_nil ?_
  refine ew_block_normal ?_
  refine ew_next ?_
  refine cw_seq ?_
  refine cw_region ?_
  refine rs_op rfl (ow_move rfl ?_)
  refine rs_op rfl (ow_assign rfl ?_)
  refine rs_nil ?_
  refine ew_next ?_
  refine cw_ret ?_
  refine ew_block_ret ?_
  refine ew_then_ret ?_
  refine ew_ret (rs := [.tmp 16]) (vs := [_]) rfl ⟨rfl, trivial⟩ ?_
  exact ⟨_, _, rfl, Odst, (LW.step E XLW), kn_of XLW⟩
theorem efg_zf : Calls Tryz.prog 158 #[.slice A 0 c, .bool true, .slice none 0 0, .int .i64 0, .int .i64 0, .int .i64 (-1), .int .u8 102, .bool true] w (RetRowB w base (Value.slice A 0 c).ownBlock 2 [.int .u8 45, .int .u8 48]) := by
  refine calls_cw Tryz.func158 rfl Tryz.ntmps158 rfl ?_
  have Odst : World.ownsRow w base 5 1 (.slice A 0 c) 0 ([]) := ho
  have HF : Per (Mut [((Value.slice A 0 c).ownBlock)]) w (fun _ => True) := Per.true_
  have LW := Ext.refl (Mut [((Value.slice A 0 c).ownBlock)]) w
  have XLW : ∀ q9, (Mut [((Value.slice A 0 c).ownBlock)]) q9 → (Mut [((Value.slice A 0 c).ownBlock)]) q9 ∨ w.heap.size ≤ q9 := fun _ h => Or.inl h
  have E := Ext.refl (Mut [((Value.slice A 0 c).ownBlock)]) w
  refine cw_seq ?_
  refine cw_region ?_
  refine rs_op rfl (ow_assign rfl ?_)
  refine rs_nil ?_
  refine ew_next ?_
  refine cw_seq ?_
  refine cw_seq ?_
  refine cw_region ?_
  refine rs_op rfl (ow_move rfl ?_)
  refine rs_op rfl (ow_eql rfl rfl ?_)
  refine rs_op rfl (ow_move rfl ?_)
  refine rs_op rfl (ow_on rfl (ow_move rfl ?_))
  refine rs_op rfl (ow_on rfl (ow_eql rfl rfl ?_))
  refine rs_op rfl (ow_pickF rfl rfl ?_)
  refine rs_nil ?_
  refine ew_next ?_
  refine cw_else rfl ?_
  refine cw_skip ?_
  refine ew_next ?_
  refine cw_seq ?_
  refine cw_seq ?_
  refine cw_region ?_
  refine rs_op rfl (ow_move rfl ?_)
  refine rs_nil ?_
  refine ew_next ?_
  refine cw_block ?_
  refine cw_seq ?_
  refine cw_seq ?_
  refine cw_region ?_
  refine rs_op rfl (ow_eql rfl rfl ?_)
  refine rs_op rfl (ow_assign rfl ?_)
  refine rs_nil ?_
  refine ew_next ?_
  refine cw_else rfl ?_
  refine cw_region ?_
  refine rs_op rfl (ow_eql rfl rfl ?_)
  refine rs_op rfl (ow_assign rfl ?_)
  refine rs_nil ?_
  refine ew_next ?_
  refine cw_else rfl ?_
  refine cw_seq ?_
  refine cw_region ?_
  refine rs_op rfl (ow_eql rfl rfl ?_)
  refine rs_op rfl (ow_assign rfl ?_)
  refine rs_nil ?_
  refine ew_next ?_
  refine cw_then rfl ?_
  refine cw_seq ?_
  refine cw_seq ?_
  refine cw_region ?_
  refine rs_op rfl (ow_move rfl ?_)
  refine rs_nil ?_
  refine ew_next ?_
  refine cw_then rfl ?_
  refine cw_region ?_
  refine rs_op rfl (ow_move rfl ?_)
  refine rs_op rfl (ow_buildSlice (cs := #[.int .u8 45]) Tryz.underlying84 sz5 zr5 (by decide) rfl (by rw [map_range_]; rfl) ?_)
  intro gb1 w2 Bb1 Eb1 Gb1
  have Db1_dst : Apart (some gb1) ((Value.slice A 0 c).ownBlock) := Apart.of_lt (owns_lt Odst) Gb1
  have Ddst_b1 := Db1_dst.symm
  have Gb1 : _ ≤ gb1 := Nat.le_trans E.size Gb1
  have GLb1 := Nat.le_trans LW.size Gb1
  replace Odst := owns_extN Odst Eb1 NotIn.nil
  replace E := E.trans Eb1.no
  clear Eb1
  replace HF := HF.cons (some_ge Gb1)
  replace E := E.cons (some gb1)
  replace XLW := Mut.grow XLW (fun k e => Or.inr (Nat.le_trans LW.size ((some_ge Gb1) k e)))
  replace HF := HF.on E
  replace LW := LW.step E XLW
  have SB : ∀ q9, Mut [((Value.slice A 0 c).ownBlock)] q9 → Mut [(some gb1), ((Value.slice A 0 c).ownBlock)] q9 := (Mut.skip (Mut.keep Mut.nil_))
  replace HF := HF.less SB
  replace XLW := fun k h => XLW k (SB k h)
  clear SB
  replace E := Ext.refl (Mut [((Value.slice A 0 c).ownBlock)]) w2
  replace HF := HF.and (Per.blkN Bb1 (NotIn.cons Db1_dst NotIn.nil))
  clear Bb1
  refine rs_op rfl (ow_append (news := [.int .u8 45]) Tryz.underlying84 inf5 rfl (by decide) rfl Odst rfl (reads_row (HF.on E).here.2 ((HF.on E).here.2).lt rfl) (by simp [Value.oneCell']) (by unfold maxLen; omega) (by omega) (by exact Nat.le_trans HB (Nat.le_trans LW.size E.size)) ?_)
  intro v0 w4 On En KN
  obtain ⟨Aq3, cq3, rfl⟩ := owns_shape On
  replace KN : ∀ q9, ((Value.slice Aq3 1 cq3).ownBlock) = some q9 → ((Value.slice A 0 c).ownBlock) = some q9 ∨ w2.heap.size ≤ q9 := KN
  have HY : ∀ q9, (Mut [((Value.slice Aq3 1 cq3).ownBlock)]) q9 → (Mut [((Value.slice A 0 c).ownBlock)]) q9 ∨ w2.heap.size ≤ q9 := (Mut.grow Mut.none_ (fun k e => (KN k e).elim (fun e => Or.inl (Mut.head k e)) (fun h => Or.inr (Nat.le_trans E.size h))))
  replace E := E.step1 En Mut.head
  replace HF := HF.turn E HY
  have XT := fun q9 (h : (Mut [((Value.slice Aq3 1 cq3).ownBlock)]) q9) => (HY q9 h).elim (XLW q9) (fun h => Or.inr (Nat.le_trans LW.size h))
  replace LW := LW.step E XLW
  replace XLW := XT
  clear XT
  replace E := Ext.refl (Mut [((Value.slice Aq3 1 cq3).ownBlock)]) w4
  clear HY
  replace Odst : World.ownsRow w4 base 5 1 (.slice Aq3 1 cq3) 1 ([.int .u8 45]) := by
    have e : (([]) : List Value) ++ ([.int .u8 45] : List Value) = [.int .u8 45] := rfl
    rw [← e]
    exact On
  clear On KN En
  refine rs_op rfl (ow_assign rfl ?_)
  refine rs_nil ?_
  refine ew_next ?_
  refine cw_seq ?_
  refine cw_seq ?_
  refine cw_region ?_
  refine rs_op rfl (ow_move rfl ?_)
  refine rs_op rfl (ow_gtr rfl rfl ?_)
  refine rs_nil ?_
  refine ew_next ?_
  refine cw_else rfl ?_
  refine cw_region ?_
  refine rs_op rfl (ow_move rfl ?_)
  refine rs_op rfl (ow_buildSlice (cs := #[.int .u8 48]) Tryz.underlying84 sz5 zr5 (by decide) rfl (by rw [map_range_]; rfl) ?_)
  intro gb5 w6 Bb5 Eb5 Gb5
  have Db5_dst : Apart (some gb5) ((Value.slice Aq3 1 cq3).ownBlock) := Apart.of_lt (owns_lt Odst) Gb5
  have Ddst_b5 := Db5_dst.symm
  have Gb5 : _ ≤ gb5 := Nat.le_trans E.size Gb5
  have GLb5 := Nat.le_trans LW.size Gb5
  replace Odst := owns_extN Odst Eb5 NotIn.nil
  replace E := E.trans Eb5.no
  clear Eb5
  replace HF := HF.cons (some_ge Gb5)
  replace E := E.cons (some gb5)
  replace XLW := Mut.grow XLW (fun k e => Or.inr (Nat.le_trans LW.size ((some_ge Gb5) k e)))
  replace HF := HF.on E
  replace LW := LW.step E XLW
  have SB : ∀ q9, Mut [((Value.slice Aq3 1 cq3).ownBlock)] q9 → Mut [(some gb5), ((Value.slice Aq3 1 cq3).ownBlock)] q9 := (Mut.skip (Mut.keep Mut.nil_))
  replace HF := HF.less SB
  replace XLW := fun k h => XLW k (SB k h)
  clear SB
  replace E := Ext.refl (Mut [((Value.slice Aq3 1 cq3).ownBlock)]) w6
  replace HF := HF.and (Per.blkN Bb5 (NotIn.cons Db5_dst NotIn.nil))
  clear Bb5
  refine rs_op rfl (ow_append (news := [.int .u8 48]) Tryz.underlying84 inf5 rfl (by decide) rfl Odst rfl (reads_row (HF.on E).here.2 ((HF.on E).here.2).lt rfl) (by simp [Value.oneCell']) (by unfold maxLen; omega) (by omega) (by exact Nat.le_trans HB (Nat.le_trans LW.size E.size)) ?_)
  intro v0 w8 On En KN
  obtain ⟨Aq7, cq7, rfl⟩ := owns_shape On
  replace KN : ∀ q9, ((Value.slice Aq7 2 cq7).ownBlock) = some q9 → ((Value.slice Aq3 1 cq3).ownBlock) = some q9 ∨ w6.heap.size ≤ q9 := KN
  have HY : ∀ q9, (Mut [((Value.slice Aq7 2 cq7).ownBlock)]) q9 → (Mut [((Value.slice Aq3 1 cq3).ownBlock)]) q9 ∨ w6.heap.size ≤ q9 := (Mut.grow Mut.none_ (fun k e => (KN k e).elim (fun e => Or.inl (Mut.head k e)) (fun h => Or.inr (Nat.le_trans E.size h))))
  replace E := E.step1 En Mut.head
  replace HF := HF.turn E HY
  have XT := fun q9 (h : (Mut [((Value.slice Aq7 2 cq7).ownBlock)]) q9) => (HY q9 h).elim (XLW q9) (fun h => Or.inr (Nat.le_trans LW.size h))
  replace LW := LW.step E XLW
  replace XLW := XT
  clear XT
  replace E := Ext.refl (Mut [((Value.slice Aq7 2 cq7).ownBlock)]) w8
  clear HY
  replace Odst : World.ownsRow w8 base 5 1 (.slice Aq7 2 cq7) 2 ([.int .u8 45, .int .u8 48]) := by
    have e : (([.int .u8 45]) : List Value) ++ ([.int .u8 48] : List Value) = [.int .u8 45, .int .u8 48] := rfl
    rw [← e]
    exact On
  clear On KN En
  refine rs_op rfl (ow_assign rfl ?_)
  refine rs_nil ?_
  refine ew_next ?_
  refine cw_seq ?_
  refine cw_seq ?_
  refine cw_region ?_
  refine rs_op rfl (ow_move rfl ?_)
  refine rs_op rfl (ow_gtr rfl rfl ?_)
  refine rs_nil ?_
  refine ew_next ?_
  refine cw_else rfl ?_
  refine cw_skip ?_
  refine ew_next ?_
  refine cw_seq ?_
  refine cw_region ?_
  refine rs_op rfl (ow_move rfl ?_)
  refine rs_op rfl (ow_assign rfl ?_)
  refine rs_nil ?_
  refine ew_next ?_
  refine cw_ret ?_
  refine ew_block_ret ?_
  refine ew_then_ret ?_
  refine ew_ret (rs := [.tmp 16]) (vs := [_]) rfl ⟨rfl, trivial⟩ ?_
  exact ⟨_, _, rfl, Odst, (LW.step E XLW), kn_of XLW⟩
theorem ftoa_ze : Calls Tryz.prog 130 #[.slice A 0 c, .float .f64 9223372036854775808, .int .u8 101, .int .i64 (-1)] w (RetRowB w base (Value.slice A 0 c).ownBlock 6 [.int .u8 45, .int .u8 48, .int .u8 101, .int .u8 43, .int .u8 48, .int .u8 48]) := by
  refine calls_cw Tryz.func130 rfl Tryz.ntmps130 rfl ?_
  have Odst : World.ownsRow w base 5 1 (.slice A 0 c) 0 ([]) := ho
  have HF : Per (Mut [((Value.slice A 0 c).ownBlock)]) w (fun _ => True) := Per.true_
  have LW := Ext.refl (Mut [((Value.slice A 0 c).ownBlock)]) w
  have XLW : ∀ q9, (Mut [((Value.slice A 0 c).ownBlock)]) q9 → (Mut [((Value.slice A 0 c).ownBlock)]) q9 ∨ w.heap.size ≤ q9 := fun _ h => Or.inl h
  have E := Ext.refl (Mut [((Value.slice A 0 c).ownBlock)]) w
  refine cw_seq ?_
  refine cw_region ?_
  refine rs_op rfl (ow_assign rfl ?_)
  refine rs_nil ?_
  refine ew_next ?_
  refine cw_seq ?_
  refine cw_region ?_
  refine rs_op rfl (ow_assign rfl ?_)
  refine rs_nil ?_
  refine ew_next ?_
  refine cw_seq ?_
  refine cw_region ?_
  refine rs_op rfl (ow_assign rfl ?_)
  refine rs_op rfl (ow_assign rfl ?_)
  refine rs_op rfl (ow_assign rfl ?_)
  refine rs_nil ?_
  refine ew_next ?_
  refine cw_seq ?_
  refine cw_block ?_
  refine cw_seq ?_
  refine cw_region ?_
  refine rs_op rfl (ow_eql rfl rfl ?_)
  refine rs_op rfl (ow_assign rfl ?_)
  refine rs_nil ?_
  refine ew_next ?_
  refine cw_else rfl ?_
  refine cw_seq ?_
  refine cw_region ?_
  refine rs_op rfl (ow_eql rfl rfl ?_)
  refine rs_op rfl (ow_assign rfl ?_)
  refine rs_nil ?_
  refine ew_next ?_
  refine cw_then rfl ?_
  refine cw_seq ?_
  refine cw_region ?_
  refine rs_op rfl (ow_move rfl ?_)
  refine rs_op rfl (ow_bits ex155 rfl ?_)
  refine rs_op rfl (ow_assign rfl ?_)
  refine rs_nil ?_
  refine ew_next ?_
  refine cw_seq ?_
  refine cw_region ?_
  refine rs_op rfl (ow_assign rfl ?_)
  refine rs_nil ?_
  refine ew_next ?_
  refine cw_seq ?_
  refine cw_region ?_
  refine rs_op rfl (ow_assign rfl ?_)
  refine rs_nil ?_
  refine ew_next ?_
  refine cw_region ?_
  refine rs_op rfl (ow_assign rfl ?_)
  refine rs_nil ?_
  refine ew_block_normal ?_
  refine ew_next ?_
  refine cw_seq ?_
  refine cw_region ?_
  refine rs_op rfl (ow_move rfl ?_)
  refine rs_op rfl (ow_move rfl ?_)
  refine rs_op rfl (ow_move rfl ?_)
  refine rs_op rfl (ow_add (z := 63) rfl rfl (by kernel_rfl) ?_)
  refine rs_op rfl (ow_shr (z := 1) rfl rfl (by decide) (by kernel_rfl) ?_)
  refine rs_op rfl (ow_neq rfl rfl ?_)
  refine rs_op rfl (ow_assign rfl ?_)
  refine rs_nil ?_
  refine ew_next ?_
  refine cw_seq ?_
  have OY : ∀ q9, (Mut (outM [])) q9 → q9 < (World.drew w).heap.size → (Mut [((Value.slice A 0 c).ownBlock)]) q9 := fun k h _ => (Mut.none_) k h
  refine cw_drawn (Mut [((Value.slice A 0 c).ownBlock)]) (Mut.grow Mut.none_ (owns_lt Odst)) [] [] (fxAt [Fx.of (.int .u64 9223372036854775808),
      Fx.of (.int .i64 52),
      Fx.of (.int .u64 2048),
      Fx.of (.int .i64 2048),
      Fx.of (.int .i64 11),
      Fx.of (.int .i64 2048),
      Fx.of (.int .i64 2047),
      Fx.of (.int .i64 0),
      Fx.of (.int .i64 0)]) mixed rfl trivial (fun _ h => by cases h) ?_ ?_
  · refine ⟨?_, ?_, ?_, ?_, ?_, ?_, ?_, ?_, ?_, trivial⟩
    · intro vs X wq K
      have LE := K.1
      have XN := K.2.1
      have SQ := Nat.le_trans LW.size (Nat.le_trans E.size LE.size)
      exact ow_move rfl ⟨Below.refl _ _, Left.of rfl⟩
    · intro vs X wq K
      have LE := K.1
      have XN := K.2.1
      have SQ := Nat.le_trans LW.size (Nat.le_trans E.size LE.size)
      exact ow_move rfl ⟨Below.refl _ _, Left.of rfl⟩
    · intro vs X wq K
      have LE := K.1
      have XN := K.2.1
      have SQ := Nat.le_trans LW.size (Nat.le_trans E.size LE.size)
      obtain ⟨_, e0, k0⟩ := K.dep 0 rfl rfl rfl
      refine ow_set 50 (.int .u64 9223372036854775808) rfl e0 ?_
      obtain ⟨_, e1, k1⟩ := K.dep 1 rfl rfl rfl
      refine ow_set 51 (.int .i64 52) rfl e1 ?_
      exact ow_shr (z := 2048) rfl rfl (by decide) (by kernel_rfl) ⟨Below.refl _ _, Left.of rfl⟩
    · intro vs X wq K
      have LE := K.1
      have XN := K.2.1
      have SQ := Nat.le_trans LW.size (Nat.le_trans E.size LE.size)
      obtain ⟨_, e2, k2⟩ := K.dep 2 rfl rfl rfl
      refine ow_set 52 (.int .u64 2048) rfl e2 ?_
      exact ow_conv (z := 2048) Tryz.underlying3 Tryz.underlying22 rfl (by kernel_rfl) ⟨Below.refl _ _, Left.of rfl⟩
    · intro vs X wq K
      have LE := K.1
      have XN := K.2.1
      have SQ := Nat.le_trans LW.size (Nat.le_trans E.size LE.size)
      exact ow_move rfl ⟨Below.refl _ _, Left.of rfl⟩
    · intro vs X wq K
      have LE := K.1
      have XN := K.2.1
      have SQ := Nat.le_trans LW.size (Nat.le_trans E.size LE.size)
      obtain ⟨_, e4, k4⟩ := K.dep 4 rfl rfl rfl
      refine ow_set 54 (.int .i64 11) rfl e4 ?_
      exact ow_shl (z := 2048) rfl rfl (by decide) (by kernel_rfl) ⟨Below.refl _ _, Left.of rfl⟩
    · intro vs X wq K
      have LE := K.1
      have XN := K.2.1
      have SQ := Nat.le_trans LW.size (Nat.le_trans E.size LE.size)
      obtain ⟨_, e5, k5⟩ := K.dep 5 rfl rfl rfl
      refine ow_set 55 (.int .i64 2048) rfl e5 ?_
      exact ow_sub (z := 2047) rfl rfl (by kernel_rfl) ⟨Below.refl _ _, Left.of rfl⟩
    · intro vs X wq K
      have LE := K.1
      have XN := K.2.1
      have SQ := Nat.le_trans LW.size (Nat.le_trans E.size LE.size)
      obtain ⟨_, e3, k3⟩ := K.dep 3 rfl rfl rfl
      refine ow_set 53 (.int .i64 2048) rfl e3 ?_
      obtain ⟨_, e6, k6⟩ := K.dep 6 rfl rfl rfl
      refine ow_set 56 (.int .i64 2047) rfl e6 ?_
      exact ow_and (z := 0) rfl rfl (by kernel_rfl) ⟨Below.refl _ _, Left.of rfl⟩
    · intro vs X wq K
      have LE := K.1
      have XN := K.2.1
      have SQ := Nat.le_trans LW.size (Nat.le_trans E.size LE.size)
      obtain ⟨_, e7, k7⟩ := K.dep 7 rfl rfl rfl
      refine ow_set 57 (.int .i64 0) rfl e7 ?_
      exact ow_assign rfl ⟨Below.refl _ _, Left.of rfl⟩
  intro vs w1 LE AO AL AF AA
  have LOdst := Odst
  replace Odst := owns_extN (w := World.drew _) Odst LE NotIn.nil
  replace E := E.drew.trans (LE.mono OY)
  obtain ⟨_, e8, k8⟩ := AL.2.2.2.2.2.2.2.2.1
  refine ew_sub (τ := [(0, _), (2, _), (3, _), (8, _), (9, _), (10, _), (11, _), (12, _), (13, _), (14, .int .i64 0)]) ⟨rfl, rfl, rfl, rfl, rfl, rfl, rfl, rfl, rfl, congrArg some e8, trivial⟩ ?_
  clear AL AF AA LE AO OY e8 k8 LOdst
  refine ew_next ?_
  refine cw_seq ?_
  refine cw_region ?_
  refine rs_op rfl (ow_move rfl ?_)
  refine rs_op rfl (ow_move rfl ?_)
  refine rs_op rfl (ow_shl (z := 4503599627370496) rfl rfl (by decide) (by kernel_rfl) ?_)
  refine rs_op rfl (ow_sub (z := 4503599627370495) rfl rfl (by kernel_rfl) ?_)
  refine rs_op rfl (ow_and (z := 0) rfl rfl (by kernel_rfl) ?_)
  refine rs_op rfl (ow_assign rfl ?_)
  refine rs_nil ?_
  refine ew_next ?_
  refine cw_seq ?_
  refine cw_seq ?_
  refine cw_region ?_
  refine rs_op rfl (ow_move rfl ?_)
  refine rs_op rfl (ow_move rfl ?_)
  refine rs_op rfl (ow_shl (z := 2048) rfl rfl (by decide) (by kernel_rfl) ?_)
  refine rs_op rfl (ow_sub (z := 2047) rfl rfl (by kernel_rfl) ?_)
  refine rs_op rfl (ow_eql rfl rfl ?_)
  refine rs_nil ?_
  refine ew_next ?_
  refine cw_else rfl ?_
  refine cw_skip ?_
  refine ew_next ?_
  refine cw_seq ?_
  refine cw_seq ?_
  refine cw_region ?_
  refine rs_op rfl (ow_move rfl ?_)
  refine rs_op rfl (ow_eql rfl rfl ?_)
  refine rs_nil ?_
  refine ew_next ?_
  refine cw_then rfl ?_
  refine cw_region ?_
  refine rs_op rfl (ow_move rfl ?_)
  refine rs_op rfl (ow_add (z := 1) rfl rfl (by kernel_rfl) ?_)
  refine rs_op rfl (ow_assign rfl ?_)
  refine rs_nil ?_
  refine ew_next ?_
  refine cw_seq ?_
  refine cw_region ?_
  refine rs_op rfl (ow_move rfl ?_)
  refine rs_op rfl (ow_move rfl ?_)
  refine rs_op rfl (ow_add (z := (-1022)) rfl rfl (by kernel_rfl) ?_)
  refine rs_op rfl (ow_assign rfl ?_)
  refine rs_nil ?_
  refine ew_next ?_
  refine cw_seq ?_
  refine cw_seq ?_
  refine cw_region ?_
  refine rs_op rfl (ow_move rfl ?_)
  refine rs_op rfl (ow_eql rfl rfl ?_)
  refine rs_nil ?_
  refine ew_next ?_
  refine cw_else rfl ?_
  refine cw_skip ?_
  refine ew_next ?_
  refine cw_seq ?_
  refine cw_seq ?_
  refine cw_region ?_
  refine rs_op rfl (ow_move rfl ?_)
  refine rs_op rfl (ow_eql rfl rfl ?_)
  refine rs_op rfl (ow_move rfl ?_)
  refine rs_op rfl (ow_on rfl (ow_move rfl ?_))
  refine rs_op rfl (ow_on rfl (ow_eql rfl rfl ?_))
  refine rs_op rfl (ow_pickF rfl rfl ?_)
  refine rs_nil ?_
  refine ew_next ?_
  refine cw_else rfl ?_
  refine cw_skip ?_
  refine ew_next ?_
  refine cw_seq ?_
  refine cw_seq ?_
  refine cw_region ?_
  refine rs_op rfl (ow_move rfl ?_)
  refine rs_op rfl (ow_eql rfl rfl ?_)
  refine rs_nil ?_
  refine ew_next ?_
  refine cw_then rfl ?_
  refine cw_seq ?_
  refine cw_region ?_
  refine rs_op rfl (ow_move rfl ?_)
  refine rs_op rfl (ow_move rfl ?_)
  refine rs_op rfl (ow_move rfl ?_)
  refine rs_op rfl (ow_move rfl ?_)
  refine rs_op rfl (ow_move rfl ?_)
  refine rs_op rfl (ow_lss rfl rfl ?_)
  refine rs_op rfl (ow_enter en158 rfl ((efg_ze _ base A c (Nat.le_trans HB (Nat.le_trans LW.size E.size)) Odst).mono ?_))
  rintro e w2 ⟨A1, c1, rfl, On, En, KN⟩
  refine ⟨_, rfl, ?_⟩
  replace KN : ∀ q9, ((Value.slice A1 6 c1).ownBlock) = some q9 → ((Value.slice A 0 c).ownBlock) = some q9 ∨ w1.heap.size ≤ q9 := KN
  have HY : ∀ q9, (Mut [((Value.slice A1 6 c1).ownBlock)]) q9 → (Mut [((Value.slice A 0 c).ownBlock)]) q9 ∨ w.heap.size ≤ q9 := (Mut.grow Mut.none_ (fun k e => (KN k e).elim (fun e => Or.inl (Mut.head k e)) (fun h => Or.inr (Nat.le_trans E.size h))))
  replace E := E.step1 En Mut.head
  replace HF := HF.turn E HY
  have XT := fun q9 (h : (Mut [((Value.slice A1 6 c1).ownBlock)]) q9) => (HY q9 h).elim (XLW q9) (fun h => Or.inr (Nat.le_trans LW.size h))
  replace LW := LW.step E XLW
  replace XLW := XT
  clear XT
  replace E := Ext.refl (Mut [((Value.slice A1 6 c1).ownBlock)]) w2
  clear HY
  replace Odst : World.ownsRow w2 base 5 1 (.slice A1 6 c1) 6 ([.int .u8 45, .int .u8 48, .int .u8 101, .int .u8 43, .int .u8 48, .int .u8 48]) := On
  clear On KN En
  refine rs_op rfl (ow_assign rfl ?_)
  refine rs_nil ?_
  refine ew_next ?_
  refine cw_ret ?_
  refine ew_then_ret ?_
  refine ew_ret (rs := [.tmp 8]) (vs := [_]) rfl ⟨rfl, trivial⟩ ?_
  exact ⟨_, _, rfl, Odst, (LW.step E XLW), kn_of XLW⟩
theorem ftoa_zf : Calls Tryz.prog 130 #[.slice A 0 c, .float .f64 9223372036854775808, .int .u8 102, .int .i64 (-1)] w (RetRowB w base (Value.slice A 0 c).ownBlock 2 [.int .u8 45, .int .u8 48]) := by
  refine calls_cw Tryz.func130 rfl Tryz.ntmps130 rfl ?_
  have Odst : World.ownsRow w base 5 1 (.slice A 0 c) 0 ([]) := ho
  have HF : Per (Mut [((Value.slice A 0 c).ownBlock)]) w (fun _ => True) := Per.true_
  have LW := Ext.refl (Mut [((Value.slice A 0 c).ownBlock)]) w
  have XLW : ∀ q9, (Mut [((Value.slice A 0 c).ownBlock)]) q9 → (Mut [((Value.slice A 0 c).ownBlock)]) q9 ∨ w.heap.size ≤ q9 := fun _ h => Or.inl h
  have E := Ext.refl (Mut [((Value.slice A 0 c).ownBlock)]) w
  refine cw_seq ?_
  refine cw_region ?_
  refine rs_op rfl (ow_assign rfl ?_)
  refine rs_nil ?_
  refine ew_next ?_
  refine cw_seq ?_
  refine cw_region ?_
  refine rs_op rfl (ow_assign rfl ?_)
  refine rs_nil ?_
  refine ew_next ?_
  refine cw_seq ?_
  refine cw_region ?_
  refine rs_op rfl (ow_assign rfl ?_)
  refine rs_op rfl (ow_assign rfl ?_)
  refine rs_op rfl (ow_assign rfl ?_)
  refine rs_nil ?_
  refine ew_next ?_
  refine cw_seq ?_
  refine cw_block ?_
  refine cw_seq ?_
  refine cw_region ?_
  refine rs_op rfl (ow_eql rfl rfl ?_)
  refine rs_op rfl (ow_assign rfl ?_)
  refine rs_nil ?_
  refine ew_next ?_
  refine cw_else rfl ?_
  refine cw_seq ?_
  refine cw_region ?_
  refine rs_op rfl (ow_eql rfl rfl ?_)
  refine rs_op rfl (ow_assign rfl ?_)
  refine rs_nil ?_
  refine ew_next ?_
  refine cw_then rfl ?_
  refine cw_seq ?_
  refine cw_region ?_
  refine rs_op rfl (ow_move rfl ?_)
  refine rs_op rfl (ow_bits ex155 rfl ?_)
  refine rs_op rfl (ow_assign rfl ?_)
  refine rs_nil ?_
  refine ew_next ?_
  refine cw_seq ?_
  refine cw_region ?_
  refine rs_op rfl (ow_assign rfl ?_)
  refine rs_nil ?_
  refine ew_next ?_
  refine cw_seq ?_
  refine cw_region ?_
  refine rs_op rfl (ow_assign rfl ?_)
  refine rs_nil ?_
  refine ew_next ?_
  refine cw_region ?_
  refine rs_op rfl (ow_assign rfl ?_)
  refine rs_nil ?_
  refine ew_block_normal ?_
  refine ew_next ?_
  refine cw_seq ?_
  refine cw_region ?_
  refine rs_op rfl (ow_move rfl ?_)
  refine rs_op rfl (ow_move rfl ?_)
  refine rs_op rfl (ow_move rfl ?_)
  refine rs_op rfl (ow_add (z := 63) rfl rfl (by kernel_rfl) ?_)
  refine rs_op rfl (ow_shr (z := 1) rfl rfl (by decide) (by kernel_rfl) ?_)
  refine rs_op rfl (ow_neq rfl rfl ?_)
  refine rs_op rfl (ow_assign rfl ?_)
  refine rs_nil ?_
  refine ew_next ?_
  refine cw_seq ?_
  have OY : ∀ q9, (Mut (outM [])) q9 → q9 < (World.drew w).heap.size → (Mut [((Value.slice A 0 c).ownBlock)]) q9 := fun k h _ => (Mut.none_) k h
  refine cw_drawn (Mut [((Value.slice A 0 c).ownBlock)]) (Mut.grow Mut.none_ (owns_lt Odst)) [] [] (fxAt [Fx.of (.int .u64 9223372036854775808),
      Fx.of (.int .i64 52),
      Fx.of (.int .u64 2048),
      Fx.of (.int .i64 2048),
      Fx.of (.int .i64 11),
      Fx.of (.int .i64 2048),
      Fx.of (.int .i64 2047),
      Fx.of (.int .i64 0),
      Fx.of (.int .i64 0)]) mixed rfl trivial (fun _ h => by cases h) ?_ ?_
  · refine ⟨?_, ?_, ?_, ?_, ?_, ?_, ?_, ?_, ?_, trivial⟩
    · intro vs X wq K
      have LE := K.1
      have XN := K.2.1
      have SQ := Nat.le_trans LW.size (Nat.le_trans E.size LE.size)
      exact ow_move rfl ⟨Below.refl _ _, Left.of rfl⟩
    · intro vs X wq K
      have LE := K.1
      have XN := K.2.1
      have SQ := Nat.le_trans LW.size (Nat.le_trans E.size LE.size)
      exact ow_move rfl ⟨Below.refl _ _, Left.of rfl⟩
    · intro vs X wq K
      have LE := K.1
      have XN := K.2.1
      have SQ := Nat.le_trans LW.size (Nat.le_trans E.size LE.size)
      obtain ⟨_, e0, k0⟩ := K.dep 0 rfl rfl rfl
      refine ow_set 50 (.int .u64 9223372036854775808) rfl e0 ?_
      obtain ⟨_, e1, k1⟩ := K.dep 1 rfl rfl rfl
      refine ow_set 51 (.int .i64 52) rfl e1 ?_
      exact ow_shr (z := 2048) rfl rfl (by decide) (by kernel_rfl) ⟨Below.refl _ _, Left.of rfl⟩
    · intro vs X wq K
      have LE := K.1
      have XN := K.2.1
      have SQ := Nat.le_trans LW.size (Nat.le_trans E.size LE.size)
      obtain ⟨_, e2, k2⟩ := K.dep 2 rfl rfl rfl
      refine ow_set 52 (.int .u64 2048) rfl e2 ?_
      exact ow_conv (z := 2048) Tryz.underlying3 Tryz.underlying22 rfl (by kernel_rfl) ⟨Below.refl _ _, Left.of rfl⟩
    · intro vs X wq K
      have LE := K.1
      have XN := K.2.1
      have SQ := Nat.le_trans LW.size (Nat.le_trans E.size LE.size)
      exact ow_move rfl ⟨Below.refl _ _, Left.of rfl⟩
    · intro vs X wq K
      have LE := K.1
      have XN := K.2.1
      have SQ := Nat.le_trans LW.size (Nat.le_trans E.size LE.size)
      obtain ⟨_, e4, k4⟩ := K.dep 4 rfl rfl rfl
      refine ow_set 54 (.int .i64 11) rfl e4 ?_
      exact ow_shl (z := 2048) rfl rfl (by decide) (by kernel_rfl) ⟨Below.refl _ _, Left.of rfl⟩
    · intro vs X wq K
      have LE := K.1
      have XN := K.2.1
      have SQ := Nat.le_trans LW.size (Nat.le_trans E.size LE.size)
      obtain ⟨_, e5, k5⟩ := K.dep 5 rfl rfl rfl
      refine ow_set 55 (.int .i64 2048) rfl e5 ?_
      exact ow_sub (z := 2047) rfl rfl (by kernel_rfl) ⟨Below.refl _ _, Left.of rfl⟩
    · intro vs X wq K
      have LE := K.1
      have XN := K.2.1
      have SQ := Nat.le_trans LW.size (Nat.le_trans E.size LE.size)
      obtain ⟨_, e3, k3⟩ := K.dep 3 rfl rfl rfl
      refine ow_set 53 (.int .i64 2048) rfl e3 ?_
      obtain ⟨_, e6, k6⟩ := K.dep 6 rfl rfl rfl
      refine ow_set 56 (.int .i64 2047) rfl e6 ?_
      exact ow_and (z := 0) rfl rfl (by kernel_rfl) ⟨Below.refl _ _, Left.of rfl⟩
    · intro vs X wq K
      have LE := K.1
      have XN := K.2.1
      have SQ := Nat.le_trans LW.size (Nat.le_trans E.size LE.size)
      obtain ⟨_, e7, k7⟩ := K.dep 7 rfl rfl rfl
      refine ow_set 57 (.int .i64 0) rfl e7 ?_
      exact ow_assign rfl ⟨Below.refl _ _, Left.of rfl⟩
  intro vs w1 LE AO AL AF AA
  have LOdst := Odst
  replace Odst := owns_extN (w := World.drew _) Odst LE NotIn.nil
  replace E := E.drew.trans (LE.mono OY)
  obtain ⟨_, e8, k8⟩ := AL.2.2.2.2.2.2.2.2.1
  refine ew_sub (τ := [(0, _), (2, _), (3, _), (8, _), (9, _), (10, _), (11, _), (12, _), (13, _), (14, .int .i64 0)]) ⟨rfl, rfl, rfl, rfl, rfl, rfl, rfl, rfl, rfl, congrArg some e8, trivial⟩ ?_
  clear AL AF AA LE AO OY e8 k8 LOdst
  refine ew_next ?_
  refine cw_seq ?_
  refine cw_region ?_
  refine rs_op rfl (ow_move rfl ?_)
  refine rs_op rfl (ow_move rfl ?_)
  refine rs_op rfl (ow_shl (z := 4503599627370496) rfl rfl (by decide) (by kernel_rfl) ?_)
  refine rs_op rfl (ow_sub (z := 4503599627370495) rfl rfl (by kernel_rfl) ?_)
  refine rs_op rfl (ow_and (z := 0) rfl rfl (by kernel_rfl) ?_)
  refine rs_op rfl (ow_assign rfl ?_)
  refine rs_nil ?_
  refine ew_next ?_
  refine cw_seq ?_
  refine cw_seq ?_
  refine cw_region ?_
  refine rs_op rfl (ow_move rfl ?_)
  refine rs_op rfl (ow_move rfl ?_)
  refine rs_op rfl (ow_shl (z := 2048) rfl rfl (by decide) (by kernel_rfl) ?_)
  refine rs_op rfl (ow_sub (z := 2047) rfl rfl (by kernel_rfl) ?_)
  refine rs_op rfl (ow_eql rfl rfl ?_)
  refine rs_nil ?_
  refine ew_next ?_
  refine cw_else rfl ?_
  refine cw_skip ?_
  refine ew_next ?_
  refine cw_seq ?_
  refine cw_seq ?_
  refine cw_region ?_
  refine rs_op rfl (ow_move rfl ?_)
  refine rs_op rfl (ow_eql rfl rfl ?_)
  refine rs_nil ?_
  refine ew_next ?_
  refine cw_then rfl ?_
  refine cw_region ?_
  refine rs_op rfl (ow_move rfl ?_)
  refine rs_op rfl (ow_add (z := 1) rfl rfl (by kernel_rfl) ?_)
  refine rs_op rfl (ow_assign rfl ?_)
  refine rs_nil ?_
  refine ew_next ?_
  refine cw_seq ?_
  refine cw_region ?_
  refine rs_op rfl (ow_move rfl ?_)
  refine rs_op rfl (ow_move rfl ?_)
  refine rs_op rfl (ow_add (z := (-1022)) rfl rfl (by kernel_rfl) ?_)
  refine rs_op rfl (ow_assign rfl ?_)
  refine rs_nil ?_
  refine ew_next ?_
  refine cw_seq ?_
  refine cw_seq ?_
  refine cw_region ?_
  refine rs_op rfl (ow_move rfl ?_)
  refine rs_op rfl (ow_eql rfl rfl ?_)
  refine rs_nil ?_
  refine ew_next ?_
  refine cw_else rfl ?_
  refine cw_skip ?_
  refine ew_next ?_
  refine cw_seq ?_
  refine cw_seq ?_
  refine cw_region ?_
  refine rs_op rfl (ow_move rfl ?_)
  refine rs_op rfl (ow_eql rfl rfl ?_)
  refine rs_op rfl (ow_move rfl ?_)
  refine rs_op rfl (ow_on rfl (ow_move rfl ?_))
  refine rs_op rfl (ow_on rfl (ow_eql rfl rfl ?_))
  refine rs_op rfl (ow_pickF rfl rfl ?_)
  refine rs_nil ?_
  refine ew_next ?_
  refine cw_else rfl ?_
  refine cw_skip ?_
  refine ew_next ?_
  refine cw_seq ?_
  refine cw_seq ?_
  refine cw_region ?_
  refine rs_op rfl (ow_move rfl ?_)
  refine rs_op rfl (ow_eql rfl rfl ?_)
  refine rs_nil ?_
  refine ew_next ?_
  refine cw_then rfl ?_
  refine cw_seq ?_
  refine cw_region ?_
  refine rs_op rfl (ow_move rfl ?_)
  refine rs_op rfl (ow_move rfl ?_)
  refine rs_op rfl (ow_move rfl ?_)
  refine rs_op rfl (ow_move rfl ?_)
  refine rs_op rfl (ow_move rfl ?_)
  refine rs_op rfl (ow_lss rfl rfl ?_)
  refine rs_op rfl (ow_enter en158 rfl ((efg_zf _ base A c (Nat.le_trans HB (Nat.le_trans LW.size E.size)) Odst).mono ?_))
  rintro e w2 ⟨A1, c1, rfl, On, En, KN⟩
  refine ⟨_, rfl, ?_⟩
  replace KN : ∀ q9, ((Value.slice A1 2 c1).ownBlock) = some q9 → ((Value.slice A 0 c).ownBlock) = some q9 ∨ w1.heap.size ≤ q9 := KN
  have HY : ∀ q9, (Mut [((Value.slice A1 2 c1).ownBlock)]) q9 → (Mut [((Value.slice A 0 c).ownBlock)]) q9 ∨ w.heap.size ≤ q9 := (Mut.grow Mut.none_ (fun k e => (KN k e).elim (fun e => Or.inl (Mut.head k e)) (fun h => Or.inr (Nat.le_trans E.size h))))
  replace E := E.step1 En Mut.head
  replace HF := HF.turn E HY
  have XT := fun q9 (h : (Mut [((Value.slice A1 2 c1).ownBlock)]) q9) => (HY q9 h).elim (XLW q9) (fun h => Or.inr (Nat.le_trans LW.size h))
  replace LW := LW.step E XLW
  replace XLW := XT
  clear XT
  replace E := Ext.refl (Mut [((Value.slice A1 2 c1).ownBlock)]) w2
  clear HY
  replace Odst : World.ownsRow w2 base 5 1 (.slice A1 2 c1) 2 ([.int .u8 45, .int .u8 48]) := On
  clear On KN En
  refine rs_op rfl (ow_assign rfl ?_)
  refine rs_nil ?_
  refine ew_next ?_
  refine cw_ret ?_
  refine ew_then_ret ?_
  refine ew_ret (rs := [.tmp 8]) (vs := [_]) rfl ⟨rfl, trivial⟩ ?_
  exact ⟨_, _, rfl, Odst, (LW.step E XLW), kn_of XLW⟩
end
theorem ct71_4 : Gives 71 #[.float .f64 9223372036854775808] (.float .f64 0) := by
  intro w
  refine calls_cw Tryz.func71 rfl Tryz.ntmps71 rfl ?_
  have HF : Per (No) w (fun _ => True) := Per.true_
  have LW := Ext.refl (No) w
  have XLW : ∀ q9, (No) q9 → (No) q9 ∨ w.heap.size ≤ q9 := fun _ h => Or.inl h
  have E := Ext.refl (No) w
  refine cw_seq ?_
  refine cw_region ?_
  refine rs_op rfl (ow_assign rfl ?_)
  refine rs_nil ?_
  refine ew_next ?_
  refine cw_seq ?_
  refine cw_region ?_
  refine rs_op rfl (ow_move rfl ?_)
  refine rs_op rfl (ow_bits ex59 rfl ?_)
  refine rs_op rfl (ow_andNot (z := 0) rfl rfl (by kernel_rfl) ?_)
  refine rs_op rfl (ow_frombits (b := 0) ex60 rfl ?_)
  refine rs_op rfl (ow_assign rfl ?_)
  refine rs_nil ?_
  refine ew_next ?_
  refine cw_ret ?_
  refine ew_ret (rs := [.tmp 2]) (vs := [.float .f64 0]) rfl ⟨rfl, trivial⟩ ?_
  exact ⟨rfl, (LW.step E XLW).toBelow⟩
theorem ct61_4 : Gives 61 #[.float .f64 9223372036854775808, .int .i64 0] (.bool false) := by
  intro w
  refine calls_cw Tryz.func61 rfl Tryz.ntmps61 rfl ?_
  have HF : Per (No) w (fun _ => True) := Per.true_
  have LW := Ext.refl (No) w
  have XLW : ∀ q9, (No) q9 → (No) q9 ∨ w.heap.size ≤ q9 := fun _ h => Or.inl h
  have E := Ext.refl (No) w
  refine cw_seq ?_
  refine cw_region ?_
  refine rs_op rfl (ow_assign rfl ?_)
  refine rs_nil ?_
  refine ew_next ?_
  refine cw_seq ?_
  refine cw_seq ?_
  refine cw_region ?_
  refine rs_op rfl (ow_move rfl ?_)
  refine rs_op rfl (ow_eql rfl rfl ?_)
  refine rs_nil ?_
  refine ew_next ?_
  refine cw_then rfl ?_
  refine cw_region ?_
  refine rs_op rfl (ow_move rfl ?_)
  refine rs_op rfl (ow_enter en71 rfl ((ct71_4 _).mono ?_))
  rintro e w1 ⟨rfl, hb⟩
  refine ⟨_, rfl, ?_⟩
  have Ec := Ext.of_below hb No
  replace E := E.trans Ec.no
  clear hb Ec
  refine rs_op rfl (ow_assign rfl ?_)
  refine rs_nil ?_
  refine ew_next ?_
  refine cw_seq ?_
  refine cw_region ?_
  refine rs_op rfl (ow_move rfl ?_)
  refine rs_op rfl (ow_fgtr rfl rfl ?_)
  refine rs_set 14 (.bool false) rfl (by kernel_rfl : (.bool (ford 0 9218868437227405311 == some .gt) : Value) = _) ?_
  refine rs_op rfl (ow_assign rfl ?_)
  refine rs_nil ?_
  refine ew_next ?_
  refine cw_ret ?_
  refine ew_ret (rs := [.tmp 4]) (vs := [.bool false]) rfl ⟨rfl, trivial⟩ ?_
  exact ⟨rfl, (LW.step E XLW).toBelow⟩
theorem ct99_7 : Gives 99 #[.string ⟨#[45, 48, 101, 43, 48, 48]⟩, .int .u8 101] (.int .i64 2) := by
  intro w
  refine calls_cw Tryz.func99 rfl Tryz.ntmps99 rfl ?_
  have HF : Per (No) w (fun _ => True) := Per.true_
  have LW := Ext.refl (No) w
  have XLW : ∀ q9, (No) q9 → (No) q9 ∨ w.heap.size ≤ q9 := fun _ h => Or.inl h
  have E := Ext.refl (No) w
  refine cw_seq ?_
  refine cw_region ?_
  refine rs_op rfl (ow_assign rfl ?_)
  refine rs_nil ?_
  refine ew_next ?_
  refine cw_seq ?_
  refine cw_region ?_
  refine rs_op rfl (ow_move rfl ?_)
  refine rs_op rfl (ow_move rfl ?_)
  refine rs_op rfl (ow_ext ex131 rfl (run_indexByte_string _ _ _) ?_)
  refine rs_set 7 (.int .i64 2) rfl (by kernel_rfl : (.int .i64 (firstIdx ⟨#[45, 48, 101, 43, 48, 48]⟩ (101 : Int).toNat.toUInt8) : Value) = _) ?_
  refine rs_op rfl (ow_assign rfl ?_)
  refine rs_nil ?_
  refine ew_next ?_
  refine cw_ret ?_
  refine ew_ret (rs := [.tmp 4]) (vs := [.int .i64 2]) rfl ⟨rfl, trivial⟩ ?_
  exact ⟨rfl, (LW.step E XLW).toBelow⟩
theorem ct63_7 : Gives 63 #[.string ⟨#[45, 48, 101, 43, 48, 48]⟩, .int .u8 101] (.int .i64 2) := by
  intro w
  refine calls_cw Tryz.func63 rfl Tryz.ntmps63 rfl ?_
  have HF : Per (No) w (fun _ => True) := Per.true_
  have LW := Ext.refl (No) w
  have XLW : ∀ q9, (No) q9 → (No) q9 ∨ w.heap.size ≤ q9 := fun _ h => Or.inl h
  have E := Ext.refl (No) w
  refine cw_seq ?_
  refine cw_region ?_
  refine rs_op rfl (ow_assign rfl ?_)
  refine rs_nil ?_
  refine ew_next ?_
  refine cw_seq ?_
  refine cw_region ?_
  refine rs_op rfl (ow_move rfl ?_)
  refine rs_op rfl (ow_move rfl ?_)
  refine rs_op rfl (ow_enter en99 rfl ((ct99_7 _).mono ?_))
  rintro e w1 ⟨rfl, hb⟩
  refine ⟨_, rfl, ?_⟩
  have Ec := Ext.of_below hb No
  replace E := E.trans Ec.no
  clear hb Ec
  refine rs_op rfl (ow_assign rfl ?_)
  refine rs_nil ?_
  refine ew_next ?_
  refine cw_ret ?_
  refine ew_ret (rs := [.tmp 4]) (vs := [.int .i64 2]) rfl ⟨rfl, trivial⟩ ?_
  exact ⟨rfl, (LW.step E XLW).toBelow⟩
theorem ct100_9 : Gives 100 #[.string ⟨#[43, 48, 48]⟩] (.tuple #[.int .i64 0, .nilIface]) := by
  intro w
  refine calls_cw Tryz.func100 rfl Tryz.ntmps100 rfl ?_
  have HF : Per (No) w (fun _ => True) := Per.true_
  have LW := Ext.refl (No) w
  have XLW : ∀ q9, (No) q9 → (No) q9 ∨ w.heap.size ≤ q9 := fun _ h => Or.inl h
  have E := Ext.refl (No) w
  refine cw_seq ?_
  refine cw_region ?_
  refine rs_op rfl (ow_assign rfl ?_)
  refine rs_op rfl (ow_assign rfl ?_)
  refine rs_nil ?_
  refine ew_next ?_
  refine cw_seq ?_
  refine cw_region ?_
  refine rs_op rfl (ow_move rfl ?_)
  refine rs_op rfl (ow_lenS Tryz.underlying9 rfl ?_)
  refine rs_op rfl (ow_assign rfl ?_)
  refine rs_nil ?_
  refine ew_next ?_
  refine cw_seq ?_
  refine cw_seq ?_
  refine cw_region ?_
  refine rs_op rfl (ow_move rfl ?_)
  refine rs_op rfl (ow_off rfl ?_)
  refine rs_op rfl (ow_off rfl ?_)
  refine rs_op rfl (ow_off rfl ?_)
  refine rs_op rfl (ow_offU rfl rfl ?_)
  refine rs_op rfl (ow_offU rfl rfl ?_)
  refine rs_op rfl (ow_off rfl ?_)
  refine rs_op rfl (ow_pickF rfl rfl ?_)
  refine rs_op rfl (ow_move rfl ?_)
  refine rs_op rfl (ow_on rfl (ow_move rfl ?_))
  refine rs_op rfl (ow_on rfl (ow_move rfl ?_))
  refine rs_op rfl (ow_on rfl (ow_lss rfl rfl ?_))
  refine rs_op rfl (ow_on rfl (ow_move rfl ?_))
  refine rs_op rfl (ow_on rfl (ow_move rfl ?_))
  refine rs_op rfl (ow_on rfl (ow_lss rfl rfl ?_))
  refine rs_op rfl (ow_on rfl (ow_pickT rfl rfl ?_))
  refine rs_op rfl (ow_on rfl (ow_pickT rfl rfl ?_))
  refine rs_op rfl (ow_pickF rfl rfl ?_)
  refine rs_nil ?_
  refine ew_next ?_
  refine cw_then rfl ?_
  refine cw_seq ?_
  refine cw_region ?_
  refine rs_op rfl (ow_move rfl ?_)
  refine rs_op rfl (ow_assign rfl ?_)
  refine rs_nil ?_
  refine ew_next ?_
  refine cw_seq ?_
  refine cw_seq ?_
  refine cw_region ?_
  refine rs_op rfl (ow_move rfl ?_)
  refine rs_op rfl (ow_indexSL (j := 0) (b := 43) Tryz.underlying9 rfl rfl rfl (by kernel_rfl) ?_)
  refine rs_op rfl (ow_eql rfl rfl ?_)
  refine rs_op rfl (ow_move rfl ?_)
  refine rs_op rfl (ow_on rfl (ow_move rfl ?_))
  refine rs_op rfl (ow_on rfl (ow_indexSL (j := 0) (b := 43) Tryz.underlying9 rfl rfl rfl (by kernel_rfl) ?_))
  refine rs_op rfl (ow_on rfl (ow_eql rfl rfl ?_))
  refine rs_op rfl (ow_pickF rfl rfl ?_)
  refine rs_nil ?_
  refine ew_next ?_
  refine cw_then rfl ?_
  refine cw_seq ?_
  refine cw_region ?_
  refine rs_op rfl (ow_move rfl ?_)
  refine rs_op rfl (ow_sliceS (l := 1) (h := 3) Tryz.underlying9 rfl ⟨_, rfl⟩ rfl (by decide) (by decide) ?_)
  refine rs_set 41 (.string ⟨#[48, 48]⟩) rfl (by kernel_rfl : (.string ((⟨#[43, 48, 48]⟩ : ByteArray).extract 1 3) : Value) = _) ?_
  refine rs_op rfl (ow_assign rfl ?_)
  refine rs_nil ?_
  refine ew_next ?_
  refine cw_seq ?_
  refine cw_region ?_
  refine rs_op rfl (ow_move rfl ?_)
  refine rs_op rfl (ow_lenS Tryz.underlying9 rfl ?_)
  refine rs_op rfl (ow_lss rfl rfl ?_)
  refine rs_nil ?_
  refine ew_next ?_
  refine cw_else rfl ?_
  refine cw_skip ?_
  refine ew_next ?_
  refine cw_seq ?_
  refine cw_region ?_
  refine rs_op rfl (ow_assign rfl ?_)
  refine rs_nil ?_
  refine ew_next ?_
  refine cw_seq ?_
  refine cw_seq ?_
  refine cw_region ?_
  refine rs_op rfl (ow_move rfl ?_)
  refine rs_op rfl (ow_strBytes (n := 2) (xs := [.int .u8 48, .int .u8 48]) Tryz.underlying9 Tryz.underlying84 Tryz.underlying5 rfl rfl rfl ?_)
  intro gb1 cb1 w2 Rb1 Eb1 Gb1
  replace E := E.trans Eb1.no
  clear Eb1
  replace HF := HF.on E
  replace LW := LW.step E XLW
  replace E := Ext.refl (No) w2
  replace HF := HF.and (Per.rowL Rb1)
  refine rs_op rfl (ow_len Tryz.underlying84 rfl ?_)
  refine rs_set 48 (.int .i64 2) rfl (by kernel_rfl : (.int .i64 (2 : Nat) : Value) = _) ?_
  refine rs_op rfl (ow_move rfl ?_)
  refine rs_nil ?_
  refine ew_next ?_
  refine cw_block ?_
  refine cw_unroll ?_
  refine cw_seq ?_
  refine cw_region ?_
  refine rs_op rfl (ow_lss rfl rfl ?_)
  refine rs_nil ?_
  refine ew_next ?_
  refine cw_seq ?_
  refine cw_then rfl ?_
  refine cw_skip ?_
  refine ew_next ?_
  refine cw_seq ?_
  refine cw_block ?_
  refine cw_seq ?_
  refine cw_region ?_
  refine rs_op rfl (ow_indexAddr1 (j := 0) Tryz.underlying84 sz5 rfl rfl rfl (by decide) ?_)
  refine rs_op rfl (ow_load1 Tryz.underlying5 rfl rfl ((HF.on E).here.2 0 _ rfl) ?_)
  refine rs_op rfl (ow_assign rfl ?_)
  refine rs_nil ?_
  refine ew_next ?_
  refine cw_seq ?_
  refine cw_region ?_
  refine rs_op rfl (ow_move rfl ?_)
  refine rs_op rfl (ow_sub (z := 0) rfl rfl (by kernel_rfl) ?_)
  refine rs_op rfl (ow_assign rfl ?_)
  refine rs_nil ?_
  refine ew_next ?_
  refine cw_seq ?_
  refine cw_seq ?_
  refine cw_region ?_
  refine rs_op rfl (ow_move rfl ?_)
  refine rs_op rfl (ow_gtr rfl rfl ?_)
  refine rs_nil ?_
  refine ew_next ?_
  refine cw_else rfl ?_
  refine cw_skip ?_
  refine ew_next ?_
  refine cw_region ?_
  refine rs_op rfl (ow_move rfl ?_)
  refine rs_op rfl (ow_mul (z := 0) rfl rfl (by kernel_rfl) ?_)
  refine rs_op rfl (ow_move rfl ?_)
  refine rs_op rfl (ow_conv (z := 0) Tryz.underlying3 Tryz.underlying5 rfl (by kernel_rfl) ?_)
  refine rs_op rfl (ow_add (z := 0) rfl rfl (by kernel_rfl) ?_)
  refine rs_op rfl (ow_assign rfl ?_)
  refine rs_nil ?_
  refine ew_block_normal ?_
  refine ew_next ?_
  refine cw_region ?_
  refine rs_op rfl (ow_add (z := 1) rfl rfl (by kernel_rfl) ?_)
  refine rs_op rfl (ow_move rfl ?_)
  refine rs_nil ?_
  refine ew_again ?_
  refine cw_seq ?_
  refine cw_region ?_
  refine rs_op rfl (ow_lss rfl rfl ?_)
  refine rs_nil ?_
  refine ew_next ?_
  refine cw_seq ?_
  refine cw_then rfl ?_
  refine cw_skip ?_
  refine ew_next ?_
  refine cw_seq ?_
  refine cw_block ?_
  refine cw_seq ?_
  refine cw_region ?_
  refine rs_op rfl (ow_indexAddr1 (j := 1) Tryz.underlying84 sz5 rfl rfl rfl (by decide) ?_)
  refine rs_op rfl (ow_load1 Tryz.underlying5 rfl rfl ((HF.on E).here.2 1 _ rfl) ?_)
  refine rs_op rfl (ow_assign rfl ?_)
  refine rs_nil ?_
  refine ew_next ?_
  refine cw_seq ?_
  refine cw_region ?_
  refine rs_op rfl (ow_move rfl ?_)
  refine rs_op rfl (ow_sub (z := 0) rfl rfl (by kernel_rfl) ?_)
  refine rs_op rfl (ow_assign rfl ?_)
  refine rs_nil ?_
  refine ew_next ?_
  refine cw_seq ?_
  refine cw_seq ?_
  refine cw_region ?_
  refine rs_op rfl (ow_move rfl ?_)
  refine rs_op rfl (ow_gtr rfl rfl ?_)
  refine rs_nil ?_
  refine ew_next ?_
  refine cw_else rfl ?_
  refine cw_skip ?_
  refine ew_next ?_
  refine cw_region ?_
  refine rs_op rfl (ow_move rfl ?_)
  refine rs_op rfl (ow_mul (z := 0) rfl rfl (by kernel_rfl) ?_)
  refine rs_op rfl (ow_move rfl ?_)
  refine rs_op rfl (ow_conv (z := 0) Tryz.underlying3 Tryz.underlying5 rfl (by kernel_rfl) ?_)
  refine rs_op rfl (ow_add (z := 0) rfl rfl (by kernel_rfl) ?_)
  refine rs_op rfl (ow_assign rfl ?_)
  refine rs_nil ?_
  refine ew_block_normal ?_
  refine ew_next ?_
  refine cw_region ?_
  refine rs_op rfl (ow_add (z := 2) rfl rfl (by kernel_rfl) ?_)
  refine rs_op rfl (ow_move rfl ?_)
  refine rs_nil ?_
  refine ew_again ?_
  refine cw_seq ?_
  refine cw_region ?_
  refine rs_op rfl (ow_lss rfl rfl ?_)
  refine rs_nil ?_
  refine ew_next ?_
  refine cw_seq ?_
  refine cw_else rfl ?_
  refine cw_exit ?_
  refine ew_then_exit ?_
  refine ew_then_exit ?_
  refine ew_block_here ?_
  refine ew_next ?_
  refine cw_seq ?_
  refine cw_seq ?_
  refine cw_region ?_
  refine rs_op rfl (ow_move rfl ?_)
  refine rs_op rfl (ow_indexSL (j := 0) (b := 43) Tryz.underlying9 rfl rfl rfl (by kernel_rfl) ?_)
  refine rs_op rfl (ow_eql rfl rfl ?_)
  refine rs_nil ?_
  refine ew_next ?_
  refine cw_else rfl ?_
  refine cw_skip ?_
  refine ew_next ?_
  refine cw_seq ?_
  refine cw_region ?_
  refine rs_op rfl (ow_move rfl ?_)
  refine rs_op rfl (ow_assign rfl ?_)
  refine rs_op rfl (ow_assign rfl ?_)
  refine rs_nil ?_
  refine ew_next ?_
  refine cw_ret ?_
  refine ew_then_ret ?_
  refine ew_ret (rs := [.tmp 2, .tmp 3]) (vs := [.int .i64 0, .nilIface]) rfl ⟨rfl, rfl, trivial⟩ ?_
  exact ⟨rfl, (LW.step E XLW).toBelow⟩
theorem ct64_9 : Gives 64 #[.string ⟨#[43, 48, 48]⟩] (.tuple #[.int .i64 0, .nilIface]) := by
  intro w
  refine calls_cw Tryz.func64 rfl Tryz.ntmps64 rfl ?_
  have HF : Per (No) w (fun _ => True) := Per.true_
  have LW := Ext.refl (No) w
  have XLW : ∀ q9, (No) q9 → (No) q9 ∨ w.heap.size ≤ q9 := fun _ h => Or.inl h
  have E := Ext.refl (No) w
  refine cw_seq ?_
  refine cw_region ?_
  refine rs_op rfl (ow_assign rfl ?_)
  refine rs_op rfl (ow_assign rfl ?_)
  refine rs_nil ?_
  refine ew_next ?_
  refine cw_seq ?_
  refine cw_region ?_
  refine rs_op rfl (ow_move rfl ?_)
  refine rs_op rfl (ow_enter en100 rfl ((ct100_9 _).mono ?_))
  rintro e w1 ⟨rfl, hb⟩
  refine ⟨_, rfl, ?_⟩
  have Ec := Ext.of_below hb No
  replace E := E.trans Ec.no
  clear hb Ec
  refine rs_op rfl (ow_move rfl ?_)
  refine rs_op rfl (ow_extract rfl rfl ?_)
  refine rs_op rfl (ow_extract rfl rfl ?_)
  refine rs_op rfl (ow_assign rfl ?_)
  refine rs_op rfl (ow_assign rfl ?_)
  refine rs_nil ?_
  refine ew_next ?_
  refine cw_seq ?_
  refine cw_seq ?_
  refine cw_region ?_
  refine rs_op rfl (ow_move rfl ?_)
  refine rs_op rfl (ow_neqN Tryz.underlying60 rfl ?_)
  refine rs_nil ?_
  refine ew_next ?_
  refine cw_else rfl ?_
  refine cw_skip ?_
  refine ew_next ?_
  refine cw_seq ?_
  refine cw_region ?_
  refine rs_op rfl (ow_move rfl ?_)
  refine rs_op rfl (ow_assign rfl ?_)
  refine rs_op rfl (ow_assign rfl ?_)
  refine rs_nil ?_
  refine ew_next ?_
  refine cw_ret ?_
  refine ew_ret (rs := [.tmp 2, .tmp 3]) (vs := [.int .i64 0, .nilIface]) rfl ⟨rfl, rfl, trivial⟩ ?_
  exact ⟨rfl, (LW.step E XLW).toBelow⟩
theorem ct99_14 : Gives 99 #[.string ⟨#[45, 48]⟩, .int .u8 46] (.int .i64 (-1)) := by
  intro w
  refine calls_cw Tryz.func99 rfl Tryz.ntmps99 rfl ?_
  have HF : Per (No) w (fun _ => True) := Per.true_
  have LW := Ext.refl (No) w
  have XLW : ∀ q9, (No) q9 → (No) q9 ∨ w.heap.size ≤ q9 := fun _ h => Or.inl h
  have E := Ext.refl (No) w
  refine cw_seq ?_
  refine cw_region ?_
  refine rs_op rfl (ow_assign rfl ?_)
  refine rs_nil ?_
  refine ew_next ?_
  refine cw_seq ?_
  refine cw_region ?_
  refine rs_op rfl (ow_move rfl ?_)
  refine rs_op rfl (ow_move rfl ?_)
  refine rs_op rfl (ow_ext ex131 rfl (run_indexByte_string _ _ _) ?_)
  refine rs_set 7 (.int .i64 (-1)) rfl (by kernel_rfl : (.int .i64 (firstIdx ⟨#[45, 48]⟩ (46 : Int).toNat.toUInt8) : Value) = _) ?_
  refine rs_op rfl (ow_assign rfl ?_)
  refine rs_nil ?_
  refine ew_next ?_
  refine cw_ret ?_
  refine ew_ret (rs := [.tmp 4]) (vs := [.int .i64 (-1)]) rfl ⟨rfl, trivial⟩ ?_
  exact ⟨rfl, (LW.step E XLW).toBelow⟩
theorem ct133_14 : Gives 133 #[.string ⟨#[45, 48]⟩, .string ⟨#[46]⟩] (.int .i64 (-1)) := by
  intro w
  refine calls_cw Tryz.func133 rfl Tryz.ntmps133 rfl ?_
  have HF : Per (No) w (fun _ => True) := Per.true_
  have LW := Ext.refl (No) w
  have XLW : ∀ q9, (No) q9 → (No) q9 ∨ w.heap.size ≤ q9 := fun _ h => Or.inl h
  have E := Ext.refl (No) w
  refine cw_seq ?_
  refine cw_region ?_
  refine rs_op rfl (ow_assign rfl ?_)
  refine rs_nil ?_
  refine ew_next ?_
  refine cw_seq ?_
  refine cw_region ?_
  refine rs_op rfl (ow_move rfl ?_)
  refine rs_op rfl (ow_lenS Tryz.underlying9 rfl ?_)
  refine rs_op rfl (ow_assign rfl ?_)
  refine rs_nil ?_
  refine ew_next ?_
  refine cw_seq ?_
  refine cw_block ?_
  refine cw_seq ?_
  refine cw_region ?_
  refine rs_op rfl (ow_move rfl ?_)
  refine rs_op rfl (ow_eql rfl rfl ?_)
  refine rs_op rfl (ow_move rfl ?_)
  refine rs_op rfl (ow_on rfl (ow_move rfl ?_))
  refine rs_op rfl (ow_on rfl (ow_move rfl ?_))
  refine rs_op rfl (ow_on rfl (ow_eqlS rfl rfl ?_))
  refine rs_set 22 (.bool false) rfl (by simp only [bytes_list]; rfl : (.bool ((⟨#[46]⟩ : ByteArray).toList == (⟨#[45, 48]⟩ : ByteArray).toList) : Value) = _) ?_
  refine rs_op rfl (ow_pickF rfl rfl ?_)
  refine rs_op rfl (ow_assign rfl ?_)
  refine rs_nil ?_
  refine ew_next ?_
  refine cw_else rfl ?_
  refine cw_seq ?_
  refine cw_region ?_
  refine rs_op rfl (ow_move rfl ?_)
  refine rs_op rfl (ow_eql rfl rfl ?_)
  refine rs_op rfl (ow_assign rfl ?_)
  refine rs_nil ?_
  refine ew_next ?_
  refine cw_then rfl ?_
  refine cw_seq ?_
  refine cw_region ?_
  refine rs_op rfl (ow_move rfl ?_)
  refine rs_op rfl (ow_move rfl ?_)
  refine rs_op rfl (ow_indexSL (j := 0) (b := 46) Tryz.underlying9 rfl rfl rfl (by kernel_rfl) ?_)
  refine rs_op rfl (ow_enter en99 rfl ((ct99_14 _).mono ?_))
  rintro e w1 ⟨rfl, hb⟩
  refine ⟨_, rfl, ?_⟩
  have Ec := Ext.of_below hb No
  replace E := E.trans Ec.no
  clear hb Ec
  refine rs_op rfl (ow_assign rfl ?_)
  refine rs_nil ?_
  refine ew_next ?_
  refine cw_ret ?_
  refine ew_block_ret ?_
  refine ew_then_ret ?_
  refine ew_ret (rs := [.tmp 4]) (vs := [.int .i64 (-1)]) rfl ⟨rfl, trivial⟩ ?_
  exact ⟨rfl, (LW.step E XLW).toBelow⟩
theorem ct101_14 : Gives 101 #[.string ⟨#[45, 48]⟩, .string ⟨#[46]⟩] (.int .i64 (-1)) := by
  intro w
  refine calls_cw Tryz.func101 rfl Tryz.ntmps101 rfl ?_
  have HF : Per (No) w (fun _ => True) := Per.true_
  have LW := Ext.refl (No) w
  have XLW : ∀ q9, (No) q9 → (No) q9 ∨ w.heap.size ≤ q9 := fun _ h => Or.inl h
  have E := Ext.refl (No) w
  refine cw_seq ?_
  refine cw_region ?_
  refine rs_op rfl (ow_assign rfl ?_)
  refine rs_nil ?_
  refine ew_next ?_
  refine cw_seq ?_
  refine cw_region ?_
  refine rs_op rfl (ow_move rfl ?_)
  refine rs_op rfl (ow_move rfl ?_)
  refine rs_op rfl (ow_enter en133 rfl ((ct133_14 _).mono ?_))
  rintro e w1 ⟨rfl, hb⟩
  refine ⟨_, rfl, ?_⟩
  have Ec := Ext.of_below hb No
  replace E := E.trans Ec.no
  clear hb Ec
  refine rs_op rfl (ow_assign rfl ?_)
  refine rs_nil ?_
  refine ew_next ?_
  refine cw_ret ?_
  refine ew_ret (rs := [.tmp 4]) (vs := [.int .i64 (-1)]) rfl ⟨rfl, trivial⟩ ?_
  exact ⟨rfl, (LW.step E XLW).toBelow⟩
theorem ct65_14 : Gives 65 #[.string ⟨#[45, 48]⟩, .string ⟨#[46]⟩] (.bool false) := by
  intro w
  refine calls_cw Tryz.func65 rfl Tryz.ntmps65 rfl ?_
  have HF : Per (No) w (fun _ => True) := Per.true_
  have LW := Ext.refl (No) w
  have XLW : ∀ q9, (No) q9 → (No) q9 ∨ w.heap.size ≤ q9 := fun _ h => Or.inl h
  have E := Ext.refl (No) w
  refine cw_seq ?_
  refine cw_region ?_
  refine rs_op rfl (ow_assign rfl ?_)
  refine rs_nil ?_
  refine ew_next ?_
  refine cw_seq ?_
  refine cw_region ?_
  refine rs_op rfl (ow_move rfl ?_)
  refine rs_op rfl (ow_move rfl ?_)
  refine rs_op rfl (ow_enter en101 rfl ((ct101_14 _).mono ?_))
  rintro e w1 ⟨rfl, hb⟩
  refine ⟨_, rfl, ?_⟩
  have Ec := Ext.of_below hb No
  replace E := E.trans Ec.no
  clear hb Ec
  refine rs_op rfl (ow_geq rfl rfl ?_)
  refine rs_op rfl (ow_assign rfl ?_)
  refine rs_nil ?_
  refine ew_next ?_
  refine cw_ret ?_
  refine ew_ret (rs := [.tmp 4]) (vs := [.bool false]) rfl ⟨rfl, trivial⟩ ?_
  exact ⟨rfl, (LW.step E XLW).toBelow⟩
section
variable (w : World)
theorem format_ze : Calls Tryz.prog 98 #[.float .f64 9223372036854775808, .int .u8 101, .int .i64 (-1), .int .i64 64] w fun e w' => e = .returned (.string ⟨#[45, 48, 101, 43, 48, 48]⟩) ∧ Below w.heap.size w w' := by
  refine calls_cw Tryz.func98 rfl Tryz.ntmps98 rfl ?_
  have HF : Per (No) w (fun _ => True) := Per.true_
  have LW := Ext.refl (No) w
  have XLW : ∀ q9, (No) q9 → (No) q9 ∨ w.heap.size ≤ q9 := fun _ h => Or.inl h
  have E := Ext.refl (No) w
  refine cw_seq ?_
  refine cw_region ?_
  refine rs_op rfl (ow_assign rfl ?_)
  refine rs_nil ?_
  refine ew_next ?_
  refine cw_seq ?_
  refine cw_seq ?_
  refine cw_region ?_
  refine rs_op rfl (ow_move rfl ?_)
  refine rs_op rfl (ow_eql rfl rfl ?_)
  refine rs_nil ?_
  refine ew_next ?_
  refine cw_else rfl ?_
  refine cw_skip ?_
  refine ew_next ?_
  refine cw_seq ?_
  refine cw_seq ?_
  refine cw_region ?_
  refine rs_op rfl (ow_move rfl ?_)
  refine rs_op rfl (ow_eql rfl rfl ?_)
  refine rs_nil ?_
  refine ew_next ?_
  refine cw_then rfl ?_
  refine cw_seq ?_
  refine cw_region ?_
  refine rs_op rfl (ow_move rfl ?_)
  refine rs_op rfl (ow_add (z := 3) rfl rfl (by kernel_rfl) ?_)
  refine rs_op rfl (ow_max rfl rfl ?_)
  refine rs_set 25 (.int .i64 24) rfl (by kernel_rfl : (.int .i64 (if (24 : Int) > 3 then 24 else 3) : Value) = _) ?_
  have XC : ∀ q9, (No) q9 → q9 < w.heap.size := Mut.none_
  have SC := Nat.le_trans LW.size E.size
  have SE := E.size
  refine rs_op rfl (ow_make0 (n := 24) (base := w.heap.size) Tryz.underlying84 inf5 rfl rfl rfl rfl (by decide) (by decide) SC (by decide) ?_)
  intro gmk1 w2 Nmk1 Emk1 Gmk1
  replace E := E.trans Emk1.no
  clear Emk1
  have Omk1 : World.ownsRow w2 w.heap.size 5 1 (.slice (some ⟨gmk1, 0, none⟩) 0 24) 0 ([]) := Nmk1
  replace HF := HF.cons (fun k e => Nat.le_trans SE ((some_ge Gmk1) k e))
  replace E := E.cons ((Value.slice (some ⟨gmk1, 0, none⟩) 0 24).ownBlock)
  replace XLW := Mut.grow XLW (fun k e => Or.inr (Nat.le_trans LW.size ((fun k e => Nat.le_trans SE ((some_ge Gmk1) k e)) k e)))
  clear XC
  refine rs_op rfl (ow_move rfl ?_)
  refine rs_op rfl (ow_move rfl ?_)
  refine rs_op rfl (ow_move rfl ?_)
  refine rs_op rfl (ow_enter en130 rfl ((ftoa_ze _ w.heap.size (some ⟨gmk1, 0, none⟩) 24 (Nat.le_trans LW.size E.size) Omk1).mono ?_))
  rintro e w3 ⟨A1, c1, rfl, On, En, KN⟩
  refine ⟨_, rfl, ?_⟩
  replace KN : ∀ q9, ((Value.slice A1 6 c1).ownBlock) = some q9 → ((Value.slice (some ⟨gmk1, 0, none⟩) 0 24).ownBlock) = some q9 ∨ w2.heap.size ≤ q9 := KN
  have HY : ∀ q9, (Mut [((Value.slice A1 6 c1).ownBlock)]) q9 → (Mut [((Value.slice (some ⟨gmk1, 0, none⟩) 0 24).ownBlock)]) q9 ∨ w.heap.size ≤ q9 := (Mut.grow Mut.none_ (fun k e => (KN k e).elim (fun e => Or.inl (Mut.head k e)) (fun h => Or.inr (Nat.le_trans E.size h))))
  replace E := E.step1 En Mut.head
  replace HF := HF.turn E HY
  have XT := fun q9 (h : (Mut [((Value.slice A1 6 c1).ownBlock)]) q9) => (HY q9 h).elim (XLW q9) (fun h => Or.inr (Nat.le_trans LW.size h))
  replace LW := LW.step E XLW
  replace XLW := XT
  clear XT
  replace E := Ext.refl (Mut [((Value.slice A1 6 c1).ownBlock)]) w3
  clear HY
  replace Omk1 : World.ownsRow w3 w.heap.size 5 1 (.slice A1 6 c1) 6 ([.int .u8 45, .int .u8 48, .int .u8 101, .int .u8 43, .int .u8 48, .int .u8 48]) := On
  clear On KN En
  refine rs_op rfl (ow_bytesStr (l := [45, 48, 101, 43, 48, 48]) Tryz.underlying84 Tryz.underlying5 Tryz.underlying9 rfl (own_bytes Omk1 rfl) ?_)
  refine rs_op rfl (ow_assign rfl ?_)
  refine rs_nil ?_
  refine ew_next ?_
  refine cw_ret ?_
  refine ew_then_ret ?_
  refine ew_ret (rs := [.tmp 8]) (vs := [_]) rfl ⟨rfl, trivial⟩ ?_
  exact ⟨rfl, (LW.step E XLW).toBelow⟩
theorem format_ze' : Calls Tryz.prog 62 #[.float .f64 9223372036854775808, .int .u8 101, .int .i64 (-1), .int .i64 64] w fun e w' => e = .returned (.string ⟨#[45, 48, 101, 43, 48, 48]⟩) ∧ Below w.heap.size w w' := by
  refine calls_cw Tryz.func62 rfl Tryz.ntmps62 rfl ?_
  have HF : Per (No) w (fun _ => True) := Per.true_
  have LW := Ext.refl (No) w
  have XLW : ∀ q9, (No) q9 → (No) q9 ∨ w.heap.size ≤ q9 := fun _ h => Or.inl h
  have E := Ext.refl (No) w
  refine cw_seq ?_
  refine cw_region ?_
  refine rs_op rfl (ow_assign rfl ?_)
  refine rs_nil ?_
  refine ew_next ?_
  refine cw_seq ?_
  refine cw_region ?_
  refine rs_op rfl (ow_move rfl ?_)
  refine rs_op rfl (ow_move rfl ?_)
  refine rs_op rfl (ow_move rfl ?_)
  refine rs_op rfl (ow_move rfl ?_)
  refine rs_op rfl (ow_enter en98 rfl ((format_ze _).mono ?_))
  rintro e w1 ⟨rfl, hb⟩
  refine ⟨_, rfl, ?_⟩
  have Ec := Ext.of_below hb No
  replace E := E.trans Ec.no
  clear hb Ec
  refine rs_op rfl (ow_assign rfl ?_)
  refine rs_nil ?_
  refine ew_next ?_
  refine cw_ret ?_
  refine ew_ret (rs := [.tmp 8]) (vs := [_]) rfl ⟨rfl, trivial⟩ ?_
  exact ⟨rfl, (LW.step E XLW).toBelow⟩
theorem format_zf : Calls Tryz.prog 98 #[.float .f64 9223372036854775808, .int .u8 102, .int .i64 (-1), .int .i64 64] w fun e w' => e = .returned (.string ⟨#[45, 48]⟩) ∧ Below w.heap.size w w' := by
  refine calls_cw Tryz.func98 rfl Tryz.ntmps98 rfl ?_
  have HF : Per (No) w (fun _ => True) := Per.true_
  have LW := Ext.refl (No) w
  have XLW : ∀ q9, (No) q9 → (No) q9 ∨ w.heap.size ≤ q9 := fun _ h => Or.inl h
  have E := Ext.refl (No) w
  refine cw_seq ?_
  refine cw_region ?_
  refine rs_op rfl (ow_assign rfl ?_)
  refine rs_nil ?_
  refine ew_next ?_
  refine cw_seq ?_
  refine cw_seq ?_
  refine cw_region ?_
  refine rs_op rfl (ow_move rfl ?_)
  refine rs_op rfl (ow_eql rfl rfl ?_)
  refine rs_nil ?_
  refine ew_next ?_
  refine cw_else rfl ?_
  refine cw_skip ?_
  refine ew_next ?_
  refine cw_seq ?_
  refine cw_seq ?_
  refine cw_region ?_
  refine rs_op rfl (ow_move rfl ?_)
  refine rs_op rfl (ow_eql rfl rfl ?_)
  refine rs_nil ?_
  refine ew_next ?_
  refine cw_then rfl ?_
  refine cw_seq ?_
  refine cw_region ?_
  refine rs_op rfl (ow_move rfl ?_)
  refine rs_op rfl (ow_add (z := 3) rfl rfl (by kernel_rfl) ?_)
  refine rs_op rfl (ow_max rfl rfl ?_)
  refine rs_set 25 (.int .i64 24) rfl (by kernel_rfl : (.int .i64 (if (24 : Int) > 3 then 24 else 3) : Value) = _) ?_
  have XC : ∀ q9, (No) q9 → q9 < w.heap.size := Mut.none_
  have SC := Nat.le_trans LW.size E.size
  have SE := E.size
  refine rs_op rfl (ow_make0 (n := 24) (base := w.heap.size) Tryz.underlying84 inf5 rfl rfl rfl rfl (by decide) (by decide) SC (by decide) ?_)
  intro gmk1 w2 Nmk1 Emk1 Gmk1
  replace E := E.trans Emk1.no
  clear Emk1
  have Omk1 : World.ownsRow w2 w.heap.size 5 1 (.slice (some ⟨gmk1, 0, none⟩) 0 24) 0 ([]) := Nmk1
  replace HF := HF.cons (fun k e => Nat.le_trans SE ((some_ge Gmk1) k e))
  replace E := E.cons ((Value.slice (some ⟨gmk1, 0, none⟩) 0 24).ownBlock)
  replace XLW := Mut.grow XLW (fun k e => Or.inr (Nat.le_trans LW.size ((fun k e => Nat.le_trans SE ((some_ge Gmk1) k e)) k e)))
  clear XC
  refine rs_op rfl (ow_move rfl ?_)
  refine rs_op rfl (ow_move rfl ?_)
  refine rs_op rfl (ow_move rfl ?_)
  refine rs_op rfl (ow_enter en130 rfl ((ftoa_zf _ w.heap.size (some ⟨gmk1, 0, none⟩) 24 (Nat.le_trans LW.size E.size) Omk1).mono ?_))
  rintro e w3 ⟨A1, c1, rfl, On, En, KN⟩
  refine ⟨_, rfl, ?_⟩
  replace KN : ∀ q9, ((Value.slice A1 2 c1).ownBlock) = some q9 → ((Value.slice (some ⟨gmk1, 0, none⟩) 0 24).ownBlock) = some q9 ∨ w2.heap.size ≤ q9 := KN
  have HY : ∀ q9, (Mut [((Value.slice A1 2 c1).ownBlock)]) q9 → (Mut [((Value.slice (some ⟨gmk1, 0, none⟩) 0 24).ownBlock)]) q9 ∨ w.heap.size ≤ q9 := (Mut.grow Mut.none_ (fun k e => (KN k e).elim (fun e => Or.inl (Mut.head k e)) (fun h => Or.inr (Nat.le_trans E.size h))))
  replace E := E.step1 En Mut.head
  replace HF := HF.turn E HY
  have XT := fun q9 (h : (Mut [((Value.slice A1 2 c1).ownBlock)]) q9) => (HY q9 h).elim (XLW q9) (fun h => Or.inr (Nat.le_trans LW.size h))
  replace LW := LW.step E XLW
  replace XLW := XT
  clear XT
  replace E := Ext.refl (Mut [((Value.slice A1 2 c1).ownBlock)]) w3
  clear HY
  replace Omk1 : World.ownsRow w3 w.heap.size 5 1 (.slice A1 2 c1) 2 ([.int .u8 45, .int .u8 48]) := On
  clear On KN En
  refine rs_op rfl (ow_bytesStr (l := [45, 48]) Tryz.underlying84 Tryz.underlying5 Tryz.underlying9 rfl (own_bytes Omk1 rfl) ?_)
  refine rs_op rfl (ow_assign rfl ?_)
  refine rs_nil ?_
  refine ew_next ?_
  refine cw_ret ?_
  refine ew_then_ret ?_
  refine ew_ret (rs := [.tmp 8]) (vs := [_]) rfl ⟨rfl, trivial⟩ ?_
  exact ⟨rfl, (LW.step E XLW).toBelow⟩
theorem format_zf' : Calls Tryz.prog 62 #[.float .f64 9223372036854775808, .int .u8 102, .int .i64 (-1), .int .i64 64] w fun e w' => e = .returned (.string ⟨#[45, 48]⟩) ∧ Below w.heap.size w w' := by
  refine calls_cw Tryz.func62 rfl Tryz.ntmps62 rfl ?_
  have HF : Per (No) w (fun _ => True) := Per.true_
  have LW := Ext.refl (No) w
  have XLW : ∀ q9, (No) q9 → (No) q9 ∨ w.heap.size ≤ q9 := fun _ h => Or.inl h
  have E := Ext.refl (No) w
  refine cw_seq ?_
  refine cw_region ?_
  refine rs_op rfl (ow_assign rfl ?_)
  refine rs_nil ?_
  refine ew_next ?_
  refine cw_seq ?_
  refine cw_region ?_
  refine rs_op rfl (ow_move rfl ?_)
  refine rs_op rfl (ow_move rfl ?_)
  refine rs_op rfl (ow_move rfl ?_)
  refine rs_op rfl (ow_move rfl ?_)
  refine rs_op rfl (ow_enter en98 rfl ((format_zf _).mono ?_))
  rintro e w1 ⟨rfl, hb⟩
  refine ⟨_, rfl, ?_⟩
  have Ec := Ext.of_below hb No
  replace E := E.trans Ec.no
  clear hb Ec
  refine rs_op rfl (ow_assign rfl ?_)
  refine rs_nil ?_
  refine ew_next ?_
  refine cw_ret ?_
  refine ew_ret (rs := [.tmp 8]) (vs := [_]) rfl ⟨rfl, trivial⟩ ?_
  exact ⟨rfl, (LW.step E XLW).toBelow⟩
theorem text_z : Calls Tryz.prog 17 #[.int .u64 9223372036854775808] w fun e w' => e = .returned (.string ⟨#[45, 48, 46, 48]⟩) ∧ Below w.heap.size w w' := by
  refine calls_cw Tryz.func17 rfl Tryz.ntmps17 rfl ?_
  have HF : Per (No) w (fun _ => True) := Per.true_
  have LW := Ext.refl (No) w
  have XLW : ∀ q9, (No) q9 → (No) q9 ∨ w.heap.size ≤ q9 := fun _ h => Or.inl h
  have E := Ext.refl (No) w
  refine cw_seq ?_
  refine cw_region ?_
  refine rs_op rfl (ow_assign rfl ?_)
  refine rs_nil ?_
  refine ew_next ?_
  refine cw_seq ?_
  refine cw_region ?_
  refine rs_op rfl (ow_move rfl ?_)
  refine rs_op rfl (ow_frombits (b := 9223372036854775808) ex60 rfl ?_)
  refine rs_op rfl (ow_assign rfl ?_)
  refine rs_nil ?_
  refine ew_next ?_
  refine cw_seq ?_
  refine cw_block ?_
  refine cw_seq ?_
  refine cw_region ?_
  refine rs_op rfl (ow_move rfl ?_)
  refine rs_op rfl (ow_move rfl ?_)
  refine rs_op rfl (ow_fneq rfl rfl ?_)
  refine rs_set 13 (.bool false) rfl (by kernel_rfl : (.bool (ford 9223372036854775808 9223372036854775808 != some .eq) : Value) = _) ?_
  refine rs_op rfl (ow_assign rfl ?_)
  refine rs_nil ?_
  refine ew_next ?_
  refine cw_else rfl ?_
  refine cw_seq ?_
  refine cw_region ?_
  refine rs_op rfl (ow_move rfl ?_)
  refine rs_op rfl (ow_enter en61 rfl ((ct61_4 _).mono ?_))
  rintro e w1 ⟨rfl, hb⟩
  refine ⟨_, rfl, ?_⟩
  have Ec := Ext.of_below hb No
  replace E := E.trans Ec.no
  clear hb Ec
  refine rs_op rfl (ow_assign rfl ?_)
  refine rs_nil ?_
  refine ew_next ?_
  refine cw_else rfl ?_
  refine cw_skip ?_
  refine ew_block_normal ?_
  refine ew_next ?_
  refine cw_seq ?_
  refine cw_region ?_
  refine rs_op rfl (ow_move rfl ?_)
  refine rs_op rfl (ow_enter en62 rfl ((format_ze' _).mono ?_))
  rintro e w2 ⟨rfl, hb⟩
  refine ⟨_, rfl, ?_⟩
  have Ec := Ext.of_below hb No
  replace E := E.trans Ec.no
  clear hb Ec
  refine rs_op rfl (ow_assign rfl ?_)
  refine rs_nil ?_
  refine ew_next ?_
  refine cw_seq ?_
  refine cw_region ?_
  refine rs_op rfl (ow_move rfl ?_)
  refine rs_op rfl (ow_enter en63 rfl ((ct63_7 _).mono ?_))
  rintro e w3 ⟨rfl, hb⟩
  refine ⟨_, rfl, ?_⟩
  have Ec := Ext.of_below hb No
  replace E := E.trans Ec.no
  clear hb Ec
  refine rs_op rfl (ow_assign rfl ?_)
  refine rs_nil ?_
  refine ew_next ?_
  refine cw_seq ?_
  refine cw_region ?_
  refine rs_op rfl (ow_move rfl ?_)
  refine rs_op rfl (ow_move rfl ?_)
  refine rs_op rfl (ow_add (z := 3) rfl rfl (by kernel_rfl) ?_)
  refine rs_op rfl (ow_sliceS (l := 3) (h := 6) Tryz.underlying9 rfl ⟨_, rfl⟩ rfl (by decide) (by decide) ?_)
  refine rs_set 27 (.string ⟨#[43, 48, 48]⟩) rfl (by kernel_rfl : (.string ((⟨#[45, 48, 101, 43, 48, 48]⟩ : ByteArray).extract 3 6) : Value) = _) ?_
  refine rs_op rfl (ow_enter en64 rfl ((ct64_9 _).mono ?_))
  rintro e w4 ⟨rfl, hb⟩
  refine ⟨_, rfl, ?_⟩
  have Ec := Ext.of_below hb No
  replace E := E.trans Ec.no
  clear hb Ec
  refine rs_op rfl (ow_move rfl ?_)
  refine rs_op rfl (ow_extract rfl rfl ?_)
  refine rs_op rfl (ow_extract rfl rfl ?_)
  refine rs_op rfl (ow_assign rfl ?_)
  refine rs_op rfl (ow_assign rfl ?_)
  refine rs_nil ?_
  refine ew_next ?_
  refine cw_seq ?_
  refine cw_seq ?_
  refine cw_region ?_
  refine rs_op rfl (ow_move rfl ?_)
  refine rs_op rfl (ow_lss rfl rfl ?_)
  refine rs_op rfl (ow_move rfl ?_)
  refine rs_op rfl (ow_on rfl (ow_move rfl ?_))
  refine rs_op rfl (ow_on rfl (ow_gtr rfl rfl ?_))
  refine rs_op rfl (ow_pickF rfl rfl ?_)
  refine rs_nil ?_
  refine ew_next ?_
  refine cw_else rfl ?_
  refine cw_skip ?_
  refine ew_next ?_
  refine cw_seq ?_
  refine cw_region ?_
  refine rs_op rfl (ow_move rfl ?_)
  refine rs_op rfl (ow_enter en62 rfl ((format_zf' _).mono ?_))
  rintro e w5 ⟨rfl, hb⟩
  refine ⟨_, rfl, ?_⟩
  have Ec := Ext.of_below hb No
  replace E := E.trans Ec.no
  clear hb Ec
  refine rs_op rfl (ow_assign rfl ?_)
  refine rs_nil ?_
  refine ew_next ?_
  refine cw_seq ?_
  refine cw_seq ?_
  refine cw_region ?_
  refine rs_op rfl (ow_move rfl ?_)
  refine rs_op rfl (ow_enter en65 rfl ((ct65_14 _).mono ?_))
  rintro e w6 ⟨rfl, hb⟩
  refine ⟨_, rfl, ?_⟩
  have Ec := Ext.of_below hb No
  replace E := E.trans Ec.no
  clear hb Ec
  refine rs_op rfl (ow_not rfl ?_)
  refine rs_nil ?_
  refine ew_next ?_
  refine cw_then rfl ?_
  refine cw_region ?_
  refine rs_op rfl (ow_move rfl ?_)
  refine rs_op rfl (ow_addS rfl rfl (by decide) ?_)
  refine rs_set 44 (.string ⟨#[45, 48, 46, 48]⟩) rfl (by kernel_rfl : (.string ((⟨#[45, 48]⟩ : ByteArray) ++ (⟨#[46, 48]⟩ : ByteArray)) : Value) = _) ?_
  refine rs_op rfl (ow_assign rfl ?_)
  refine rs_nil ?_
  refine ew_next ?_
  refine cw_seq ?_
  refine cw_region ?_
  refine rs_op rfl (ow_move rfl ?_)
  refine rs_op rfl (ow_assign rfl ?_)
  refine rs_nil ?_
  refine ew_next ?_
  refine cw_ret ?_
  refine ew_ret (rs := [.tmp 2]) (vs := [_]) rfl ⟨rfl, trivial⟩ ?_
  exact ⟨rfl, (LW.step E XLW).toBelow⟩
end
end Go.Proofs.YtljndllhmdpjlaaGreatDoor

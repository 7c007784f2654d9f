/- The walk of package real's Whole: a float cut to a whole number. RealOrders: every Cmp and CmpBig. -/
import Derived.Test.YtljndllhmdpjlaaGreatDoorO16
namespace Go.Proofs.YtljndllhmdpjlaaGreatDoor
open Go.RowKit
set_option maxRecDepth 100000
theorem small30 {z : Int} (h : z.natAbs < 9223372036854775809) : z.natAbs < B18 ^ 30 := Nat.lt_of_lt_of_le (Nat.lt_of_lt_of_le h (by decide)) (Nat.le_trans (two_mono2 (k := 64) (K := 1024) rfl rfl (by decide)) B18_30)
theorem two_natAbs (k : Nat) : ((2 : Int) ^ k).natAbs = 2 ^ k := by rw [Int.natAbs_pow]; rfl
theorem two_posI (k : Nat) : (0 : Int) < 2 ^ k := Int.pow_pos (by decide)
theorem two_neg (k : Nat) : decide ((2 : Int) ^ k < 0) = false := decide_eq_false (by have := two_posI k; omega)
theorem two_30 {k : Nat} (h : k ≤ 1023) : ((2 : Int) ^ k).natAbs < B18 ^ 30 := by
  rw [two_natAbs]
  exact Nat.lt_of_lt_of_le (Nat.pow_lt_pow_right (by decide) (show k < 1024 by omega)) B18_30
theorem two_pow (k : Nat) (A B : Option Addr) (c d : Nat) (w : World) (hk : k ≤ 1023) (hx : Nums w A (limbs 2)) (hy : Nums w B (limbs ((k : Nat) : Int))) :
    Calls Tryz.prog 83 #[.agg #[.bool (decide ((2 : Int) < 0)), .slice A (limbs 2).length c], .agg #[.bool (decide (((k : Nat) : Int) < 0)), .slice B (limbs ((k : Nat) : Int)).length d]] w (RetBigErr w ((2 : Int) ^ k) 0) := by
  have h := powI 2 ((k : Nat) : Int) A B c d w (small30 (by decide)) (small30 (by omega)) hx hy (by omega)
  rw [Int.toNat_natCast, outV_ok (two_30 hk), outE_ok (two_30 hk)] at h
  exact h
theorem dq_whole {a M k : Nat} (hM : M = wholeN a * 2 ^ k) {n1 : Bool} {m0 : Int} (h0 : m0 = if ng a then -((M : Nat) : Int) else ((M : Nat) : Int)) (h1 : n1 = decide (m0 < 0)) : dq n1 false M (2 ^ k) = wholeI a := by
  have hp := two_pos k
  have e1 : M / 2 ^ k = wholeN a := by rw [hM]; exact Nat.mul_div_cancel _ hp
  have e2 : M % 2 ^ k = 0 := by rw [hM]; exact Nat.mul_mod_left _ _
  unfold dq wholeI
  rw [e1, e2, h1, h0]
  by_cases hz : wholeN a = 0
  · rw [hz] at hM ⊢
    rw [Nat.zero_mul] at hM
    subst hM
    cases ng a <;> simp
  · have hMp : 0 < M := by rw [hM]; exact Nat.mul_pos (by omega) hp
    cases ng a with
    | true => simp only [if_true]; rw [decide_eq_true (by omega)]; rfl
    | false => simp only [Bool.false_eq_true, if_false]; rw [decide_eq_false (by omega)]; rfl
theorem pos_zero {x P : Nat} (hP : 0 < P) (h : 0 = x * P) : x = 0 := by
  rcases Nat.eq_zero_or_pos x with h' | h'
  · exact h'
  · have := Nat.mul_pos h' hP; omega
theorem val_gen_hi {m e W P n k M : Nat} (hP : P = 2 ^ 1074) (h : m * 2 ^ e = W * P * 2 ^ n) (hc : 1074 + n ≤ e) (hk : k = e - (1074 + n)) (hM : M = m) : W = M * 2 ^ k := by
  have h1 : P * 2 ^ n = 2 ^ (1074 + n) := by rw [hP, Nat.pow_add]
  rw [Nat.mul_assoc, h1, pow_min hc] at h
  rw [hM, hk]
  exact (Nat.eq_of_mul_eq_mul_right (two_pos _) h).symm
theorem val_gen_lo {m e W P n k M : Nat} (hP : P = 2 ^ 1074) (h : m * 2 ^ e = W * P * 2 ^ n) (hc : e ≤ 1074 + n) (hk : k = 1074 + n - e) (hM : M = m) : M = W * 2 ^ k := by
  have h1 : P * 2 ^ n = 2 ^ (1074 + n) := by rw [hP, Nat.pow_add]
  rw [Nat.mul_assoc, h1, pow_min hc W] at h
  rw [hM, hk]
  exact Nat.eq_of_mul_eq_mul_right (two_pos _) h
theorem val_hi {m e W n k M : Nat} (h : m * 2 ^ e = W * 2 ^ 1074 * 2 ^ n) (hc : 1074 + n ≤ e) (hk : k = e - (1074 + n)) (hM : M = m) : W = M * 2 ^ k := val_gen_hi rfl h hc hk hM
theorem val_lo {m e W n k M : Nat} (h : m * 2 ^ e = W * 2 ^ 1074 * 2 ^ n) (hc : e ≤ 1074 + n) (hk : k = 1074 + n - e) (hM : M = m) : M = W * 2 ^ k := val_gen_lo rfl h hc hk hM
theorem div_two {a M k : Nat} {m0 : Int} (hM : M = wholeN a * 2 ^ k) (h0 : m0 = if ng a then -((M : Nat) : Int) else ((M : Nat) : Int)) (hMb : M < 9223372036854775808) (hk : k ≤ 1023) (A B : Option Addr) (c d : Nat) (w : World) (hx : Nums w A (limbs m0)) (hy : Nums w B (limbs ((2 : Int) ^ k))) :
    Calls Tryz.prog 85 #[.agg #[.bool (decide (m0 < 0)), .slice A (limbs m0).length c], .agg #[.bool (decide ((2 : Int) ^ k < 0)), .slice B (limbs ((2 : Int) ^ k)).length d]] w fun e w' => ∃ A5 c5 B6 c6 r, e = .returned (.tuple #[.agg #[.bool (decide (wholeI a < 0)), .slice A5 (limbs (wholeI a)).length c5], .agg #[.bool (decide (r < 0)), .slice B6 (limbs r).length c6], .int .i64 0]) ∧ Own w' w.heap.size A5 c5 (limbs (wholeI a)) ∧ Below w.heap.size w w' := by
  have hma : m0.natAbs = M := by rw [h0]; split <;> omega
  have h := divmod_ok A B c d (limbs m0) (limbs ((2 : Int) ^ k)) w (decide (m0 < 0)) (decide ((2 : Int) ^ k < 0)) hx hy (good_limbs (small30 (by omega))) (good_limbs (two_30 hk)) (lim_pos (by have := two_posI k; omega))
  rw [limbs_eq m0, limbs_eq ((2 : Int) ^ k), val_digs B18_two, val_digs B18_two, ← limbs_eq, ← limbs_eq, hma, two_natAbs, two_neg, dq_whole hM h0 rfl] at h
  rw [two_neg]
  exact h.mono fun e w' ⟨A5, c5, B6, c6, he, o1, o2, hb, _⟩ => ⟨A5, c5, B6, c6, _, he, o1, hb⟩
section
variable (w : World) (a : Nat) (ha : a < 18446744073709551616)
theorem trunc_num (hf : rg a < 9218868437227405312) : Calls Tryz.prog 81 #[.float .f64 a] w fun e w' => e = .returned (.float .f64 (fround .zero a)) ∧ Below w.heap.size w w' := by
  refine calls_cw Tryz.func81 rfl Tryz.ntmps81 rfl ?_
  have HF : Per (No) w (fun _ => True) := Per.true_
  have LW := Ext.refl (No) w
  have XLW : ∀ q9, (No) q9 → (No) q9 ∨ w.heap.size ≤ q9 := fun _ h => Or.inl h
  have E := Ext.refl (No) w
  refine cw_seq ?_
  refine cw_region ?_
  refine rs_op rfl (ow_assign rfl ?_)
  refine rs_nil ?_
  refine ew_next ?_
  refine cw_seq ?_
  refine cw_then rfl ?_
  refine cw_seq ?_
  refine cw_region ?_
  refine rs_op rfl (ow_move rfl ?_)
  refine rs_op rfl (ow_round ex112 rfl ((isN_read a).trans (fin_notN hf)) ?_)
  refine rs_op rfl (ow_assign rfl ?_)
  refine rs_nil ?_
  refine ew_next ?_
  refine cw_ret ?_
  refine ew_then_ret ?_
  refine ew_ret (rs := [.tmp 2]) (vs := [_]) rfl ⟨rfl, trivial⟩ ?_
  exact ⟨rfl, (LW.step E XLW).toBelow⟩
include ha
section
variable (hf : rg a < 9218868437227405312)
include hf
theorem whole_zero (h0 : wholeN a = 0) : Calls Tryz.prog 42 #[.int .u64 ((a : Nat) : Int)] w (RetBigErr w (wholeI a) 0) := by
  obtain ⟨q, hq1, hq2, hq3⟩ := fround_zero hf
  have hq0 : q = 0 := vl_zero_iff.1 (zero_p hq1 h0)
  obtain ⟨r1, r2, r3⟩ := word_rg (ng a) q (by omega)
  obtain ⟨M, hMd⟩ : ∃ M, M = 0 := ⟨_, rfl⟩
  obtain ⟨k, hk⟩ : ∃ k, k = 53 := ⟨_, rfl⟩
  obtain ⟨m0, hm0⟩ : ∃ m0 : Int, m0 = if ng a then -((M : Nat) : Int) else ((M : Nat) : Int) := ⟨_, rfl⟩
  have hM : M = wholeN a * 2 ^ k := by rw [h0, Nat.zero_mul, hMd]
  have hwz : wholeN (Ieee.double.word (ng a) q) = 0 := (wholeN_word (ng a) (by omega) hq1).trans h0
  have hfz : floatToIntVal .f64 (Ieee.double.word (ng a) q) .i64 = some m0 := by
    rw [f2i_i64 (by rw [r1]; omega) (by rw [hwz]; decide), hwz, r2, hm0, hMd]
  refine calls_cw Tryz.func42 rfl Tryz.ntmps42 rfl ?_
  have HF : Per (No) w (fun _ => True) := Per.true_
  have LW := Ext.refl (No) w
  have XLW : ∀ q9, (No) q9 → (No) q9 ∨ w.heap.size ≤ q9 := fun _ h => Or.inl h
  have E := Ext.refl (No) w
  refine cw_seq ?_
  refine cw_region ?_
  refine rs_op rfl (ow_allocB zr41 ?_)
  intro gb1 w2 Bb1 Eb1 Gb1
  have Gb1 : _ ≤ gb1 := Nat.le_trans E.size Gb1
  have GLb1 := Nat.le_trans LW.size Gb1
  replace E := E.trans Eb1.no
  clear Eb1
  replace HF := HF.cons (some_ge Gb1)
  replace E := E.cons (some gb1)
  replace XLW := Mut.grow XLW (fun k e => Or.inr (Nat.le_trans LW.size ((some_ge Gb1) k e)))
  refine rs_op rfl (ow_assign rfl ?_)
  refine rs_nil ?_
  refine ew_next ?_
  refine cw_seq ?_
  refine cw_region ?_
  refine rs_op rfl (ow_move rfl ?_)
  refine rs_op rfl (ow_frombits (b := a) ex60 rfl ?_)
  refine rs_op rfl (ow_assign rfl ?_)
  refine rs_nil ?_
  refine ew_next ?_
  refine cw_seq ?_
  refine cw_block ?_
  refine cw_seq ?_
  refine cw_region ?_
  refine rs_op rfl (ow_move rfl ?_)
  refine rs_op rfl (ow_move rfl ?_)
  refine rs_op rfl (ow_fneq rfl rfl ?_)
  refine rs_op rfl (ow_assign rfl ?_)
  refine rs_nil ?_
  refine ew_next ?_
  refine cw_set 18 (.bool false) rfl ((by rw [ford_self, fin_notN hf] : (.bool (ford a a != some .eq) : Value) = _)) ?_
  refine cw_else rfl ?_
  refine cw_seq ?_
  refine cw_region ?_
  refine rs_op rfl (ow_move rfl ?_)
  refine rs_op rfl (ow_enter en61 rfl ((misinf_any _ a ha).mono ?_))
  rintro e w3 ⟨rfl, hb⟩
  refine ⟨_, rfl, ?_⟩
  have Ec := Ext.of_below hb No
  replace Bb1 := Bb1.extN Ec NotIn.nil
  replace E := E.trans Ec.no
  clear hb Ec
  refine rs_set 25 (.bool false) rfl ((by rw [decide_eq_false (by omega)] : (.bool (decide (rg a = 9218868437227405312)) : Value) = _)) ?_
  refine rs_op rfl (ow_assign rfl ?_)
  refine rs_nil ?_
  refine ew_next ?_
  refine cw_else rfl ?_
  refine cw_skip ?_
  refine ew_block_normal ?_
  refine ew_next ?_
  refine cw_seq ?_
  refine cw_region ?_
  refine rs_op rfl (ow_move rfl ?_)
  refine rs_op rfl (ow_enter en81 rfl ((trunc_num _ a hf).mono ?_))
  rintro e w4 ⟨rfl, hb⟩
  refine ⟨_, rfl, ?_⟩
  have Ec := Ext.of_below hb No
  replace Bb1 := Bb1.extN Ec NotIn.nil
  replace E := E.trans Ec.no
  clear hb Ec
  refine rs_set 29 (.float .f64 (Ieee.double.word (ng a) q)) rfl ((by rw [hq3] : (.float .f64 (fround .zero a) : Value) = _)) ?_
  refine rs_op rfl (ow_enter en70 rfl ((Frexp_zero _ (Ieee.double.word (ng a) q) r3 (by rw [r1]; exact hq0)).mono ?_))
  rintro e w5 ⟨rfl, hb⟩
  refine ⟨_, rfl, ?_⟩
  have Ec := Ext.of_below hb No
  replace Bb1 := Bb1.extN Ec NotIn.nil
  replace E := E.trans Ec.no
  clear hb Ec
  refine rs_op rfl (ow_move rfl ?_)
  refine rs_op rfl (ow_extract rfl rfl ?_)
  refine rs_op rfl (ow_extract rfl rfl ?_)
  refine rs_op rfl (ow_assign rfl ?_)
  refine rs_op rfl (ow_assign rfl ?_)
  refine rs_nil ?_
  refine ew_next ?_
  refine cw_seq ?_
  refine cw_region ?_
  refine rs_op rfl (ow_move rfl ?_)
  refine rs_op rfl (ow_enter en72 rfl ((Ldexp_zero _ (Ieee.double.word (ng a) q) r3 (by rw [r1]; exact hq0) 53).mono ?_))
  rintro e w6 ⟨rfl, hb⟩
  refine ⟨_, rfl, ?_⟩
  have Ec := Ext.of_below hb No
  replace Bb1 := Bb1.extN Ec NotIn.nil
  replace E := E.trans Ec.no
  clear hb Ec
  refine rs_op rfl (ow_f2i (z := m0) Tryz.underlying3 (by rw [Tryz.underlying57]; rfl) rfl hfz ?_)
  refine rs_op rfl (ow_enter en82 rfl ((of_any m0 _ (by rw [hm0]; split <;> omega) (by rw [hm0]; split <;> omega)).mono ?_))
  rintro e w7 ⟨A1, c1, rfl, o1, hb⟩
  refine ⟨_, rfl, ?_⟩
  have XC : ∀ q9, (Mut [(some gb1)]) q9 → q9 < w6.heap.size := (Mut.grow Mut.none_ (some_lt Bb1.lt))
  have Ec := Ext.of_below hb No
  replace Bb1 := Bb1.extN Ec NotIn.nil
  replace E := E.trans Ec.no
  clear hb Ec
  replace HF := HF.on E
  replace LW := LW.step E XLW
  replace E := Ext.refl (Mut [(some gb1)]) w7
  replace HF := HF.and (Per.own o1 XC)
  refine rs_op rfl (ow_allocB zr41 ?_)
  intro gb8 w9 Bb8 Eb8 Gb8
  have Db8_b1 : Apart (some gb8) (some gb1) := Apart.of_lt (some_lt Bb1.lt) Gb8
  have Db1_b8 := Db8_b1.symm
  have Gb8 : _ ≤ gb8 := Nat.le_trans E.size Gb8
  have GLb8 := Nat.le_trans LW.size Gb8
  replace Bb1 := Bb1.extN Eb8 NotIn.nil
  replace E := E.trans Eb8.no
  clear Eb8
  replace HF := HF.cons (some_ge Gb8)
  replace E := E.cons (some gb8)
  replace XLW := Mut.grow XLW (fun k e => Or.inr (Nat.le_trans LW.size ((some_ge Gb8) k e)))
  refine rs_op0 (ow_storeM sz41 rfl rfl Bb8 rfl rfl (Nat.le_of_ble_eq_true rfl) ?_)
  intro w10 Bx Eb8
  replace Bb8 := Bx
  clear Bx
  replace Bb1 := Bb1.extN Eb8 (NotIn.cons Db1_b8 NotIn.nil)
  replace E := E.step1 Eb8 Mut.head
  clear Eb8
  refine rs_nil ?_
  refine ew_next ?_
  refine cw_seq ?_
  refine cw_region ?_
  refine rs_op rfl (ow_enter en82 rfl ((of_any 2 _ (by decide) (by decide)).mono ?_))
  rintro e w11 ⟨A2, c2, rfl, o2, hb⟩
  refine ⟨_, rfl, ?_⟩
  have XC : ∀ q9, (Mut [(some gb8), (some gb1)]) q9 → q9 < w10.heap.size := (Mut.grow (Mut.grow Mut.none_ (some_lt Bb1.lt)) (some_lt Bb8.lt))
  have Ec := Ext.of_below hb No
  replace Bb8 := Bb8.extN Ec NotIn.nil
  replace Bb1 := Bb1.extN Ec NotIn.nil
  replace E := E.trans Ec.no
  clear hb Ec
  replace HF := HF.on E
  replace LW := LW.step E XLW
  replace E := Ext.refl (Mut [(some gb8), (some gb1)]) w11
  replace HF := HF.and (Per.own o2 XC)
  refine rs_op rfl (ow_allocB zr41 ?_)
  intro gb12 w13 Bb12 Eb12 Gb12
  have Db12_b8 : Apart (some gb12) (some gb8) := Apart.of_lt (some_lt Bb8.lt) Gb12
  have Db8_b12 := Db12_b8.symm
  have Db12_b1 : Apart (some gb12) (some gb1) := Apart.of_lt (some_lt Bb1.lt) Gb12
  have Db1_b12 := Db12_b1.symm
  have Gb12 : _ ≤ gb12 := Nat.le_trans E.size Gb12
  have GLb12 := Nat.le_trans LW.size Gb12
  replace Bb8 := Bb8.extN Eb12 NotIn.nil
  replace Bb1 := Bb1.extN Eb12 NotIn.nil
  replace E := E.trans Eb12.no
  clear Eb12
  replace HF := HF.cons (some_ge Gb12)
  replace E := E.cons (some gb12)
  replace XLW := Mut.grow XLW (fun k e => Or.inr (Nat.le_trans LW.size ((some_ge Gb12) k e)))
  refine rs_op0 (ow_storeM sz41 rfl rfl Bb12 rfl rfl (Nat.le_of_ble_eq_true rfl) ?_)
  intro w14 Bx Eb12
  replace Bb12 := Bx
  clear Bx
  replace Bb8 := Bb8.extN Eb12 (NotIn.cons Db8_b12 NotIn.nil)
  replace Bb1 := Bb1.extN Eb12 (NotIn.cons Db1_b12 NotIn.nil)
  replace E := E.step1 Eb12 Mut.head
  clear Eb12
  replace HF := HF.on E
  replace LW := LW.step E XLW
  have SB : ∀ q9, Mut [(some gb8), (some gb1)] q9 → Mut [(some gb12), (some gb8), (some gb1)] q9 := (Mut.skip (Mut.keep (Mut.keep Mut.nil_)))
  replace HF := HF.less SB
  replace XLW := fun k h => XLW k (SB k h)
  clear SB
  replace E := Ext.refl (Mut [(some gb8), (some gb1)]) w14
  replace HF := HF.and (Per.blkN Bb12 (NotIn.cons Db12_b8 (NotIn.cons Db12_b1 NotIn.nil)))
  clear Bb12
  refine rs_nil ?_
  refine ew_next ?_
  refine cw_seq ?_
  refine cw_seq ?_
  refine cw_region ?_
  refine rs_op rfl (ow_move rfl ?_)
  refine rs_op rfl (ow_sub (z := (-53)) rfl rfl (by kernel_rfl) ?_)
  refine rs_op rfl (ow_assign rfl ?_)
  refine rs_nil ?_
  refine ew_next ?_
  refine cw_seq ?_
  refine cw_region ?_
  refine rs_op rfl (ow_move rfl ?_)
  refine rs_op rfl (ow_geq rfl rfl ?_)
  refine rs_nil ?_
  refine ew_next ?_
  refine cw_else rfl ?_
  refine cw_skip ?_
  refine ew_next ?_
  refine cw_seq ?_
  refine cw_seq ?_
  refine cw_region ?_
  refine rs_op rfl (ow_move rfl ?_)
  refine rs_op rfl (ow_lss rfl rfl ?_)
  refine rs_nil ?_
  refine ew_next ?_
  refine cw_else rfl ?_
  refine cw_skip ?_
  refine ew_next ?_
  refine cw_seq ?_
  have OY : ∀ q9, (Mut (outM [])) q9 → q9 < (World.drew w14).heap.size → (Mut [(some gb8), (some gb1)]) q9 := fun k h _ => (Mut.none_) k h
  refine cw_drawn (Mut [(some gb8), (some gb1)]) (Mut.grow (Mut.grow Mut.none_ (some_lt Bb1.lt)) (some_lt Bb8.lt)) [⟨8, 9, 41, #[.bool false, .slice none 0 0]⟩] [] (fxAt [Fx.of (.agg #[.bool (decide ((2 : Int) < 0)), .slice A2 (limbs 2).length c2]),
      Fx.of (.int .i64 (-53)),
      Fx.of (.int .i64 ((k : Nat) : Int)),
      ⟨(Option Addr × Nat), fun (A3, c3) => .agg #[.bool (decide (((k : Nat) : Int) < 0)), .slice A3 (limbs ((k : Nat) : Int)).length c3], fun (A3, c3) b => (Nums b A3 (limbs ((k : Nat) : Int)))⟩,
      ⟨(Option Addr × Nat), fun (A4, c4) => .tuple #[.agg #[.bool (decide ((2 : Int) ^ k < 0)), .slice A4 (limbs ((2 : Int) ^ k)).length c4], .int .i64 0], fun (A4, c4) b => (Nums b A4 (limbs ((2 : Int) ^ k)))⟩,
      ⟨(Option Addr × Nat), fun (A4, c4) => .tuple #[.agg #[.bool (decide ((2 : Int) ^ k < 0)), .slice A4 (limbs ((2 : Int) ^ k)).length c4], .int .i64 0], fun (A4, c4) b => (Nums b A4 (limbs ((2 : Int) ^ k)))⟩,
      ⟨(Option Addr × Nat), fun (A4, c4) => .agg #[.bool (decide ((2 : Int) ^ k < 0)), .slice A4 (limbs ((2 : Int) ^ k)).length c4], fun (A4, c4) b => (Nums b A4 (limbs ((2 : Int) ^ k)))⟩,
      Fx.of (.int .i64 0),
      Fx.of undef,
      Fx.of undef,
      Fx.of (.int .i64 0)]) mixed rfl trivial (fun _ h => by cases h) ?_ ?_
  · refine ⟨?_, ?_, ?_, ?_, ?_, ?_, ?_, ?_, ?_, ?_, ?_, trivial⟩
    · intro vs X wq K
      have LE := K.1
      have XN := K.2.1
      have SQ := Nat.le_trans LW.size (Nat.le_trans E.size LE.size)
      exact ow_loadB Tryz.underlying41 rfl sz41 rfl (HF.on (E.drew.trans (LE.mono OY))).here.2 rfl ⟨Below.refl _ _, Left.of rfl⟩
    · intro vs X wq K
      have LE := K.1
      have XN := K.2.1
      have SQ := Nat.le_trans LW.size (Nat.le_trans E.size LE.size)
      exact ow_move rfl ⟨Below.refl _ _, Left.of rfl⟩
    · intro vs X wq K
      have LE := K.1
      have XN := K.2.1
      have SQ := Nat.le_trans LW.size (Nat.le_trans E.size LE.size)
      obtain ⟨_, e1, k1⟩ := K.dep 1 rfl rfl rfl
      refine ow_set 61 (.int .i64 (-53)) rfl e1 ?_
      exact ow_neg (z := 53) rfl (by kernel_rfl) ⟨Below.refl _ _, Left.of (by rw [hk]; rfl)⟩
    · intro vs X wq K
      have LE := K.1
      have XN := K.2.1
      have SQ := Nat.le_trans LW.size (Nat.le_trans E.size LE.size)
      obtain ⟨_, e2, k2⟩ := K.dep 2 rfl rfl rfl
      refine ow_set 62 (.int .i64 ((k : Nat) : Int)) rfl e2 ?_
      refine ow_enter en82 rfl ((of_any ((k : Nat) : Int) _ (by omega) (by omega)).mono ?_)
      rintro e w2 ⟨A3, c3, rfl, o3, hb⟩
      exact ⟨_, rfl, hb, ⟨(A3, c3), rfl, Per.own o3 XN⟩⟩
    · intro vs X wq K
      have LE := K.1
      have XN := K.2.1
      have SQ := Nat.le_trans LW.size (Nat.le_trans E.size LE.size)
      obtain ⟨_, e0, k0⟩ := K.dep 0 rfl rfl rfl
      refine ow_set 60 (.agg #[.bool (decide ((2 : Int) < 0)), .slice A2 (limbs 2).length c2]) rfl e0 ?_
      obtain ⟨⟨A3, c3⟩, e3, k3⟩ := K.dep 3 rfl rfl rfl
      refine ow_set 63 (.agg #[.bool (decide (((k : Nat) : Int) < 0)), .slice A3 (limbs ((k : Nat) : Int)).length c3]) rfl e3 ?_
      refine ow_enter en83 rfl ((two_pow k A2 A3 c2 c3 _ (by omega) (HF.on (E.drew.trans (LE.mono OY))).here.1.2 k3.here).mono ?_)
      rintro e w2 ⟨A4, c4, rfl, o4, hb⟩
      exact ⟨_, rfl, hb, ⟨(A4, c4), rfl, Per.own o4 XN⟩⟩
    · intro vs X wq K
      have LE := K.1
      have XN := K.2.1
      have SQ := Nat.le_trans LW.size (Nat.le_trans E.size LE.size)
      obtain ⟨⟨A4, c4⟩, e4, k4⟩ := K.dep 4 rfl rfl rfl
      refine ow_set 64 (.tuple #[.agg #[.bool (decide ((2 : Int) ^ k < 0)), .slice A4 (limbs ((2 : Int) ^ k)).length c4], .int .i64 0]) rfl e4 ?_
      exact ow_move rfl ⟨Below.refl _ _, ⟨⟨A4, c4⟩, rfl, (k4.map (fun _ h => h))⟩⟩
    · intro vs X wq K
      have LE := K.1
      have XN := K.2.1
      have SQ := Nat.le_trans LW.size (Nat.le_trans E.size LE.size)
      obtain ⟨⟨A4, c4⟩, e5, k5⟩ := K.dep 5 rfl rfl rfl
      refine ow_set 59 (.tuple #[.agg #[.bool (decide ((2 : Int) ^ k < 0)), .slice A4 (limbs ((2 : Int) ^ k)).length c4], .int .i64 0]) rfl e5 ?_
      exact ow_extract rfl rfl ⟨Below.refl _ _, ⟨⟨A4, c4⟩, rfl, (k5.map (fun _ h => h))⟩⟩
    · intro vs X wq K
      have LE := K.1
      have XN := K.2.1
      have SQ := Nat.le_trans LW.size (Nat.le_trans E.size LE.size)
      obtain ⟨⟨A4, c4⟩, e5, k5⟩ := K.dep 5 rfl rfl rfl
      refine ow_set 59 (.tuple #[.agg #[.bool (decide ((2 : Int) ^ k < 0)), .slice A4 (limbs ((2 : Int) ^ k)).length c4], .int .i64 0]) rfl e5 ?_
      exact ow_extract rfl rfl ⟨Below.refl _ _, Left.of rfl⟩
    · exact ⟨_, _, _, _, _, rfl, zr41, rfl⟩
    · refine ⟨_, _, _, _, _, rfl, rfl, rfl, sz41, fun vs X wq K => ?_⟩
      obtain ⟨⟨A4, c4⟩, e0, _⟩ := K.dep 6 rfl rfl rfl
      exact ⟨vs 6, rfl, by rw [e0]; rfl, by rw [e0]; rfl⟩
    · intro vs X wq K
      have LE := K.1
      have XN := K.2.1
      have SQ := Nat.le_trans LW.size (Nat.le_trans E.size LE.size)
      obtain ⟨_, e7, k7⟩ := K.dep 7 rfl rfl rfl
      refine ow_set 66 (.int .i64 0) rfl e7 ?_
      exact ow_assign rfl ⟨Below.refl _ _, Left.of rfl⟩
  intro vs w15 LE AO AL AF AA
  have LBb8 := Bb8
  have LBb1 := Bb1
  replace Bb8 := Bb8.drew.extN LE NotIn.nil
  replace Bb1 := Bb1.drew.extN LE NotIn.nil
  replace E := E.drew.trans (LE.mono OY)
  obtain ⟨⟨A4, c4⟩, e6, k6⟩ := AL.2.2.2.2.2.2.1
  replace HF := HF.on E
  replace LW := LW.step E XLW
  replace E := Ext.refl (Mut [(some gb8), (some gb1)]) w15
  replace HF := HF.and ((k6.map (fun _ h => h) : Per (Mut [(some gb8), (some gb1)]) w15 (fun b => Nums b A4 (limbs ((2 : Int) ^ k)))))
  obtain ⟨gb16, v0, y0, qb16, Gb16, Bb16, ey, ev0⟩ := AF.1
  cases ey
  obtain rfl : vs 6 = v0 := Option.some.inj ev0
  rw [e6] at Bb16
  have Db16_b8 : Apart (some gb16) (some gb8) := Apart.of_lt (some_lt LBb8.lt) Gb16
  have Db8_b16 := Db16_b8.symm
  have Db16_b1 : Apart (some gb16) (some gb1) := Apart.of_lt (some_lt LBb1.lt) Gb16
  have Db1_b16 := Db16_b1.symm
  replace HF := HF.on E
  replace LW := LW.step E XLW
  replace E := Ext.refl (Mut [(some gb8), (some gb1)]) w15
  replace HF := HF.and ((Per.blkN Bb16 (NotIn.cons Db16_b8 (NotIn.cons Db16_b1 NotIn.nil)) : Per (Mut [(some gb8), (some gb1)]) w15 (fun b => Blk b gb16 41 #[.bool (decide ((2 : Int) ^ k < 0)), .slice A4 (limbs ((2 : Int) ^ k)).length c4])))
  clear Bb16
  have e8 := qb16
  refine ew_sub (τ := [(2, _), (3, _), (7, _), (11, .pointer (some ⟨gb16, 0, none⟩))]) ⟨rfl, rfl, rfl, congrArg some e8, trivial⟩ ?_
  clear AL AF AA LE AO OY e6 e8 k6 LBb8 LBb1
  refine ew_next ?_
  refine cw_seq ?_
  refine cw_region ?_
  refine rs_op rfl (ow_loadB Tryz.underlying41 rfl sz41 rfl Bb8 rfl ?_)
  refine rs_op rfl (ow_loadB Tryz.underlying41 rfl sz41 rfl (HF.on E).here.2 rfl ?_)
  refine rs_op rfl (ow_enter en85 rfl ((div_two hM hm0 (by omega) (by omega) A1 A4 c1 c4 _ (HF.on E).here.1.1.1.1.2 (HF.on E).here.1.2).mono ?_))
  rintro e w17 ⟨A5, c5, B6, c6, r, rfl, o5, hb⟩
  refine ⟨_, rfl, ?_⟩
  have XC : ∀ q9, (Mut [(some gb8), (some gb1)]) q9 → q9 < w15.heap.size := (Mut.grow (Mut.grow Mut.none_ (some_lt Bb1.lt)) (some_lt Bb8.lt))
  have SC := Nat.le_trans LW.size E.size
  have Ec := Ext.of_below hb No
  replace Bb8 := Bb8.extN Ec NotIn.nil
  replace Bb1 := Bb1.extN Ec NotIn.nil
  replace E := E.trans Ec.no
  clear hb Ec
  have hS := SC
  replace HF := HF.on E
  replace LW := LW.step E XLW
  replace E := Ext.refl (Mut [(some gb8), (some gb1)]) w17
  replace HF := HF.and (Per.ownX o5 XC)
  refine rs_op rfl (ow_move rfl ?_)
  refine rs_op rfl (ow_extract rfl rfl ?_)
  refine rs_op rfl (ow_extract rfl rfl ?_)
  refine rs_op rfl (ow_extract rfl rfl ?_)
  refine rs_op rfl (ow_allocB zr41 ?_)
  intro gb18 w19 Bb18 Eb18 Gb18
  have Db18_b8 : Apart (some gb18) (some gb8) := Apart.of_lt (some_lt Bb8.lt) Gb18
  have Db8_b18 := Db18_b8.symm
  have Db18_b1 : Apart (some gb18) (some gb1) := Apart.of_lt (some_lt Bb1.lt) Gb18
  have Db1_b18 := Db18_b1.symm
  have Gb18 : _ ≤ gb18 := Nat.le_trans E.size Gb18
  have GLb18 := Nat.le_trans LW.size Gb18
  replace Bb8 := Bb8.extN Eb18 NotIn.nil
  replace Bb1 := Bb1.extN Eb18 NotIn.nil
  replace E := E.trans Eb18.no
  clear Eb18
  replace HF := HF.cons (some_ge Gb18)
  replace E := E.cons (some gb18)
  replace XLW := Mut.grow XLW (fun k e => Or.inr (Nat.le_trans LW.size ((some_ge Gb18) k e)))
  refine rs_op rfl (ow_allocB zr41 ?_)
  intro gb20 w21 Bb20 Eb20 Gb20
  have Db20_b18 : Apart (some gb20) (some gb18) := Apart.of_lt (some_lt Bb18.lt) Gb20
  have Db18_b20 := Db20_b18.symm
  have Db20_b8 : Apart (some gb20) (some gb8) := Apart.of_lt (some_lt Bb8.lt) Gb20
  have Db8_b20 := Db20_b8.symm
  have Db20_b1 : Apart (some gb20) (some gb1) := Apart.of_lt (some_lt Bb1.lt) Gb20
  have Db1_b20 := Db20_b1.symm
  have Gb20 : _ ≤ gb20 := Nat.le_trans E.size Gb20
  have GLb20 := Nat.le_trans LW.size Gb20
  replace Bb18 := Bb18.extN Eb20 NotIn.nil
  replace Bb8 := Bb8.extN Eb20 NotIn.nil
  replace Bb1 := Bb1.extN Eb20 NotIn.nil
  replace E := E.trans Eb20.no
  clear Eb20
  replace HF := HF.cons (some_ge Gb20)
  replace E := E.cons (some gb20)
  replace XLW := Mut.grow XLW (fun k e => Or.inr (Nat.le_trans LW.size ((some_ge Gb20) k e)))
  refine rs_op0 (ow_storeM sz41 rfl rfl Bb18 rfl rfl (Nat.le_of_ble_eq_true rfl) ?_)
  intro w22 Bx Eb18
  replace Bb18 := Bx
  clear Bx
  replace Bb20 := Bb20.extN Eb18 (NotIn.cons Db20_b18 NotIn.nil)
  replace Bb8 := Bb8.extN Eb18 (NotIn.cons Db8_b18 NotIn.nil)
  replace Bb1 := Bb1.extN Eb18 (NotIn.cons Db1_b18 NotIn.nil)
  replace E := E.step1 Eb18 (Mut.tail Mut.head)
  clear Eb18
  replace HF := HF.on E
  replace LW := LW.step E XLW
  have SB : ∀ q9, Mut [(some gb20), (some gb8), (some gb1)] q9 → Mut [(some gb20), (some gb18), (some gb8), (some gb1)] q9 := (Mut.keep (Mut.skip (Mut.keep (Mut.keep Mut.nil_))))
  replace HF := HF.less SB
  replace XLW := fun k h => XLW k (SB k h)
  clear SB
  replace E := Ext.refl (Mut [(some gb20), (some gb8), (some gb1)]) w22
  replace HF := HF.and (Per.blkN Bb18 (NotIn.cons Db18_b20 (NotIn.cons Db18_b8 (NotIn.cons Db18_b1 NotIn.nil))))
  clear Bb18
  refine rs_op0 (ow_storeM sz41 rfl rfl Bb20 rfl rfl (Nat.le_of_ble_eq_true rfl) ?_)
  intro w23 Bx Eb20
  replace Bb20 := Bx
  clear Bx
  replace Bb8 := Bb8.extN Eb20 (NotIn.cons Db8_b20 NotIn.nil)
  replace Bb1 := Bb1.extN Eb20 (NotIn.cons Db1_b20 NotIn.nil)
  replace E := E.step1 Eb20 Mut.head
  clear Eb20
  replace HF := HF.on E
  replace LW := LW.step E XLW
  have SB : ∀ q9, Mut [(some gb8), (some gb1)] q9 → Mut [(some gb20), (some gb8), (some gb1)] q9 := (Mut.skip (Mut.keep (Mut.keep Mut.nil_)))
  replace HF := HF.less SB
  replace XLW := fun k h => XLW k (SB k h)
  clear SB
  replace E := Ext.refl (Mut [(some gb8), (some gb1)]) w23
  replace HF := HF.and (Per.blkN Bb20 (NotIn.cons Db20_b8 (NotIn.cons Db20_b1 NotIn.nil)))
  clear Bb20
  refine rs_op rfl (ow_assign rfl ?_)
  refine rs_nil ?_
  refine ew_next ?_
  refine cw_seq ?_
  refine cw_region ?_
  refine rs_op rfl (ow_loadB Tryz.underlying41 rfl sz41 rfl (HF.on E).here.1.2 rfl ?_)
  refine rs_op0 (ow_storeM sz41 rfl rfl Bb1 rfl rfl (Nat.le_of_ble_eq_true rfl) ?_)
  intro w24 Bx Eb1
  replace Bb1 := Bx
  clear Bx
  replace Bb8 := Bb8.extN Eb1 (NotIn.cons Db8_b1 NotIn.nil)
  replace E := E.step1 Eb1 (Mut.tail Mut.head)
  clear Eb1
  replace HF := HF.on E
  replace LW := LW.step E XLW
  have SB : ∀ q9, Mut [(some gb8)] q9 → Mut [(some gb8), (some gb1)] q9 := (Mut.keep (Mut.skip Mut.nil_))
  replace HF := HF.less SB
  replace XLW := fun k h => XLW k (SB k h)
  clear SB
  replace E := Ext.refl (Mut [(some gb8)]) w24
  replace HF := HF.and (Per.blkN Bb1 (NotIn.cons Db1_b8 NotIn.nil))
  clear Bb1
  refine rs_op rfl (ow_assign rfl ?_)
  refine rs_nil ?_
  refine ew_next ?_
  refine cw_ret ?_
  refine ew_ret (rs := [.cell 2 41, .tmp 3]) (vs := [_, _]) rfl ⟨⟨_, rfl, res_box Tryz.underlying41 rfl sz41 (HF.on E).here.2 rfl⟩, rfl, trivial⟩ ?_
  exact ⟨A5, c5, rfl, ((HF.on E).here.1.1.1.2).mono hS, (LW.step E XLW).toBelow⟩
/-! ### a whole number that is not nought -/
theorem whole_num (h0 : wholeN a ≠ 0) : Calls Tryz.prog 42 #[.int .u64 ((a : Nat) : Int)] w (RetBigErr w (wholeI a) 0) := by
  obtain ⟨q, hq1, hq2, hq3⟩ := fround_zero hf
  have hqf : q < 9218868437227405312 := by omega
  have hq0 : q ≠ 0 := fun e => by
    subst e
    rw [vl_zero] at hq1
    exact h0 (pos_zero (two_pos 1074) hq1)
  obtain ⟨r1, r2, r3⟩ := word_rg (ng a) q (by omega)
  obtain ⟨T, hT⟩ : ∃ T, T = Ieee.double.word (ng a) q := ⟨_, rfl⟩
  have hT1 : rg T = q := by rw [hT, r1]
  have hT2 : ng T = ng a := by rw [hT, r2]
  obtain ⟨F, hF⟩ : ∃ F, F = frF T := ⟨_, rfl⟩
  have hmn := mg_nr hq0
  have hFp : rg F = 4602678819172646912 + (mg (nr q) - 4503599627370496) ∧ ng F = ng a ∧ F < 18446744073709551616 := by
    rw [hF, frF, hT1, hT2]
    exact word_rg _ _ (by omega)
  obtain ⟨fq1, fq2⟩ := fullQ (r := q) hq0
  have hFv : vl (rg F) = mg (nr q) * 2 ^ 1021 := by
    rw [hFp.1, ← frF_pos hqf]
    exact (frF_parts hqf hq0).2.2
  have fq3 : vl (1074 * 4503599627370496 + mg (nr q)) = vl (rg F) * 2 ^ 53 := by rewrite [fq1, hFv]; exact pow_split (p := 1074) (q := 1021) (s := 53) (by decide) _
  obtain ⟨M, hMd⟩ : ∃ M, M = mg (nr q) := ⟨_, rfl⟩
  obtain ⟨m0, hm0⟩ : ∃ m0 : Int, m0 = if ng a then -((M : Nat) : Int) else ((M : Nat) : Int) := ⟨_, rfl⟩
  have fw := word_rg (ng F) (1074 * 4503599627370496 + mg (nr q)) (by omega)
  have hwM : wholeN (Ieee.double.word (ng F) (1074 * 4503599627370496 + mg (nr q))) = M := by rw [hMd]; exact wholeN_word (ng F) fq2 fq1
  have hfz : floatToIntVal .f64 (Ieee.double.word (ng F) (1074 * 4503599627370496 + mg (nr q))) .i64 = some m0 := by
    rw [f2i_i64 (by rw [fw.1]; exact fq2) (by rw [hwM]; omega), hwM, fw.2.1, hFp.2.1, hm0]
  have hE : frE T = ((ex (nr q) : Nat) : Int) - 1021 - ((nd q : Nat) : Int) := by
    have := frE_pos hqf
    rw [← this]
    unfold frE
    rw [hT1, (rg_self (r := q) (by omega)).1]
  have hval := nr_value hq0
  rw [hq1] at hval
  have hxn : ex (nr q) ≤ 2045 := by have := nr_high hq0 hqf; unfold ex; split <;> omega
  have hnd : nd q ≤ 52 := by unfold nd; split <;> omega
  refine calls_cw Tryz.func42 rfl Tryz.ntmps42 rfl ?_
  have HF : Per (No) w (fun _ => True) := Per.true_
  have LW := Ext.refl (No) w
  have XLW : ∀ q9, (No) q9 → (No) q9 ∨ w.heap.size ≤ q9 := fun _ h => Or.inl h
  have E := Ext.refl (No) w
  refine cw_seq ?_
  refine cw_region ?_
  refine rs_op rfl (ow_allocB zr41 ?_)
  intro gb1 w2 Bb1 Eb1 Gb1
  have Gb1 : _ ≤ gb1 := Nat.le_trans E.size Gb1
  have GLb1 := Nat.le_trans LW.size Gb1
  replace E := E.trans Eb1.no
  clear Eb1
  replace HF := HF.cons (some_ge Gb1)
  replace E := E.cons (some gb1)
  replace XLW := Mut.grow XLW (fun k e => Or.inr (Nat.le_trans LW.size ((some_ge Gb1) k e)))
  refine rs_op rfl (ow_assign rfl ?_)
  refine rs_nil ?_
  refine ew_next ?_
  refine cw_seq ?_
  refine cw_region ?_
  refine rs_op rfl (ow_move rfl ?_)
  refine rs_op rfl (ow_frombits (b := a) ex60 rfl ?_)
  refine rs_op rfl (ow_assign rfl ?_)
  refine rs_nil ?_
  refine ew_next ?_
  refine cw_seq ?_
  refine cw_block ?_
  refine cw_seq ?_
  refine cw_region ?_
  refine rs_op rfl (ow_move rfl ?_)
  refine rs_op rfl (ow_move rfl ?_)
  refine rs_op rfl (ow_fneq rfl rfl ?_)
  refine rs_op rfl (ow_assign rfl ?_)
  refine rs_nil ?_
  refine ew_next ?_
  refine cw_set 18 (.bool false) rfl ((by rw [ford_self, fin_notN hf] : (.bool (ford a a != some .eq) : Value) = _)) ?_
  refine cw_else rfl ?_
  refine cw_seq ?_
  refine cw_region ?_
  refine rs_op rfl (ow_move rfl ?_)
  refine rs_op rfl (ow_enter en61 rfl ((misinf_any _ a ha).mono ?_))
  rintro e w3 ⟨rfl, hb⟩
  refine ⟨_, rfl, ?_⟩
  have Ec := Ext.of_below hb No
  replace Bb1 := Bb1.extN Ec NotIn.nil
  replace E := E.trans Ec.no
  clear hb Ec
  refine rs_set 25 (.bool false) rfl ((by rw [decide_eq_false (by omega)] : (.bool (decide (rg a = 9218868437227405312)) : Value) = _)) ?_
  refine rs_op rfl (ow_assign rfl ?_)
  refine rs_nil ?_
  refine ew_next ?_
  refine cw_else rfl ?_
  refine cw_skip ?_
  refine ew_block_normal ?_
  refine ew_next ?_
  refine cw_seq ?_
  refine cw_region ?_
  refine rs_op rfl (ow_move rfl ?_)
  refine rs_op rfl (ow_enter en81 rfl ((trunc_num _ a hf).mono ?_))
  rintro e w4 ⟨rfl, hb⟩
  refine ⟨_, rfl, ?_⟩
  have Ec := Ext.of_below hb No
  replace Bb1 := Bb1.extN Ec NotIn.nil
  replace E := E.trans Ec.no
  clear hb Ec
  refine rs_set 29 (.float .f64 (Ieee.double.word (ng a) q)) rfl ((by rw [hq3] : (.float .f64 (fround .zero a) : Value) = _)) ?_
  refine rs_set 29 (.float .f64 T) rfl ((by rw [hT] : (.float .f64 (Ieee.double.word (ng a) q) : Value) = _)) ?_
  refine rs_op rfl (ow_enter en70 rfl ((Frexp_num _ T (by rw [hT]; exact r3) (by rw [hT1]; exact hq0) (by rw [hT1]; exact hqf)).mono ?_))
  rintro e w5 ⟨rfl, hb⟩
  refine ⟨_, rfl, ?_⟩
  have Ec := Ext.of_below hb No
  replace Bb1 := Bb1.extN Ec NotIn.nil
  replace E := E.trans Ec.no
  clear hb Ec
  refine rs_set 30 (.tuple #[.float .f64 F, .int .i64 (frE T)]) rfl ((by rw [hF] : (.tuple #[.float .f64 (frF T), .int .i64 (frE T)] : Value) = _)) ?_
  refine rs_op rfl (ow_move rfl ?_)
  refine rs_op rfl (ow_extract rfl rfl ?_)
  refine rs_op rfl (ow_extract rfl rfl ?_)
  refine rs_op rfl (ow_assign rfl ?_)
  refine rs_op rfl (ow_assign rfl ?_)
  refine rs_nil ?_
  refine ew_next ?_
  refine cw_seq ?_
  refine cw_region ?_
  refine rs_op rfl (ow_move rfl ?_)
  refine rs_op rfl (ow_enter en72 rfl ((Ldexp_num _ F hFp.2.2 (by rw [hFp.1]; omega) (by rw [hFp.1]; omega) 53 (1074 * 4503599627370496 + mg (nr q)) (by decide) fq2 fq3).mono ?_))
  rintro e w6 ⟨rfl, hb⟩
  refine ⟨_, rfl, ?_⟩
  have Ec := Ext.of_below hb No
  replace Bb1 := Bb1.extN Ec NotIn.nil
  replace E := E.trans Ec.no
  clear hb Ec
  refine rs_op rfl (ow_f2i (z := m0) Tryz.underlying3 (by rw [Tryz.underlying57]; rfl) rfl hfz ?_)
  refine rs_op rfl (ow_enter en82 rfl ((of_any m0 _ (by rw [hm0]; split <;> omega) (by rw [hm0]; split <;> omega)).mono ?_))
  rintro e w7 ⟨A1, c1, rfl, o1, hb⟩
  refine ⟨_, rfl, ?_⟩
  have XC : ∀ q9, (Mut [(some gb1)]) q9 → q9 < w6.heap.size := (Mut.grow Mut.none_ (some_lt Bb1.lt))
  have Ec := Ext.of_below hb No
  replace Bb1 := Bb1.extN Ec NotIn.nil
  replace E := E.trans Ec.no
  clear hb Ec
  replace HF := HF.on E
  replace LW := LW.step E XLW
  replace E := Ext.refl (Mut [(some gb1)]) w7
  replace HF := HF.and (Per.own o1 XC)
  refine rs_op rfl (ow_allocB zr41 ?_)
  intro gb8 w9 Bb8 Eb8 Gb8
  have Db8_b1 : Apart (some gb8) (some gb1) := Apart.of_lt (some_lt Bb1.lt) Gb8
  have Db1_b8 := Db8_b1.symm
  have Gb8 : _ ≤ gb8 := Nat.le_trans E.size Gb8
  have GLb8 := Nat.le_trans LW.size Gb8
  replace Bb1 := Bb1.extN Eb8 NotIn.nil
  replace E := E.trans Eb8.no
  clear Eb8
  replace HF := HF.cons (some_ge Gb8)
  replace E := E.cons (some gb8)
  replace XLW := Mut.grow XLW (fun k e => Or.inr (Nat.le_trans LW.size ((some_ge Gb8) k e)))
  refine rs_op0 (ow_storeM sz41 rfl rfl Bb8 rfl rfl (Nat.le_of_ble_eq_true rfl) ?_)
  intro w10 Bx Eb8
  replace Bb8 := Bx
  clear Bx
  replace Bb1 := Bb1.extN Eb8 (NotIn.cons Db1_b8 NotIn.nil)
  replace E := E.step1 Eb8 Mut.head
  clear Eb8
  refine rs_nil ?_
  refine ew_next ?_
  refine cw_seq ?_
  refine cw_region ?_
  refine rs_op rfl (ow_enter en82 rfl ((of_any 2 _ (by decide) (by decide)).mono ?_))
  rintro e w11 ⟨A2, c2, rfl, o2, hb⟩
  refine ⟨_, rfl, ?_⟩
  have XC : ∀ q9, (Mut [(some gb8), (some gb1)]) q9 → q9 < w10.heap.size := (Mut.grow (Mut.grow Mut.none_ (some_lt Bb1.lt)) (some_lt Bb8.lt))
  have Ec := Ext.of_below hb No
  replace Bb8 := Bb8.extN Ec NotIn.nil
  replace Bb1 := Bb1.extN Ec NotIn.nil
  replace E := E.trans Ec.no
  clear hb Ec
  replace HF := HF.on E
  replace LW := LW.step E XLW
  replace E := Ext.refl (Mut [(some gb8), (some gb1)]) w11
  replace HF := HF.and (Per.own o2 XC)
  refine rs_op rfl (ow_allocB zr41 ?_)
  intro gb12 w13 Bb12 Eb12 Gb12
  have Db12_b8 : Apart (some gb12) (some gb8) := Apart.of_lt (some_lt Bb8.lt) Gb12
  have Db8_b12 := Db12_b8.symm
  have Db12_b1 : Apart (some gb12) (some gb1) := Apart.of_lt (some_lt Bb1.lt) Gb12
  have Db1_b12 := Db12_b1.symm
  have Gb12 : _ ≤ gb12 := Nat.le_trans E.size Gb12
  have GLb12 := Nat.le_trans LW.size Gb12
  replace Bb8 := Bb8.extN Eb12 NotIn.nil
  replace Bb1 := Bb1.extN Eb12 NotIn.nil
  replace E := E.trans Eb12.no
  clear Eb12
  replace HF := HF.cons (some_ge Gb12)
  replace E := E.cons (some gb12)
  replace XLW := Mut.grow XLW (fun k e => Or.inr (Nat.le_trans LW.size ((some_ge Gb12) k e)))
  refine rs_op0 (ow_storeM sz41 rfl rfl Bb12 rfl rfl (Nat.le_of_ble_eq_true rfl) ?_)
  intro w14 Bx Eb12
  replace Bb12 := Bx
  clear Bx
  replace Bb8 := Bb8.extN Eb12 (NotIn.cons Db8_b12 NotIn.nil)
  replace Bb1 := Bb1.extN Eb12 (NotIn.cons Db1_b12 NotIn.nil)
  replace E := E.step1 Eb12 Mut.head
  clear Eb12
  replace HF := HF.on E
  replace LW := LW.step E XLW
  have SB : ∀ q9, Mut [(some gb8), (some gb1)] q9 → Mut [(some gb12), (some gb8), (some gb1)] q9 := (Mut.skip (Mut.keep (Mut.keep Mut.nil_)))
  replace HF := HF.less SB
  replace XLW := fun k h => XLW k (SB k h)
  clear SB
  replace E := Ext.refl (Mut [(some gb8), (some gb1)]) w14
  replace HF := HF.and (Per.blkN Bb12 (NotIn.cons Db12_b8 (NotIn.cons Db12_b1 NotIn.nil)))
  clear Bb12
  refine rs_nil ?_
  refine ew_next ?_
  refine cw_seq ?_
  refine cw_seq ?_
  refine cw_region ?_
  refine rs_op rfl (ow_move rfl ?_)
  refine rs_op rfl (ow_sub rfl rfl (wrap_i64 (by omega)) ?_)
  refine rs_op rfl (ow_assign rfl ?_)
  refine rs_nil ?_
  refine ew_next ?_
  refine cw_seq ?_
  refine cw_region ?_
  refine rs_op rfl (ow_move rfl ?_)
  refine rs_op rfl (ow_geq rfl rfl ?_)
  refine rs_nil ?_
  refine ew_next ?_
  refine cw_set 41 (.bool (decide (1074 + nd q ≤ ex (nr q)))) rfl (bool_dec (by rw [hE]; omega)) ?_
  refine cw_cond rfl (fun hc => ?_) (fun hc => ?_)
  · have _way := True.intro
    have hc := of_decide_eq_true hc
    obtain ⟨k, hk⟩ : ∃ k, k = ex (nr q) - (1074 + nd q) := ⟨_, rfl⟩
    have hW : wholeN a = M * 2 ^ k := val_hi hval hc hk hMd
    have hprod : m0 * (2 : Int) ^ k = wholeI a := by
      rw [wholeI, hW, hm0]
      split
      · rw [Int.neg_mul, Int.natCast_mul, Int.natCast_pow]; rfl
      · rw [Int.natCast_mul, Int.natCast_pow]; rfl
    have hwl := wholeI_lt hf
    refine cw_set 6 (.int .i64 ((k : Nat) : Int)) rfl ((by rw [hE]; congr 1; omega : (.int .i64 ((frE T) - 53) : Value) = _)) ?_
    refine cw_seq ?_
    have OY : ∀ q9, (Mut (outM [])) q9 → q9 < (World.drew w14).heap.size → (Mut [(some gb8), (some gb1)]) q9 := fun k h _ => (Mut.none_) k h
    refine cw_drawn (Mut [(some gb8), (some gb1)]) (Mut.grow (Mut.grow Mut.none_ (some_lt Bb1.lt)) (some_lt Bb8.lt)) [⟨7, 8, 41, #[.bool false, .slice none 0 0]⟩] [] (fxAt [Fx.of (.agg #[.bool (decide ((2 : Int) < 0)), .slice A2 (limbs 2).length c2]),
        Fx.of (.int .i64 ((k : Nat) : Int)),
        ⟨(Option Addr × Nat), fun (A3, c3) => .agg #[.bool (decide (((k : Nat) : Int) < 0)), .slice A3 (limbs ((k : Nat) : Int)).length c3], fun (A3, c3) b => (Nums b A3 (limbs ((k : Nat) : Int)))⟩,
        ⟨(Option Addr × Nat), fun (A4, c4) => .tuple #[.agg #[.bool (decide ((2 : Int) ^ k < 0)), .slice A4 (limbs ((2 : Int) ^ k)).length c4], .int .i64 0], fun (A4, c4) b => (Nums b A4 (limbs ((2 : Int) ^ k)))⟩,
        ⟨(Option Addr × Nat), fun (A4, c4) => .tuple #[.agg #[.bool (decide ((2 : Int) ^ k < 0)), .slice A4 (limbs ((2 : Int) ^ k)).length c4], .int .i64 0], fun (A4, c4) b => (Nums b A4 (limbs ((2 : Int) ^ k)))⟩,
        ⟨(Option Addr × Nat), fun (A4, c4) => .agg #[.bool (decide ((2 : Int) ^ k < 0)), .slice A4 (limbs ((2 : Int) ^ k)).length c4], fun (A4, c4) b => (Nums b A4 (limbs ((2 : Int) ^ k)))⟩,
        Fx.of (.int .i64 0),
        Fx.of undef,
        Fx.of undef,
        Fx.of (.int .i64 0)]) mixed rfl trivial (fun _ h => by cases h) ?_ ?_
    · refine ⟨?_, ?_, ?_, ?_, ?_, ?_, ?_, ?_, ?_, ?_, trivial⟩
      · intro vs X wq K
        have LE := K.1
        have XN := K.2.1
        have SQ := Nat.le_trans LW.size (Nat.le_trans E.size LE.size)
        exact ow_loadB Tryz.underlying41 rfl sz41 rfl (HF.on (E.drew.trans (LE.mono OY))).here.2 rfl ⟨Below.refl _ _, Left.of rfl⟩
      · intro vs X wq K
        have LE := K.1
        have XN := K.2.1
        have SQ := Nat.le_trans LW.size (Nat.le_trans E.size LE.size)
        exact ow_move rfl ⟨Below.refl _ _, Left.of rfl⟩
      · intro vs X wq K
        have LE := K.1
        have XN := K.2.1
        have SQ := Nat.le_trans LW.size (Nat.le_trans E.size LE.size)
        obtain ⟨_, e1, k1⟩ := K.dep 1 rfl rfl rfl
        refine ow_set 44 (.int .i64 ((k : Nat) : Int)) rfl e1 ?_
        refine ow_enter en82 rfl ((of_any ((k : Nat) : Int) _ (by omega) (by omega)).mono ?_)
        rintro e w2 ⟨A3, c3, rfl, o3, hb⟩
        exact ⟨_, rfl, hb, ⟨(A3, c3), rfl, Per.own o3 XN⟩⟩
      · intro vs X wq K
        have LE := K.1
        have XN := K.2.1
        have SQ := Nat.le_trans LW.size (Nat.le_trans E.size LE.size)
        obtain ⟨_, e0, k0⟩ := K.dep 0 rfl rfl rfl
        refine ow_set 43 (.agg #[.bool (decide ((2 : Int) < 0)), .slice A2 (limbs 2).length c2]) rfl e0 ?_
        obtain ⟨⟨A3, c3⟩, e2, k2⟩ := K.dep 2 rfl rfl rfl
        refine ow_set 45 (.agg #[.bool (decide (((k : Nat) : Int) < 0)), .slice A3 (limbs ((k : Nat) : Int)).length c3]) rfl e2 ?_
        refine ow_enter en83 rfl ((two_pow k A2 A3 c2 c3 _ (by omega) (HF.on (E.drew.trans (LE.mono OY))).here.1.2 k2.here).mono ?_)
        rintro e w2 ⟨A4, c4, rfl, o4, hb⟩
        exact ⟨_, rfl, hb, ⟨(A4, c4), rfl, Per.own o4 XN⟩⟩
      · intro vs X wq K
        have LE := K.1
        have XN := K.2.1
        have SQ := Nat.le_trans LW.size (Nat.le_trans E.size LE.size)
        obtain ⟨⟨A4, c4⟩, e3, k3⟩ := K.dep 3 rfl rfl rfl
        refine ow_set 46 (.tuple #[.agg #[.bool (decide ((2 : Int) ^ k < 0)), .slice A4 (limbs ((2 : Int) ^ k)).length c4], .int .i64 0]) rfl e3 ?_
        exact ow_move rfl ⟨Below.refl _ _, ⟨⟨A4, c4⟩, rfl, (k3.map (fun _ h => h))⟩⟩
      · intro vs X wq K
        have LE := K.1
        have XN := K.2.1
        have SQ := Nat.le_trans LW.size (Nat.le_trans E.size LE.size)
        obtain ⟨⟨A4, c4⟩, e4, k4⟩ := K.dep 4 rfl rfl rfl
        refine ow_set 42 (.tuple #[.agg #[.bool (decide ((2 : Int) ^ k < 0)), .slice A4 (limbs ((2 : Int) ^ k)).length c4], .int .i64 0]) rfl e4 ?_
        exact ow_extract rfl rfl ⟨Below.refl _ _, ⟨⟨A4, c4⟩, rfl, (k4.map (fun _ h => h))⟩⟩
      · intro vs X wq K
        have LE := K.1
        have XN := K.2.1
        have SQ := Nat.le_trans LW.size (Nat.le_trans E.size LE.size)
        obtain ⟨⟨A4, c4⟩, e4, k4⟩ := K.dep 4 rfl rfl rfl
        refine ow_set 42 (.tuple #[.agg #[.bool (decide ((2 : Int) ^ k < 0)), .slice A4 (limbs ((2 : Int) ^ k)).length c4], .int .i64 0]) rfl e4 ?_
        exact ow_extract rfl rfl ⟨Below.refl _ _, Left.of rfl⟩
      · exact ⟨_, _, _, _, _, rfl, zr41, rfl⟩
      · refine ⟨_, _, _, _, _, rfl, rfl, rfl, sz41, fun vs X wq K => ?_⟩
        obtain ⟨⟨A4, c4⟩, e0, _⟩ := K.dep 5 rfl rfl rfl
        exact ⟨vs 5, rfl, by rw [e0]; rfl, by rw [e0]; rfl⟩
      · intro vs X wq K
        have LE := K.1
        have XN := K.2.1
        have SQ := Nat.le_trans LW.size (Nat.le_trans E.size LE.size)
        obtain ⟨_, e6, k6⟩ := K.dep 6 rfl rfl rfl
        refine ow_set 48 (.int .i64 0) rfl e6 ?_
        exact ow_assign rfl ⟨Below.refl _ _, Left.of rfl⟩
    intro vs w15 LE AO AL AF AA
    have LBb8 := Bb8
    have LBb1 := Bb1
    replace Bb8 := Bb8.drew.extN LE NotIn.nil
    replace Bb1 := Bb1.drew.extN LE NotIn.nil
    replace E := E.drew.trans (LE.mono OY)
    obtain ⟨⟨A4, c4⟩, e5, k5⟩ := AL.2.2.2.2.2.1
    replace HF := HF.on E
    replace LW := LW.step E XLW
    replace E := Ext.refl (Mut [(some gb8), (some gb1)]) w15
    replace HF := HF.and ((k5.map (fun _ h => h) : Per (Mut [(some gb8), (some gb1)]) w15 (fun b => Nums b A4 (limbs ((2 : Int) ^ k)))))
    obtain ⟨gb16, v0, y0, qb16, Gb16, Bb16, ey, ev0⟩ := AF.1
    cases ey
    obtain rfl : vs 5 = v0 := Option.some.inj ev0
    rw [e5] at Bb16
    have Db16_b8 : Apart (some gb16) (some gb8) := Apart.of_lt (some_lt LBb8.lt) Gb16
    have Db8_b16 := Db16_b8.symm
    have Db16_b1 : Apart (some gb16) (some gb1) := Apart.of_lt (some_lt LBb1.lt) Gb16
    have Db1_b16 := Db16_b1.symm
    replace HF := HF.on E
    replace LW := LW.step E XLW
    replace E := Ext.refl (Mut [(some gb8), (some gb1)]) w15
    replace HF := HF.and ((Per.blkN Bb16 (NotIn.cons Db16_b8 (NotIn.cons Db16_b1 NotIn.nil)) : Per (Mut [(some gb8), (some gb1)]) w15 (fun b => Blk b gb16 41 #[.bool (decide ((2 : Int) ^ k < 0)), .slice A4 (limbs ((2 : Int) ^ k)).length c4])))
    clear Bb16
    have e7 := qb16
    refine ew_sub (τ := [(2, _), (3, _), (6, _), (7, _), (8, _), (9, .pointer (some ⟨gb16, 0, none⟩))]) ⟨rfl, rfl, rfl, rfl, rfl, congrArg some e7, trivial⟩ ?_
    clear AL AF AA LE AO OY e5 e7 k5 LBb8 LBb1
    have hmul : ∀ (A B : Option Addr) (c d : Nat) (w : World), Nums w A (limbs m0) → Nums w B (limbs ((2 : Int) ^ k)) → Calls Tryz.prog 84 #[.agg #[.bool (decide (m0 < 0)), .slice A (limbs m0).length c], .agg #[.bool (decide ((2 : Int) ^ k < 0)), .slice B (limbs ((2 : Int) ^ k)).length d]] w (RetBigErr w (wholeI a) 0) := by
      intro A B c d w hx hy
      have h := mulI A B c d w (small30 (by rw [hm0]; split <;> omega)) (two_30 (by omega)) hx hy
      rw [hprod, outV_ok hwl, outE_ok hwl] at h
      exact h
    refine ew_next ?_
    refine cw_seq ?_
    refine cw_region ?_
    refine rs_op rfl (ow_loadB Tryz.underlying41 rfl sz41 rfl Bb8 rfl ?_)
    refine rs_op rfl (ow_loadB Tryz.underlying41 rfl sz41 rfl (HF.on E).here.2 rfl ?_)
    refine rs_op rfl (ow_enter en84 rfl ((hmul A1 A4 c1 c4 _ (HF.on E).here.1.1.1.1.2 (HF.on E).here.1.2).mono ?_))
    rintro e w17 ⟨A5, c5, rfl, o5, hb⟩
    refine ⟨_, rfl, ?_⟩
    have XC : ∀ q9, (Mut [(some gb8), (some gb1)]) q9 → q9 < w15.heap.size := (Mut.grow (Mut.grow Mut.none_ (some_lt Bb1.lt)) (some_lt Bb8.lt))
    have SC := Nat.le_trans LW.size E.size
    have Ec := Ext.of_below hb No
    replace Bb8 := Bb8.extN Ec NotIn.nil
    replace Bb1 := Bb1.extN Ec NotIn.nil
    replace E := E.trans Ec.no
    clear hb Ec
    have hS := SC
    replace HF := HF.on E
    replace LW := LW.step E XLW
    replace E := Ext.refl (Mut [(some gb8), (some gb1)]) w17
    replace HF := HF.and (Per.ownX o5 XC)
    refine rs_op rfl (ow_move rfl ?_)
    refine rs_op rfl (ow_extract rfl rfl ?_)
    refine rs_op rfl (ow_extract rfl rfl ?_)
    refine rs_op0 (ow_storeM sz41 rfl rfl Bb8 rfl rfl (Nat.le_of_ble_eq_true rfl) ?_)
    intro w18 Bx Eb8
    replace Bb8 := Bx
    clear Bx
    replace Bb1 := Bb1.extN Eb8 (NotIn.cons Db1_b8 NotIn.nil)
    replace E := E.step1 Eb8 Mut.head
    clear Eb8
    replace HF := HF.on E
    replace LW := LW.step E XLW
    have SB : ∀ q9, Mut [(some gb1)] q9 → Mut [(some gb8), (some gb1)] q9 := (Mut.skip (Mut.keep Mut.nil_))
    replace HF := HF.less SB
    replace XLW := fun k h => XLW k (SB k h)
    clear SB
    replace E := Ext.refl (Mut [(some gb1)]) w18
    replace HF := HF.and (Per.blkN Bb8 (NotIn.cons Db8_b1 NotIn.nil))
    clear Bb8
    refine rs_nil ?_
    refine ew_next ?_
    refine cw_seq ?_
    refine cw_region ?_
    refine rs_op rfl (ow_loadB Tryz.underlying41 rfl sz41 rfl (HF.on E).here.2 rfl ?_)
    refine rs_op0 (ow_storeM sz41 rfl rfl Bb1 rfl rfl (Nat.le_of_ble_eq_true rfl) ?_)
    intro w19 Bx Eb1
    replace Bb1 := Bx
    clear Bx
    replace E := E.step1 Eb1 Mut.head
    clear Eb1
    refine rs_op rfl (ow_assign rfl ?_)
    refine rs_nil ?_
    refine ew_next ?_
    refine cw_ret ?_
    refine ew_then_ret ?_
    refine ew_ret (rs := [.cell 2 41, .tmp 3]) (vs := [_, _]) rfl ⟨⟨_, rfl, res_box Tryz.underlying41 rfl sz41 Bb1 rfl⟩, rfl, trivial⟩ ?_
    exact ⟨A5, c5, rfl, ((HF.on E).here.1.2).mono hS, (LW.step E XLW).toBelow⟩
  · have _way := True.intro
    have hc := of_decide_eq_false hc
    obtain ⟨k, hk⟩ : ∃ k, k = 1074 + nd q - ex (nr q) := ⟨_, rfl⟩
    have hM : M = wholeN a * 2 ^ k := val_lo hval (by omega) hk hMd
    have hk52 : k ≤ 52 := by
      rcases Nat.lt_or_ge 52 k with h | h
      · exfalso
        have h1 : 2 ^ 53 ≤ 2 ^ k := Nat.pow_le_pow_right (by decide) (by omega)
        have h2 : 1 * 2 ^ k ≤ wholeN a * 2 ^ k := Nat.mul_le_mul_right _ (by omega)
        omega
      · exact h
    refine cw_skip ?_
    refine ew_next ?_
    refine cw_seq ?_
    refine cw_seq ?_
    refine cw_region ?_
    refine rs_op rfl (ow_move rfl ?_)
    refine rs_op rfl (ow_lss rfl rfl ?_)
    refine rs_nil ?_
    refine ew_next ?_
    refine cw_set 57 (.bool false) rfl ((by rw [hE, decide_eq_false (by omega)] : (.bool (decide (((frE T) - 53) < (-60))) : Value) = _)) ?_
    refine cw_else rfl ?_
    refine cw_skip ?_
    refine ew_next ?_
    refine cw_seq ?_
    have OY : ∀ q9, (Mut (outM [])) q9 → q9 < (World.drew w14).heap.size → (Mut [(some gb8), (some gb1)]) q9 := fun k h _ => (Mut.none_) k h
    refine cw_drawn (Mut [(some gb8), (some gb1)]) (Mut.grow (Mut.grow Mut.none_ (some_lt Bb1.lt)) (some_lt Bb8.lt)) [⟨8, 9, 41, #[.bool false, .slice none 0 0]⟩] [] (fxAt [Fx.of (.agg #[.bool (decide ((2 : Int) < 0)), .slice A2 (limbs 2).length c2]),
        Fx.of (.int .i64 ((frE T) - 53)),
        Fx.of (.int .i64 ((k : Nat) : Int)),
        ⟨(Option Addr × Nat), fun (A3, c3) => .agg #[.bool (decide (((k : Nat) : Int) < 0)), .slice A3 (limbs ((k : Nat) : Int)).length c3], fun (A3, c3) b => (Nums b A3 (limbs ((k : Nat) : Int)))⟩,
        ⟨(Option Addr × Nat), fun (A4, c4) => .tuple #[.agg #[.bool (decide ((2 : Int) ^ k < 0)), .slice A4 (limbs ((2 : Int) ^ k)).length c4], .int .i64 0], fun (A4, c4) b => (Nums b A4 (limbs ((2 : Int) ^ k)))⟩,
        ⟨(Option Addr × Nat), fun (A4, c4) => .tuple #[.agg #[.bool (decide ((2 : Int) ^ k < 0)), .slice A4 (limbs ((2 : Int) ^ k)).length c4], .int .i64 0], fun (A4, c4) b => (Nums b A4 (limbs ((2 : Int) ^ k)))⟩,
        ⟨(Option Addr × Nat), fun (A4, c4) => .agg #[.bool (decide ((2 : Int) ^ k < 0)), .slice A4 (limbs ((2 : Int) ^ k)).length c4], fun (A4, c4) b => (Nums b A4 (limbs ((2 : Int) ^ k)))⟩,
        Fx.of (.int .i64 0),
        Fx.of undef,
        Fx.of undef,
        Fx.of (.int .i64 0)]) mixed rfl trivial (fun _ h => by cases h) ?_ ?_
    · refine ⟨?_, ?_, ?_, ?_, ?_, ?_, ?_, ?_, ?_, ?_, ?_, trivial⟩
      · intro vs X wq K
        have LE := K.1
        have XN := K.2.1
        have SQ := Nat.le_trans LW.size (Nat.le_trans E.size LE.size)
        exact ow_loadB Tryz.underlying41 rfl sz41 rfl (HF.on (E.drew.trans (LE.mono OY))).here.2 rfl ⟨Below.refl _ _, Left.of rfl⟩
      · intro vs X wq K
        have LE := K.1
        have XN := K.2.1
        have SQ := Nat.le_trans LW.size (Nat.le_trans E.size LE.size)
        exact ow_move rfl ⟨Below.refl _ _, Left.of rfl⟩
      · intro vs X wq K
        have LE := K.1
        have XN := K.2.1
        have SQ := Nat.le_trans LW.size (Nat.le_trans E.size LE.size)
        obtain ⟨_, e1, k1⟩ := K.dep 1 rfl rfl rfl
        refine ow_set 61 (.int .i64 ((frE T) - 53)) rfl e1 ?_
        exact ow_neg rfl (wrap_i64 (by omega)) ⟨Below.refl _ _, Left.of ((by rw [hE, hk]; congr 1; omega : (.int .i64 (0 - ((frE T) - 53)) : Value) = _))⟩
      · intro vs X wq K
        have LE := K.1
        have XN := K.2.1
        have SQ := Nat.le_trans LW.size (Nat.le_trans E.size LE.size)
        obtain ⟨_, e2, k2⟩ := K.dep 2 rfl rfl rfl
        refine ow_set 62 (.int .i64 ((k : Nat) : Int)) rfl e2 ?_
        refine ow_enter en82 rfl ((of_any ((k : Nat) : Int) _ (by omega) (by omega)).mono ?_)
        rintro e w2 ⟨A3, c3, rfl, o3, hb⟩
        exact ⟨_, rfl, hb, ⟨(A3, c3), rfl, Per.own o3 XN⟩⟩
      · intro vs X wq K
        have LE := K.1
        have XN := K.2.1
        have SQ := Nat.le_trans LW.size (Nat.le_trans E.size LE.size)
        obtain ⟨_, e0, k0⟩ := K.dep 0 rfl rfl rfl
        refine ow_set 60 (.agg #[.bool (decide ((2 : Int) < 0)), .slice A2 (limbs 2).length c2]) rfl e0 ?_
        obtain ⟨⟨A3, c3⟩, e3, k3⟩ := K.dep 3 rfl rfl rfl
        refine ow_set 63 (.agg #[.bool (decide (((k : Nat) : Int) < 0)), .slice A3 (limbs ((k : Nat) : Int)).length c3]) rfl e3 ?_
        refine ow_enter en83 rfl ((two_pow k A2 A3 c2 c3 _ (by omega) (HF.on (E.drew.trans (LE.mono OY))).here.1.2 k3.here).mono ?_)
        rintro e w2 ⟨A4, c4, rfl, o4, hb⟩
        exact ⟨_, rfl, hb, ⟨(A4, c4), rfl, Per.own o4 XN⟩⟩
      · intro vs X wq K
        have LE := K.1
        have XN := K.2.1
        have SQ := Nat.le_trans LW.size (Nat.le_trans E.size LE.size)
        obtain ⟨⟨A4, c4⟩, e4, k4⟩ := K.dep 4 rfl rfl rfl
        refine ow_set 64 (.tuple #[.agg #[.bool (decide ((2 : Int) ^ k < 0)), .slice A4 (limbs ((2 : Int) ^ k)).length c4], .int .i64 0]) rfl e4 ?_
        exact ow_move rfl ⟨Below.refl _ _, ⟨⟨A4, c4⟩, rfl, (k4.map (fun _ h => h))⟩⟩
      · intro vs X wq K
        have LE := K.1
        have XN := K.2.1
        have SQ := Nat.le_trans LW.size (Nat.le_trans E.size LE.size)
        obtain ⟨⟨A4, c4⟩, e5, k5⟩ := K.dep 5 rfl rfl rfl
        refine ow_set 59 (.tuple #[.agg #[.bool (decide ((2 : Int) ^ k < 0)), .slice A4 (limbs ((2 : Int) ^ k)).length c4], .int .i64 0]) rfl e5 ?_
        exact ow_extract rfl rfl ⟨Below.refl _ _, ⟨⟨A4, c4⟩, rfl, (k5.map (fun _ h => h))⟩⟩
      · intro vs X wq K
        have LE := K.1
        have XN := K.2.1
        have SQ := Nat.le_trans LW.size (Nat.le_trans E.size LE.size)
        obtain ⟨⟨A4, c4⟩, e5, k5⟩ := K.dep 5 rfl rfl rfl
        refine ow_set 59 (.tuple #[.agg #[.bool (decide ((2 : Int) ^ k < 0)), .slice A4 (limbs ((2 : Int) ^ k)).length c4], .int .i64 0]) rfl e5 ?_
        exact ow_extract rfl rfl ⟨Below.refl _ _, Left.of rfl⟩
      · exact ⟨_, _, _, _, _, rfl, zr41, rfl⟩
      · refine ⟨_, _, _, _, _, rfl, rfl, rfl, sz41, fun vs X wq K => ?_⟩
        obtain ⟨⟨A4, c4⟩, e0, _⟩ := K.dep 6 rfl rfl rfl
        exact ⟨vs 6, rfl, by rw [e0]; rfl, by rw [e0]; rfl⟩
      · intro vs X wq K
        have LE := K.1
        have XN := K.2.1
        have SQ := Nat.le_trans LW.size (Nat.le_trans E.size LE.size)
        obtain ⟨_, e7, k7⟩ := K.dep 7 rfl rfl rfl
        refine ow_set 66 (.int .i64 0) rfl e7 ?_
        exact ow_assign rfl ⟨Below.refl _ _, Left.of rfl⟩
    intro vs w20 LE AO AL AF AA
    have LBb8 := Bb8
    have LBb1 := Bb1
    replace Bb8 := Bb8.drew.extN LE NotIn.nil
    replace Bb1 := Bb1.drew.extN LE NotIn.nil
    replace E := E.drew.trans (LE.mono OY)
    obtain ⟨⟨A4, c4⟩, e6, k6⟩ := AL.2.2.2.2.2.2.1
    replace HF := HF.on E
    replace LW := LW.step E XLW
    replace E := Ext.refl (Mut [(some gb8), (some gb1)]) w20
    replace HF := HF.and ((k6.map (fun _ h => h) : Per (Mut [(some gb8), (some gb1)]) w20 (fun b => Nums b A4 (limbs ((2 : Int) ^ k)))))
    obtain ⟨gb21, v0, y0, qb21, Gb21, Bb21, ey, ev0⟩ := AF.1
    cases ey
    obtain rfl : vs 6 = v0 := Option.some.inj ev0
    rw [e6] at Bb21
    have Db21_b8 : Apart (some gb21) (some gb8) := Apart.of_lt (some_lt LBb8.lt) Gb21
    have Db8_b21 := Db21_b8.symm
    have Db21_b1 : Apart (some gb21) (some gb1) := Apart.of_lt (some_lt LBb1.lt) Gb21
    have Db1_b21 := Db21_b1.symm
    replace HF := HF.on E
    replace LW := LW.step E XLW
    replace E := Ext.refl (Mut [(some gb8), (some gb1)]) w20
    replace HF := HF.and ((Per.blkN Bb21 (NotIn.cons Db21_b8 (NotIn.cons Db21_b1 NotIn.nil)) : Per (Mut [(some gb8), (some gb1)]) w20 (fun b => Blk b gb21 41 #[.bool (decide ((2 : Int) ^ k < 0)), .slice A4 (limbs ((2 : Int) ^ k)).length c4])))
    clear Bb21
    have e8 := qb21
    refine ew_sub (τ := [(2, _), (3, _), (7, _), (11, .pointer (some ⟨gb21, 0, none⟩))]) ⟨rfl, rfl, rfl, congrArg some e8, trivial⟩ ?_
    clear AL AF AA LE AO OY e6 e8 k6 LBb8 LBb1
    refine ew_next ?_
    refine cw_seq ?_
    refine cw_region ?_
    refine rs_op rfl (ow_loadB Tryz.underlying41 rfl sz41 rfl Bb8 rfl ?_)
    refine rs_op rfl (ow_loadB Tryz.underlying41 rfl sz41 rfl (HF.on E).here.2 rfl ?_)
    refine rs_op rfl (ow_enter en85 rfl ((div_two hM hm0 (by omega) (by omega) A1 A4 c1 c4 _ (HF.on E).here.1.1.1.1.2 (HF.on E).here.1.2).mono ?_))
    rintro e w22 ⟨A5, c5, B6, c6, r, rfl, o5, hb⟩
    refine ⟨_, rfl, ?_⟩
    have XC : ∀ q9, (Mut [(some gb8), (some gb1)]) q9 → q9 < w20.heap.size := (Mut.grow (Mut.grow Mut.none_ (some_lt Bb1.lt)) (some_lt Bb8.lt))
    have SC := Nat.le_trans LW.size E.size
    have Ec := Ext.of_below hb No
    replace Bb8 := Bb8.extN Ec NotIn.nil
    replace Bb1 := Bb1.extN Ec NotIn.nil
    replace E := E.trans Ec.no
    clear hb Ec
    have hS := SC
    replace HF := HF.on E
    replace LW := LW.step E XLW
    replace E := Ext.refl (Mut [(some gb8), (some gb1)]) w22
    replace HF := HF.and (Per.ownX o5 XC)
    refine rs_op rfl (ow_move rfl ?_)
    refine rs_op rfl (ow_extract rfl rfl ?_)
    refine rs_op rfl (ow_extract rfl rfl ?_)
    refine rs_op rfl (ow_extract rfl rfl ?_)
    refine rs_op rfl (ow_allocB zr41 ?_)
    intro gb23 w24 Bb23 Eb23 Gb23
    have Db23_b8 : Apart (some gb23) (some gb8) := Apart.of_lt (some_lt Bb8.lt) Gb23
    have Db8_b23 := Db23_b8.symm
    have Db23_b1 : Apart (some gb23) (some gb1) := Apart.of_lt (some_lt Bb1.lt) Gb23
    have Db1_b23 := Db23_b1.symm
    have Gb23 : _ ≤ gb23 := Nat.le_trans E.size Gb23
    have GLb23 := Nat.le_trans LW.size Gb23
    replace Bb8 := Bb8.extN Eb23 NotIn.nil
    replace Bb1 := Bb1.extN Eb23 NotIn.nil
    replace E := E.trans Eb23.no
    clear Eb23
    replace HF := HF.cons (some_ge Gb23)
    replace E := E.cons (some gb23)
    replace XLW := Mut.grow XLW (fun k e => Or.inr (Nat.le_trans LW.size ((some_ge Gb23) k e)))
    refine rs_op rfl (ow_allocB zr41 ?_)
    intro gb25 w26 Bb25 Eb25 Gb25
    have Db25_b23 : Apart (some gb25) (some gb23) := Apart.of_lt (some_lt Bb23.lt) Gb25
    have Db23_b25 := Db25_b23.symm
    have Db25_b8 : Apart (some gb25) (some gb8) := Apart.of_lt (some_lt Bb8.lt) Gb25
    have Db8_b25 := Db25_b8.symm
    have Db25_b1 : Apart (some gb25) (some gb1) := Apart.of_lt (some_lt Bb1.lt) Gb25
    have Db1_b25 := Db25_b1.symm
    have Gb25 : _ ≤ gb25 := Nat.le_trans E.size Gb25
    have GLb25 := Nat.le_trans LW.size Gb25
    replace Bb23 := Bb23.extN Eb25 NotIn.nil
    replace Bb8 := Bb8.extN Eb25 NotIn.nil
    replace Bb1 := Bb1.extN Eb25 NotIn.nil
    replace E := E.trans Eb25.no
    clear Eb25
    replace HF := HF.cons (some_ge Gb25)
    replace E := E.cons (some gb25)
    replace XLW := Mut.grow XLW (fun k e => Or.inr (Nat.le_trans LW.size ((some_ge Gb25) k e)))
    refine rs_op0 (ow_storeM sz41 rfl rfl Bb23 rfl rfl (Nat.le_of_ble_eq_true rfl) ?_)
    intro w27 Bx Eb23
    replace Bb23 := Bx
    clear Bx
    replace Bb25 := Bb25.extN Eb23 (NotIn.cons Db25_b23 NotIn.nil)
    replace Bb8 := Bb8.extN Eb23 (NotIn.cons Db8_b23 NotIn.nil)
    replace Bb1 := Bb1.extN Eb23 (NotIn.cons Db1_b23 NotIn.nil)
    replace E := E.step1 Eb23 (Mut.tail Mut.head)
    clear Eb23
    replace HF := HF.on E
    replace LW := LW.step E XLW
    have SB : ∀ q9, Mut [(some gb25), (some gb8), (some gb1)] q9 → Mut [(some gb25), (some gb23), (some gb8), (some gb1)] q9 := (Mut.keep (Mut.skip (Mut.keep (Mut.keep Mut.nil_))))
    replace HF := HF.less SB
    replace XLW := fun k h => XLW k (SB k h)
    clear SB
    replace E := Ext.refl (Mut [(some gb25), (some gb8), (some gb1)]) w27
    replace HF := HF.and (Per.blkN Bb23 (NotIn.cons Db23_b25 (NotIn.cons Db23_b8 (NotIn.cons Db23_b1 NotIn.nil))))
    clear Bb23
    refine rs_op0 (ow_storeM sz41 rfl rfl Bb25 rfl rfl (Nat.le_of_ble_eq_true rfl) ?_)
    intro w28 Bx Eb25
    replace Bb25 := Bx
    clear Bx
    replace Bb8 := Bb8.extN Eb25 (NotIn.cons Db8_b25 NotIn.nil)
    replace Bb1 := Bb1.extN Eb25 (NotIn.cons Db1_b25 NotIn.nil)
    replace E := E.step1 Eb25 Mut.head
    clear Eb25
    replace HF := HF.on E
    replace LW := LW.step E XLW
    have SB : ∀ q9, Mut [(some gb8), (some gb1)] q9 → Mut [(some gb25), (some gb8), (some gb1)] q9 := (Mut.skip (Mut.keep (Mut.keep Mut.nil_)))
    replace HF := HF.less SB
    replace XLW := fun k h => XLW k (SB k h)
    clear SB
    replace E := Ext.refl (Mut [(some gb8), (some gb1)]) w28
    replace HF := HF.and (Per.blkN Bb25 (NotIn.cons Db25_b8 (NotIn.cons Db25_b1 NotIn.nil)))
    clear Bb25
    refine rs_op rfl (ow_assign rfl ?_)
    refine rs_nil ?_
    refine ew_next ?_
    refine cw_seq ?_
    refine cw_region ?_
    refine rs_op rfl (ow_loadB Tryz.underlying41 rfl sz41 rfl (HF.on E).here.1.2 rfl ?_)
    refine rs_op0 (ow_storeM sz41 rfl rfl Bb1 rfl rfl (Nat.le_of_ble_eq_true rfl) ?_)
    intro w29 Bx Eb1
    replace Bb1 := Bx
    clear Bx
    replace Bb8 := Bb8.extN Eb1 (NotIn.cons Db8_b1 NotIn.nil)
    replace E := E.step1 Eb1 (Mut.tail Mut.head)
    clear Eb1
    replace HF := HF.on E
    replace LW := LW.step E XLW
    have SB : ∀ q9, Mut [(some gb8)] q9 → Mut [(some gb8), (some gb1)] q9 := (Mut.keep (Mut.skip Mut.nil_))
    replace HF := HF.less SB
    replace XLW := fun k h => XLW k (SB k h)
    clear SB
    replace E := Ext.refl (Mut [(some gb8)]) w29
    replace HF := HF.and (Per.blkN Bb1 (NotIn.cons Db1_b8 NotIn.nil))
    clear Bb1
    refine rs_op rfl (ow_assign rfl ?_)
    refine rs_nil ?_
    refine ew_next ?_
    refine cw_ret ?_
    refine ew_ret (rs := [.cell 2 41, .tmp 3]) (vs := [_, _]) rfl ⟨⟨_, rfl, res_box Tryz.underlying41 rfl sz41 (HF.on E).here.2 rfl⟩, rfl, trivial⟩ ?_
    exact ⟨A5, c5, rfl, ((HF.on E).here.1.1.1.2).mono hS, (LW.step E XLW).toBelow⟩
theorem whole_fin : Calls Tryz.prog 42 #[.int .u64 ((a : Nat) : Int)] w (RetBigErr w (wholeI a) 0) := by
  by_cases h0 : wholeN a = 0
  · exact whole_zero w a ha hf h0
  · exact whole_num w a ha hf h0
end
end
end Go.Proofs.YtljndllhmdpjlaaGreatDoor
namespace Go.Proofs.YtljndllhmdpjlaaGreatDoor
open Go.RowKit
set_option maxRecDepth 100000
theorem per_later {F : World → Prop} {w : World} (h : ∀ b, Below w.heap.size w b → F b) : Per No w (fun b => ∀ b', Below b.heap.size b b' → F b') := fun _ hb => later h hb.toBelow
/-- The order of a finite float beside a whole number. -/
noncomputable def cmpB (a : Nat) (i : Int) : Int := if cmpI (wholeI a) i ≠ 0 then cmpI (wholeI a) i else if lostB a then (if ng a then -1 else 1) else 0
theorem cmp_trunc {a q : Nat} (hf : rg a < 9218868437227405312) (h1 : vl q = wholeN a * 2 ^ 1074) (h2 : q ≤ rg a) : cmpF a (Ieee.double.word (ng a) q) = (if lostB a then (if ng a then -1 else 1) else 0) ∧ ordered a (Ieee.double.word (ng a) q) = true := by
  obtain ⟨w1, w2, w3⟩ := word_rg (ng a) q (by omega)
  have hn : isN (Ieee.double.word (ng a) q) = false := fin_notN (by rw [w1]; omega)
  have ho : ordered a (Ieee.double.word (ng a) q) = true := by rw [ordered, fin_notN hf, hn]; rfl
  refine ⟨?_, ho⟩
  have hl : lostB a = decide (q < rg a) := by
    refine (lost_eq ?_).symm
    rw [isWh_iff, ← h1]
    constructor
    · intro h e; have := vl_lt h; omega
    · intro h
      rcases Nat.lt_or_ge q (rg a) with h' | h'
      · exact h'
      · exact absurd (congrArg vl (show rg a = q by omega)) h
  rw [cmpF, if_pos ho, hl]
  obtain ⟨p1, p2⟩ := pc_abs a
  obtain ⟨p3, p4⟩ := pc_abs (Ieee.double.word (ng a) q)
  rw [w1, w2] at p3 p4
  unfold ordI
  cases hs : ng a with
  | true =>
    rw [hs] at p3
    rw [p1 hs, p3 rfl]
    by_cases h : q < rg a
    · rw [decide_eq_true h, if_pos (by omega)]; rfl
    · rw [decide_eq_false h, if_neg (by omega), if_neg (by omega)]; rfl
  | false =>
    rw [hs] at p4
    rw [p2 hs, p4 rfl]
    by_cases h : q < rg a
    · rw [decide_eq_true h, if_neg (by omega), if_pos (by omega)]; rfl
    · rw [decide_eq_false h, if_neg (by omega), if_neg (by omega)]; rfl
theorem f2i_one (s : Bool) : floatToIntVal .f64 (Ieee.double.word s 4607182418800017408) .i64 = some (if s then -1 else 1) := by cases s <;> decide +kernel
def infV (a : Nat) : Int := if ng a then -1 else 1
section
variable (w : World) (a : Nat) (ha : a < 18446744073709551616)
include ha
section
variable (n1 : Bool) (A : Option Addr) (c : Nat) (xs : List Nat) (hx : Nums w A xs) (hl : xs.length ≤ 9223372036854775807)
include hx hl
theorem cmpbig_nan (hn : isN a = true) : Calls Tryz.prog 46 #[.int .u64 ((a : Nat) : Int), .agg #[.bool n1, .slice A xs.length c]] w fun e w' => e = .returned (.tuple #[.int .i64 0, .bool false]) ∧ Below w.heap.size w w' := by
  have _ := And.intro ha (And.intro hx hl)
  refine calls_cw Tryz.func46 rfl Tryz.ntmps46 rfl ?_
  have HF : Per (No) w (fun _ => True) := Per.true_
  have LW := Ext.refl (No) w
  have XLW : ∀ q9, (No) q9 → (No) q9 ∨ w.heap.size ≤ q9 := fun _ h => Or.inl h
  have E := Ext.refl (No) w
  refine cw_seq ?_
  refine cw_region ?_
  refine rs_op rfl (ow_boxB rfl ?_)
  intro gb1 w2 Bb1 Eb1 Gb1
  have Gb1 : _ ≤ gb1 := Nat.le_trans E.size Gb1
  have GLb1 := Nat.le_trans LW.size Gb1
  replace E := E.trans Eb1.no
  clear Eb1
  replace HF := HF.cons (some_ge Gb1)
  replace E := E.cons (some gb1)
  replace XLW := Mut.grow XLW (fun k e => Or.inr (Nat.le_trans LW.size ((some_ge Gb1) k e)))
  replace HF := HF.on E
  replace LW := LW.step E XLW
  have SB : ∀ q9, No q9 → Mut [(some gb1)] q9 := (Mut.skip Mut.nil_)
  replace HF := HF.less SB
  replace XLW := fun k h => XLW k (SB k h)
  clear SB
  replace E := Ext.refl (No) w2
  replace HF := HF.and (Per.blkN Bb1 NotIn.nil)
  clear Bb1
  refine rs_op rfl (ow_assign rfl ?_)
  refine rs_op rfl (ow_assign rfl ?_)
  refine rs_nil ?_
  refine ew_next ?_
  refine cw_seq ?_
  refine cw_region ?_
  refine rs_op rfl (ow_move rfl ?_)
  refine rs_op rfl (ow_frombits (b := a) ex60 rfl ?_)
  refine rs_op rfl (ow_assign rfl ?_)
  refine rs_nil ?_
  refine ew_next ?_
  refine cw_seq ?_
  refine cw_seq ?_
  refine cw_region ?_
  refine rs_op rfl (ow_move rfl ?_)
  refine rs_op rfl (ow_move rfl ?_)
  refine rs_op rfl (ow_fneq rfl rfl ?_)
  refine rs_op rfl (ow_move rfl ?_)
  refine rs_set 17 (.bool true) rfl ((by rw [ford_self, hn] : (.bool (ford a a != some .eq) : Value) = _)) ?_
  refine rs_op rfl (ow_off rfl ?_)
  refine rs_op rfl (ow_off rfl ?_)
  refine rs_op rfl (ow_off rfl ?_)
  refine rs_op rfl (ow_pickT rfl rfl ?_)
  refine rs_nil ?_
  refine ew_next ?_
  refine cw_then rfl ?_
  refine cw_seq ?_
  refine cw_region ?_
  refine rs_op rfl (ow_assign rfl ?_)
  refine rs_op rfl (ow_assign rfl ?_)
  refine rs_nil ?_
  refine ew_next ?_
  refine cw_ret ?_
  refine ew_then_ret ?_
  refine ew_ret (rs := [.tmp 4, .tmp 5]) (vs := [_, _]) rfl ⟨rfl, rfl, trivial⟩ ?_
  exact ⟨rfl, (LW.step E XLW).toBelow⟩
theorem cmpbig_bad (hn : isN a = false) (hg : goodB n1 xs = false) : Calls Tryz.prog 46 #[.int .u64 ((a : Nat) : Int), .agg #[.bool n1, .slice A xs.length c]] w fun e w' => e = .returned (.tuple #[.int .i64 0, .bool false]) ∧ Below w.heap.size w w' := by
  have _ := ha
  refine calls_cw Tryz.func46 rfl Tryz.ntmps46 rfl ?_
  have HF : Per (No) w (fun _ => True) := Per.true_
  have LW := Ext.refl (No) w
  have XLW : ∀ q9, (No) q9 → (No) q9 ∨ w.heap.size ≤ q9 := fun _ h => Or.inl h
  have E := Ext.refl (No) w
  replace HF := HF.on E
  replace LW := LW.step E XLW
  replace E := Ext.refl (No) w
  replace HF := HF.and (Per.nums0 hx)
  refine cw_seq ?_
  refine cw_region ?_
  refine rs_op rfl (ow_boxB rfl ?_)
  intro gb1 w2 Bb1 Eb1 Gb1
  have Gb1 : _ ≤ gb1 := Nat.le_trans E.size Gb1
  have GLb1 := Nat.le_trans LW.size Gb1
  replace E := E.trans Eb1.no
  clear Eb1
  replace HF := HF.cons (some_ge Gb1)
  replace E := E.cons (some gb1)
  replace XLW := Mut.grow XLW (fun k e => Or.inr (Nat.le_trans LW.size ((some_ge Gb1) k e)))
  replace HF := HF.on E
  replace LW := LW.step E XLW
  have SB : ∀ q9, No q9 → Mut [(some gb1)] q9 := (Mut.skip Mut.nil_)
  replace HF := HF.less SB
  replace XLW := fun k h => XLW k (SB k h)
  clear SB
  replace E := Ext.refl (No) w2
  replace HF := HF.and (Per.blkN Bb1 NotIn.nil)
  clear Bb1
  refine rs_op rfl (ow_assign rfl ?_)
  refine rs_op rfl (ow_assign rfl ?_)
  refine rs_nil ?_
  refine ew_next ?_
  refine cw_seq ?_
  refine cw_region ?_
  refine rs_op rfl (ow_move rfl ?_)
  refine rs_op rfl (ow_frombits (b := a) ex60 rfl ?_)
  refine rs_op rfl (ow_assign rfl ?_)
  refine rs_nil ?_
  refine ew_next ?_
  refine cw_seq ?_
  refine cw_seq ?_
  refine cw_region ?_
  refine rs_op rfl (ow_move rfl ?_)
  refine rs_op rfl (ow_move rfl ?_)
  refine rs_op rfl (ow_fneq rfl rfl ?_)
  refine rs_op rfl (ow_move rfl ?_)
  refine rs_set 17 (.bool false) rfl ((by rw [ford_self, hn] : (.bool (ford a a != some .eq) : Value) = _)) ?_
  refine rs_op rfl (ow_on rfl (ow_loadB Tryz.underlying41 rfl sz41 rfl (HF.on E).here.2 rfl ?_))
  refine rs_op rfl (ow_on rfl (ow_enter en76 rfl ((good_any n1 c _ A xs hl (HF.on E).here.1.2).mono ?_)))
  rintro e w3 ⟨rfl, hb⟩
  refine ⟨_, rfl, ?_⟩
  have Ec := Ext.of_below hb No
  replace E := E.trans Ec.no
  clear hb Ec
  refine rs_set 19 (.bool false) rfl ((by rw [hg] : (.bool (goodB n1 xs) : Value) = _)) ?_
  refine rs_op rfl (ow_on rfl (ow_not rfl ?_))
  refine rs_op rfl (ow_pickF rfl rfl ?_)
  refine rs_nil ?_
  refine ew_next ?_
  refine cw_then rfl ?_
  refine cw_seq ?_
  refine cw_region ?_
  refine rs_op rfl (ow_assign rfl ?_)
  refine rs_op rfl (ow_assign rfl ?_)
  refine rs_nil ?_
  refine ew_next ?_
  refine cw_ret ?_
  refine ew_then_ret ?_
  refine ew_ret (rs := [.tmp 4, .tmp 5]) (vs := [_, _]) rfl ⟨rfl, rfl, trivial⟩ ?_
  exact ⟨rfl, (LW.step E XLW).toBelow⟩
theorem rcmpbig_nan (hn : isN a = true) : Calls Tryz.prog 47 #[.int .u64 ((a : Nat) : Int), .agg #[.bool n1, .slice A xs.length c]] w fun e w' => e = .returned (.tuple #[.int .i64 0, .bool false]) ∧ Below w.heap.size w w' := by
  have _ := And.intro hx hl
  refine calls_cw Tryz.func47 rfl Tryz.ntmps47 rfl ?_
  have HF : Per (No) w (fun _ => True) := Per.true_
  have LW := Ext.refl (No) w
  have XLW : ∀ q9, (No) q9 → (No) q9 ∨ w.heap.size ≤ q9 := fun _ h => Or.inl h
  have E := Ext.refl (No) w
  refine cw_seq ?_
  refine cw_region ?_
  refine rs_op rfl (ow_boxB rfl ?_)
  intro gb1 w2 Bb1 Eb1 Gb1
  have Gb1 : _ ≤ gb1 := Nat.le_trans E.size Gb1
  have GLb1 := Nat.le_trans LW.size Gb1
  replace E := E.trans Eb1.no
  clear Eb1
  replace HF := HF.cons (some_ge Gb1)
  replace E := E.cons (some gb1)
  replace XLW := Mut.grow XLW (fun k e => Or.inr (Nat.le_trans LW.size ((some_ge Gb1) k e)))
  replace HF := HF.on E
  replace LW := LW.step E XLW
  have SB : ∀ q9, No q9 → Mut [(some gb1)] q9 := (Mut.skip Mut.nil_)
  replace HF := HF.less SB
  replace XLW := fun k h => XLW k (SB k h)
  clear SB
  replace E := Ext.refl (No) w2
  replace HF := HF.and (Per.blkN Bb1 NotIn.nil)
  clear Bb1
  refine rs_op rfl (ow_assign rfl ?_)
  refine rs_op rfl (ow_assign rfl ?_)
  refine rs_nil ?_
  refine ew_next ?_
  refine cw_seq ?_
  refine cw_seq ?_
  refine cw_region ?_
  refine rs_op rfl (ow_move rfl ?_)
  refine rs_op rfl (ow_enter en18 rfl ((isnan_any _ a ha).mono ?_))
  rintro e w3 ⟨rfl, hb⟩
  refine ⟨_, rfl, ?_⟩
  have Ec := Ext.of_below hb No
  replace E := E.trans Ec.no
  clear hb Ec
  refine rs_set 10 (.bool true) rfl ((by rw [hn] : (.bool (isN a) : Value) = _)) ?_
  refine rs_op rfl (ow_move rfl ?_)
  refine rs_op rfl (ow_off rfl ?_)
  refine rs_op rfl (ow_off rfl ?_)
  refine rs_op rfl (ow_off rfl ?_)
  refine rs_op rfl (ow_pickT rfl rfl ?_)
  refine rs_nil ?_
  refine ew_next ?_
  refine cw_then rfl ?_
  refine cw_seq ?_
  refine cw_region ?_
  refine rs_op rfl (ow_assign rfl ?_)
  refine rs_op rfl (ow_assign rfl ?_)
  refine rs_nil ?_
  refine ew_next ?_
  refine cw_ret ?_
  refine ew_then_ret ?_
  refine ew_ret (rs := [.tmp 4, .tmp 5]) (vs := [_, _]) rfl ⟨rfl, rfl, trivial⟩ ?_
  exact ⟨rfl, (LW.step E XLW).toBelow⟩
theorem rcmpbig_bad (hn : isN a = false) (hg : goodB n1 xs = false) : Calls Tryz.prog 47 #[.int .u64 ((a : Nat) : Int), .agg #[.bool n1, .slice A xs.length c]] w fun e w' => e = .returned (.tuple #[.int .i64 0, .bool false]) ∧ Below w.heap.size w w' := by
  refine calls_cw Tryz.func47 rfl Tryz.ntmps47 rfl ?_
  have HF : Per (No) w (fun _ => True) := Per.true_
  have LW := Ext.refl (No) w
  have XLW : ∀ q9, (No) q9 → (No) q9 ∨ w.heap.size ≤ q9 := fun _ h => Or.inl h
  have E := Ext.refl (No) w
  replace HF := HF.on E
  replace LW := LW.step E XLW
  replace E := Ext.refl (No) w
  replace HF := HF.and (Per.nums0 hx)
  refine cw_seq ?_
  refine cw_region ?_
  refine rs_op rfl (ow_boxB rfl ?_)
  intro gb1 w2 Bb1 Eb1 Gb1
  have Gb1 : _ ≤ gb1 := Nat.le_trans E.size Gb1
  have GLb1 := Nat.le_trans LW.size Gb1
  replace E := E.trans Eb1.no
  clear Eb1
  replace HF := HF.cons (some_ge Gb1)
  replace E := E.cons (some gb1)
  replace XLW := Mut.grow XLW (fun k e => Or.inr (Nat.le_trans LW.size ((some_ge Gb1) k e)))
  replace HF := HF.on E
  replace LW := LW.step E XLW
  have SB : ∀ q9, No q9 → Mut [(some gb1)] q9 := (Mut.skip Mut.nil_)
  replace HF := HF.less SB
  replace XLW := fun k h => XLW k (SB k h)
  clear SB
  replace E := Ext.refl (No) w2
  replace HF := HF.and (Per.blkN Bb1 NotIn.nil)
  clear Bb1
  refine rs_op rfl (ow_assign rfl ?_)
  refine rs_op rfl (ow_assign rfl ?_)
  refine rs_nil ?_
  refine ew_next ?_
  refine cw_seq ?_
  refine cw_seq ?_
  refine cw_region ?_
  refine rs_op rfl (ow_move rfl ?_)
  refine rs_op rfl (ow_enter en18 rfl ((isnan_any _ a ha).mono ?_))
  rintro e w3 ⟨rfl, hb⟩
  refine ⟨_, rfl, ?_⟩
  have Ec := Ext.of_below hb No
  replace E := E.trans Ec.no
  clear hb Ec
  refine rs_set 10 (.bool false) rfl ((by rw [hn] : (.bool (isN a) : Value) = _)) ?_
  refine rs_op rfl (ow_move rfl ?_)
  refine rs_op rfl (ow_on rfl (ow_loadB Tryz.underlying41 rfl sz41 rfl (HF.on E).here.2 rfl ?_))
  refine rs_op rfl (ow_on rfl (ow_enter en51 rfl ((rgood_any n1 c _ A xs hl (HF.on E).here.1.2).mono ?_)))
  rintro e w4 ⟨rfl, hb⟩
  refine ⟨_, rfl, ?_⟩
  have Ec := Ext.of_below hb No
  replace E := E.trans Ec.no
  clear hb Ec
  refine rs_set 13 (.bool false) rfl ((by rw [hg] : (.bool (goodB n1 xs) : Value) = _)) ?_
  refine rs_op rfl (ow_on rfl (ow_not rfl ?_))
  refine rs_op rfl (ow_pickF rfl rfl ?_)
  refine rs_nil ?_
  refine ew_next ?_
  refine cw_then rfl ?_
  refine cw_seq ?_
  refine cw_region ?_
  refine rs_op rfl (ow_assign rfl ?_)
  refine rs_op rfl (ow_assign rfl ?_)
  refine rs_nil ?_
  refine ew_next ?_
  refine cw_ret ?_
  refine ew_then_ret ?_
  refine ew_ret (rs := [.tmp 4, .tmp 5]) (vs := [_, _]) rfl ⟨rfl, rfl, trivial⟩ ?_
  exact ⟨rfl, (LW.step E XLW).toBelow⟩
end
section
variable (i : Int) (A : Option Addr) (c : Nat) (hi : i.natAbs < B18 ^ 30) (hx : Nums w A (limbs i)) (hn : isN a = false)
include hi hx hn
theorem cmpbig_inf (hinf : rg a = 9218868437227405312) : Calls Tryz.prog 46 #[.int .u64 ((a : Nat) : Int), .agg #[.bool (decide (i < 0)), .slice A (limbs i).length c]] w fun e w' => e = .returned (.tuple #[.int .i64 (infV a), .bool true]) ∧ Below w.heap.size w w' := by
  refine calls_cw Tryz.func46 rfl Tryz.ntmps46 rfl ?_
  have HF : Per (No) w (fun _ => True) := Per.true_
  have LW := Ext.refl (No) w
  have XLW : ∀ q9, (No) q9 → (No) q9 ∨ w.heap.size ≤ q9 := fun _ h => Or.inl h
  have E := Ext.refl (No) w
  replace HF := HF.on E
  replace LW := LW.step E XLW
  replace E := Ext.refl (No) w
  replace HF := HF.and (Per.nums0 hx)
  refine cw_seq ?_
  refine cw_region ?_
  refine rs_op rfl (ow_boxB rfl ?_)
  intro gb1 w2 Bb1 Eb1 Gb1
  have Gb1 : _ ≤ gb1 := Nat.le_trans E.size Gb1
  have GLb1 := Nat.le_trans LW.size Gb1
  replace E := E.trans Eb1.no
  clear Eb1
  replace HF := HF.cons (some_ge Gb1)
  replace E := E.cons (some gb1)
  replace XLW := Mut.grow XLW (fun k e => Or.inr (Nat.le_trans LW.size ((some_ge Gb1) k e)))
  replace HF := HF.on E
  replace LW := LW.step E XLW
  have SB : ∀ q9, No q9 → Mut [(some gb1)] q9 := (Mut.skip Mut.nil_)
  replace HF := HF.less SB
  replace XLW := fun k h => XLW k (SB k h)
  clear SB
  replace E := Ext.refl (No) w2
  replace HF := HF.and (Per.blkN Bb1 NotIn.nil)
  clear Bb1
  refine rs_op rfl (ow_assign rfl ?_)
  refine rs_op rfl (ow_assign rfl ?_)
  refine rs_nil ?_
  refine ew_next ?_
  refine cw_seq ?_
  refine cw_region ?_
  refine rs_op rfl (ow_move rfl ?_)
  refine rs_op rfl (ow_frombits (b := a) ex60 rfl ?_)
  refine rs_op rfl (ow_assign rfl ?_)
  refine rs_nil ?_
  refine ew_next ?_
  refine cw_seq ?_
  refine cw_seq ?_
  refine cw_region ?_
  refine rs_op rfl (ow_move rfl ?_)
  refine rs_op rfl (ow_move rfl ?_)
  refine rs_op rfl (ow_fneq rfl rfl ?_)
  refine rs_op rfl (ow_move rfl ?_)
  refine rs_set 17 (.bool false) rfl ((by rw [ford_self, hn] : (.bool (ford a a != some .eq) : Value) = _)) ?_
  refine rs_op rfl (ow_on rfl (ow_loadB Tryz.underlying41 rfl sz41 rfl (HF.on E).here.2 rfl ?_))
  refine rs_op rfl (ow_on rfl (ow_enter en76 rfl ((goodI A c _ hi (HF.on E).here.1.2).mono ?_)))
  rintro e w3 ⟨rfl, hb⟩
  refine ⟨_, rfl, ?_⟩
  have Ec := Ext.of_below hb No
  replace E := E.trans Ec.no
  clear hb Ec
  refine rs_op rfl (ow_on rfl (ow_not rfl ?_))
  refine rs_op rfl (ow_pickF rfl rfl ?_)
  refine rs_nil ?_
  refine ew_next ?_
  refine cw_else rfl ?_
  refine cw_skip ?_
  refine ew_next ?_
  refine cw_seq ?_
  refine cw_seq ?_
  refine cw_region ?_
  refine rs_op rfl (ow_move rfl ?_)
  refine rs_op rfl (ow_enter en61 rfl ((misinf_any _ a ha).mono ?_))
  rintro e w4 ⟨rfl, hb⟩
  refine ⟨_, rfl, ?_⟩
  have Ec := Ext.of_below hb No
  replace E := E.trans Ec.no
  clear hb Ec
  refine rs_set 23 (.bool true) rfl ((by rw [decide_eq_true hinf] : (.bool (decide (rg a = 9218868437227405312)) : Value) = _)) ?_
  refine rs_nil ?_
  refine ew_next ?_
  refine cw_then rfl ?_
  refine cw_seq ?_
  refine cw_region ?_
  refine rs_op rfl (ow_move rfl ?_)
  refine rs_op rfl (ow_enter en56 rfl ((copysign_any _ 4607182418800017408 (by decide) a ha).mono ?_))
  rintro e w5 ⟨rfl, hb⟩
  refine ⟨_, rfl, ?_⟩
  have Ec := Ext.of_below hb No
  replace E := E.trans Ec.no
  clear hb Ec
  refine rs_set 25 (.float .f64 (Ieee.double.word (ng a) 4607182418800017408)) rfl ((by rw [show rg 4607182418800017408 = 4607182418800017408 by decide] : (.float .f64 (Ieee.double.word (ng a) (rg 4607182418800017408)) : Value) = _)) ?_
  refine rs_op rfl (ow_f2i (z := infV a) Tryz.underlying3 (by rw [Tryz.underlying57]; rfl) rfl (f2i_one (ng a)) ?_)
  refine rs_op rfl (ow_assign rfl ?_)
  refine rs_op rfl (ow_assign rfl ?_)
  refine rs_nil ?_
  refine ew_next ?_
  refine cw_ret ?_
  refine ew_then_ret ?_
  refine ew_ret (rs := [.tmp 4, .tmp 5]) (vs := [_, _]) rfl ⟨rfl, rfl, trivial⟩ ?_
  exact ⟨rfl, (LW.step E XLW).toBelow⟩
theorem cmpbig_fin (hf : rg a < 9218868437227405312) : Calls Tryz.prog 46 #[.int .u64 ((a : Nat) : Int), .agg #[.bool (decide (i < 0)), .slice A (limbs i).length c]] w fun e w' => e = .returned (.tuple #[.int .i64 (cmpB a i), .bool true]) ∧ Below w.heap.size w w' := by
  obtain ⟨q, hq1, hq2, hq3⟩ := fround_zero hf
  obtain ⟨t1, t2⟩ := cmp_trunc hf hq1 hq2
  rw [← hq3] at t1 t2
  have hbr : bareN (fround .zero a) = fround .zero a := bareN_num (fin_notN (by rw [hq3, (word_rg (ng a) q (by omega)).1]; omega))
  refine calls_cw Tryz.func46 rfl Tryz.ntmps46 rfl ?_
  have HF : Per (No) w (fun _ => True) := Per.true_
  have LW := Ext.refl (No) w
  have XLW : ∀ q9, (No) q9 → (No) q9 ∨ w.heap.size ≤ q9 := fun _ h => Or.inl h
  have E := Ext.refl (No) w
  replace HF := HF.on E
  replace LW := LW.step E XLW
  replace E := Ext.refl (No) w
  replace HF := HF.and (Per.nums0 hx)
  refine cw_seq ?_
  refine cw_region ?_
  refine rs_op rfl (ow_boxB rfl ?_)
  intro gb1 w2 Bb1 Eb1 Gb1
  have Gb1 : _ ≤ gb1 := Nat.le_trans E.size Gb1
  have GLb1 := Nat.le_trans LW.size Gb1
  replace E := E.trans Eb1.no
  clear Eb1
  replace HF := HF.cons (some_ge Gb1)
  replace E := E.cons (some gb1)
  replace XLW := Mut.grow XLW (fun k e => Or.inr (Nat.le_trans LW.size ((some_ge Gb1) k e)))
  replace HF := HF.on E
  replace LW := LW.step E XLW
  have SB : ∀ q9, No q9 → Mut [(some gb1)] q9 := (Mut.skip Mut.nil_)
  replace HF := HF.less SB
  replace XLW := fun k h => XLW k (SB k h)
  clear SB
  replace E := Ext.refl (No) w2
  replace HF := HF.and (Per.blkN Bb1 NotIn.nil)
  clear Bb1
  refine rs_op rfl (ow_assign rfl ?_)
  refine rs_op rfl (ow_assign rfl ?_)
  refine rs_nil ?_
  refine ew_next ?_
  refine cw_seq ?_
  refine cw_region ?_
  refine rs_op rfl (ow_move rfl ?_)
  refine rs_op rfl (ow_frombits (b := a) ex60 rfl ?_)
  refine rs_op rfl (ow_assign rfl ?_)
  refine rs_nil ?_
  refine ew_next ?_
  refine cw_seq ?_
  refine cw_seq ?_
  refine cw_region ?_
  refine rs_op rfl (ow_move rfl ?_)
  refine rs_op rfl (ow_move rfl ?_)
  refine rs_op rfl (ow_fneq rfl rfl ?_)
  refine rs_op rfl (ow_move rfl ?_)
  refine rs_set 17 (.bool false) rfl ((by rw [ford_self, hn] : (.bool (ford a a != some .eq) : Value) = _)) ?_
  refine rs_op rfl (ow_on rfl (ow_loadB Tryz.underlying41 rfl sz41 rfl (HF.on E).here.2 rfl ?_))
  refine rs_op rfl (ow_on rfl (ow_enter en76 rfl ((goodI A c _ hi (HF.on E).here.1.2).mono ?_)))
  rintro e w3 ⟨rfl, hb⟩
  refine ⟨_, rfl, ?_⟩
  have Ec := Ext.of_below hb No
  replace E := E.trans Ec.no
  clear hb Ec
  refine rs_op rfl (ow_on rfl (ow_not rfl ?_))
  refine rs_op rfl (ow_pickF rfl rfl ?_)
  refine rs_nil ?_
  refine ew_next ?_
  refine cw_else rfl ?_
  refine cw_skip ?_
  refine ew_next ?_
  refine cw_seq ?_
  refine cw_seq ?_
  refine cw_region ?_
  refine rs_op rfl (ow_move rfl ?_)
  refine rs_op rfl (ow_enter en61 rfl ((misinf_any _ a ha).mono ?_))
  rintro e w4 ⟨rfl, hb⟩
  refine ⟨_, rfl, ?_⟩
  have Ec := Ext.of_below hb No
  replace E := E.trans Ec.no
  clear hb Ec
  refine rs_set 23 (.bool false) rfl ((by rw [decide_eq_false (by omega)] : (.bool (decide (rg a = 9218868437227405312)) : Value) = _)) ?_
  refine rs_nil ?_
  refine ew_next ?_
  refine cw_else rfl ?_
  refine cw_skip ?_
  refine ew_next ?_
  refine cw_seq ?_
  refine cw_region ?_
  refine rs_op rfl (ow_move rfl ?_)
  refine rs_op rfl (ow_enter en42 rfl ((whole_fin _ a ha hf).mono ?_))
  rintro e w5 ⟨A2, c2, rfl, o2, hb⟩
  refine ⟨_, rfl, ?_⟩
  have XC : ∀ q9, (No) q9 → q9 < w4.heap.size := Mut.none_
  have Ec := Ext.of_below hb No
  replace E := E.trans Ec.no
  clear hb Ec
  replace HF := HF.on E
  replace LW := LW.step E XLW
  replace E := Ext.refl (No) w5
  replace HF := HF.and (Per.own o2 XC)
  refine rs_op rfl (ow_move rfl ?_)
  refine rs_op rfl (ow_extract rfl rfl ?_)
  refine rs_op rfl (ow_extract rfl rfl ?_)
  refine rs_op rfl (ow_allocB zr41 ?_)
  intro gb6 w7 Bb6 Eb6 Gb6
  have Gb6 : _ ≤ gb6 := Nat.le_trans E.size Gb6
  have GLb6 := Nat.le_trans LW.size Gb6
  replace E := E.trans Eb6.no
  clear Eb6
  replace HF := HF.cons (some_ge Gb6)
  replace E := E.cons (some gb6)
  replace XLW := Mut.grow XLW (fun k e => Or.inr (Nat.le_trans LW.size ((some_ge Gb6) k e)))
  refine rs_op0 (ow_storeM sz41 rfl rfl Bb6 rfl rfl (Nat.le_of_ble_eq_true rfl) ?_)
  intro w8 Bx Eb6
  replace Bb6 := Bx
  clear Bx
  replace E := E.step1 Eb6 Mut.head
  clear Eb6
  replace HF := HF.on E
  replace LW := LW.step E XLW
  have SB : ∀ q9, No q9 → Mut [(some gb6)] q9 := (Mut.skip Mut.nil_)
  replace HF := HF.less SB
  replace XLW := fun k h => XLW k (SB k h)
  clear SB
  replace E := Ext.refl (No) w8
  replace HF := HF.and (Per.blkN Bb6 NotIn.nil)
  clear Bb6
  refine rs_op rfl (ow_assign rfl ?_)
  refine rs_nil ?_
  refine ew_next ?_
  refine cw_seq ?_
  refine cw_seq ?_
  refine cw_region ?_
  refine rs_op rfl (ow_loadB Tryz.underlying41 rfl sz41 rfl (HF.on E).here.2 rfl ?_)
  refine rs_op rfl (ow_loadB Tryz.underlying41 rfl sz41 rfl (HF.on E).here.1.1.2 rfl ?_)
  refine rs_op rfl (ow_enter en90 rfl ((cmpI_ A2 A c2 c _ (wholeI_lt hf) hi (HF.on E).here.1.2 (HF.on E).here.1.1.1.2).mono ?_))
  rintro e w9 ⟨rfl, hb⟩
  refine ⟨_, rfl, ?_⟩
  have Ec := Ext.of_below hb No
  replace E := E.trans Ec.no
  clear hb Ec
  refine rs_op rfl (ow_assign rfl ?_)
  refine rs_nil ?_
  refine ew_next ?_
  refine cw_seq ?_
  refine cw_region ?_
  refine rs_op rfl (ow_move rfl ?_)
  refine rs_op rfl (ow_neq rfl rfl ?_)
  refine rs_nil ?_
  refine ew_next ?_
  refine cw_cond rfl (fun hc => ?_) (fun hc => ?_)
  · have _way := True.intro
    have hc := bne_iff_ne.1 hc
    refine cw_seq ?_
    refine cw_region ?_
    refine rs_op rfl (ow_move rfl ?_)
    refine rs_op rfl (ow_assign rfl ?_)
    refine rs_op rfl (ow_assign rfl ?_)
    refine rs_nil ?_
    refine ew_next ?_
    refine cw_ret ?_
    refine ew_then_ret ?_
    refine ew_ret (rs := [.tmp 4, .tmp 5]) (vs := [_, _]) rfl ⟨rfl, rfl, trivial⟩ ?_
    exact ⟨by rw [cmpB, if_pos hc]; rfl, (LW.step E XLW).toBelow⟩
  · have _way := True.intro
    have hc : cmpI (wholeI a) i = 0 := by simpa using hc
    refine cw_skip ?_
    refine ew_next ?_
    refine cw_seq ?_
    refine cw_region ?_
    refine rs_op rfl (ow_move rfl ?_)
    refine rs_op rfl (ow_move rfl ?_)
    refine rs_op rfl (ow_enter en81 rfl ((trunc_num _ a hf).mono ?_))
    rintro e w10 ⟨rfl, hb⟩
    refine ⟨_, rfl, ?_⟩
    have Ec := Ext.of_below hb No
    replace E := E.trans Ec.no
    clear hb Ec
    refine rs_op rfl (ow_enter en57 rfl ((bare_any _ (fround .zero a)).mono ?_))
    rintro e w11 ⟨rfl, hb⟩
    refine ⟨_, rfl, ?_⟩
    have Ec := Ext.of_below hb No
    replace E := E.trans Ec.no
    clear hb Ec
    refine rs_set 42 (.int .u64 ((fround .zero a : Nat) : Int)) rfl ((by rw [hbr] : (.int .u64 ((bareN (fround .zero a) : Nat) : Int) : Value) = _)) ?_
    refine rs_op rfl (ow_enter en33 rfl ((cmp_any_r _ a (fround .zero a)).mono ?_))
    rintro e w12 ⟨rfl, hb⟩
    refine ⟨_, rfl, ?_⟩
    have Ec := Ext.of_below hb No
    replace E := E.trans Ec.no
    clear hb Ec
    refine rs_op rfl (ow_move rfl ?_)
    refine rs_op rfl (ow_extract rfl rfl ?_)
    refine rs_op rfl (ow_extract rfl rfl ?_)
    refine rs_op rfl (ow_assign rfl ?_)
    refine rs_op rfl (ow_assign rfl ?_)
    refine rs_nil ?_
    refine ew_next ?_
    refine cw_seq ?_
    refine cw_region ?_
    refine rs_op rfl (ow_move rfl ?_)
    refine rs_op rfl (ow_assign rfl ?_)
    refine rs_op rfl (ow_assign rfl ?_)
    refine rs_nil ?_
    refine ew_next ?_
    refine cw_ret ?_
    refine ew_ret (rs := [.tmp 4, .tmp 5]) (vs := [_, _]) rfl ⟨rfl, rfl, trivial⟩ ?_
    exact ⟨by rw [cmpB, if_neg (by rw [hc]; decide), ← t1]; rfl, (LW.step E XLW).toBelow⟩
theorem rcmpbig_inf (hinf : rg a = 9218868437227405312) : Calls Tryz.prog 47 #[.int .u64 ((a : Nat) : Int), .agg #[.bool (decide (i < 0)), .slice A (limbs i).length c]] w fun e w' => e = .returned (.tuple #[.int .i64 (infV a), .bool true]) ∧ Below w.heap.size w w' := by
  refine calls_cw Tryz.func47 rfl Tryz.ntmps47 rfl ?_
  have HF : Per (No) w (fun _ => True) := Per.true_
  have LW := Ext.refl (No) w
  have XLW : ∀ q9, (No) q9 → (No) q9 ∨ w.heap.size ≤ q9 := fun _ h => Or.inl h
  have E := Ext.refl (No) w
  replace HF := HF.on E
  replace LW := LW.step E XLW
  replace E := Ext.refl (No) w
  replace HF := HF.and (Per.nums0 hx)
  refine cw_seq ?_
  refine cw_region ?_
  refine rs_op rfl (ow_boxB rfl ?_)
  intro gb1 w2 Bb1 Eb1 Gb1
  have Gb1 : _ ≤ gb1 := Nat.le_trans E.size Gb1
  have GLb1 := Nat.le_trans LW.size Gb1
  replace E := E.trans Eb1.no
  clear Eb1
  replace HF := HF.cons (some_ge Gb1)
  replace E := E.cons (some gb1)
  replace XLW := Mut.grow XLW (fun k e => Or.inr (Nat.le_trans LW.size ((some_ge Gb1) k e)))
  replace HF := HF.on E
  replace LW := LW.step E XLW
  have SB : ∀ q9, No q9 → Mut [(some gb1)] q9 := (Mut.skip Mut.nil_)
  replace HF := HF.less SB
  replace XLW := fun k h => XLW k (SB k h)
  clear SB
  replace E := Ext.refl (No) w2
  replace HF := HF.and (Per.blkN Bb1 NotIn.nil)
  clear Bb1
  refine rs_op rfl (ow_assign rfl ?_)
  refine rs_op rfl (ow_assign rfl ?_)
  refine rs_nil ?_
  refine ew_next ?_
  refine cw_seq ?_
  refine cw_seq ?_
  refine cw_region ?_
  refine rs_op rfl (ow_move rfl ?_)
  refine rs_op rfl (ow_enter en18 rfl ((isnan_any _ a ha).mono ?_))
  rintro e w3 ⟨rfl, hb⟩
  refine ⟨_, rfl, ?_⟩
  have Ec := Ext.of_below hb No
  replace E := E.trans Ec.no
  clear hb Ec
  refine rs_set 10 (.bool false) rfl ((by rw [hn] : (.bool (isN a) : Value) = _)) ?_
  refine rs_op rfl (ow_move rfl ?_)
  refine rs_op rfl (ow_on rfl (ow_loadB Tryz.underlying41 rfl sz41 rfl (HF.on E).here.2 rfl ?_))
  refine rs_op rfl (ow_on rfl (ow_enter en51 rfl ((rgoodI A c _ hi (HF.on E).here.1.2).mono ?_)))
  rintro e w4 ⟨rfl, hb⟩
  refine ⟨_, rfl, ?_⟩
  have Ec := Ext.of_below hb No
  replace E := E.trans Ec.no
  clear hb Ec
  refine rs_op rfl (ow_on rfl (ow_not rfl ?_))
  refine rs_op rfl (ow_pickF rfl rfl ?_)
  refine rs_nil ?_
  refine ew_next ?_
  refine cw_else rfl ?_
  refine cw_skip ?_
  refine ew_next ?_
  refine cw_seq ?_
  refine cw_seq ?_
  refine cw_region ?_
  refine rs_op rfl (ow_move rfl ?_)
  refine rs_op rfl (ow_enter en34 rfl ((isinf_any _ a ha).mono ?_))
  rintro e w5 ⟨rfl, hb⟩
  refine ⟨_, rfl, ?_⟩
  have Ec := Ext.of_below hb No
  replace E := E.trans Ec.no
  clear hb Ec
  refine rs_set 17 (.bool true) rfl ((by rw [decide_eq_true hinf] : (.bool (decide (rg a = 9218868437227405312)) : Value) = _)) ?_
  refine rs_nil ?_
  refine ew_next ?_
  refine cw_then rfl ?_
  refine cw_seq ?_
  refine cw_seq ?_
  refine cw_region ?_
  refine rs_op rfl (ow_move rfl ?_)
  refine rs_op rfl (ow_enter en48 rfl ((below_any_r _ a ha).mono ?_))
  rintro e w6 ⟨rfl, hb⟩
  refine ⟨_, rfl, ?_⟩
  have Ec := Ext.of_below hb No
  replace E := E.trans Ec.no
  clear hb Ec
  refine rs_nil ?_
  refine ew_next ?_
  refine cw_cond rfl (fun hs => ?_) (fun hs => ?_)
  · have _way := True.intro
    refine cw_seq ?_
    refine cw_region ?_
    refine rs_op rfl (ow_assign rfl ?_)
    refine rs_op rfl (ow_assign rfl ?_)
    refine rs_nil ?_
    refine ew_next ?_
    refine cw_ret ?_
    refine ew_then_ret ?_
    refine ew_then_ret ?_
    refine ew_ret (rs := [.tmp 4, .tmp 5]) (vs := [_, _]) rfl ⟨rfl, rfl, trivial⟩ ?_
    exact ⟨by rw [infV, hs]; rfl, (LW.step E XLW).toBelow⟩
  · have _way := True.intro
    refine cw_skip ?_
    refine ew_next ?_
    refine cw_seq ?_
    refine cw_region ?_
    refine rs_op rfl (ow_assign rfl ?_)
    refine rs_op rfl (ow_assign rfl ?_)
    refine rs_nil ?_
    refine ew_next ?_
    refine cw_ret ?_
    refine ew_then_ret ?_
    refine ew_ret (rs := [.tmp 4, .tmp 5]) (vs := [_, _]) rfl ⟨rfl, rfl, trivial⟩ ?_
    exact ⟨by rw [infV, hs]; rfl, (LW.step E XLW).toBelow⟩
theorem rcmpbig_fin (hf : rg a < 9218868437227405312) : Calls Tryz.prog 47 #[.int .u64 ((a : Nat) : Int), .agg #[.bool (decide (i < 0)), .slice A (limbs i).length c]] w fun e w' => e = .returned (.tuple #[.int .i64 (cmpB a i), .bool true]) ∧ Below w.heap.size w w' := by
  have hl1 := tens_length (wholeI_lt hf)
  have hl2 := tens_length hi
  refine calls_cw Tryz.func47 rfl Tryz.ntmps47 rfl ?_
  have HF : Per (No) w (fun _ => True) := Per.true_
  have LW := Ext.refl (No) w
  have XLW : ∀ q9, (No) q9 → (No) q9 ∨ w.heap.size ≤ q9 := fun _ h => Or.inl h
  have E := Ext.refl (No) w
  replace HF := HF.on E
  replace LW := LW.step E XLW
  replace E := Ext.refl (No) w
  replace HF := HF.and (Per.nums0 hx)
  refine cw_seq ?_
  refine cw_region ?_
  refine rs_op rfl (ow_boxB rfl ?_)
  intro gb1 w2 Bb1 Eb1 Gb1
  have Gb1 : _ ≤ gb1 := Nat.le_trans E.size Gb1
  have GLb1 := Nat.le_trans LW.size Gb1
  replace E := E.trans Eb1.no
  clear Eb1
  replace HF := HF.cons (some_ge Gb1)
  replace E := E.cons (some gb1)
  replace XLW := Mut.grow XLW (fun k e => Or.inr (Nat.le_trans LW.size ((some_ge Gb1) k e)))
  replace HF := HF.on E
  replace LW := LW.step E XLW
  have SB : ∀ q9, No q9 → Mut [(some gb1)] q9 := (Mut.skip Mut.nil_)
  replace HF := HF.less SB
  replace XLW := fun k h => XLW k (SB k h)
  clear SB
  replace E := Ext.refl (No) w2
  replace HF := HF.and (Per.blkN Bb1 NotIn.nil)
  clear Bb1
  refine rs_op rfl (ow_assign rfl ?_)
  refine rs_op rfl (ow_assign rfl ?_)
  refine rs_nil ?_
  refine ew_next ?_
  refine cw_seq ?_
  refine cw_seq ?_
  refine cw_region ?_
  refine rs_op rfl (ow_move rfl ?_)
  refine rs_op rfl (ow_enter en18 rfl ((isnan_any _ a ha).mono ?_))
  rintro e w3 ⟨rfl, hb⟩
  refine ⟨_, rfl, ?_⟩
  have Ec := Ext.of_below hb No
  replace E := E.trans Ec.no
  clear hb Ec
  refine rs_set 10 (.bool false) rfl ((by rw [hn] : (.bool (isN a) : Value) = _)) ?_
  refine rs_op rfl (ow_move rfl ?_)
  refine rs_op rfl (ow_on rfl (ow_loadB Tryz.underlying41 rfl sz41 rfl (HF.on E).here.2 rfl ?_))
  refine rs_op rfl (ow_on rfl (ow_enter en51 rfl ((rgoodI A c _ hi (HF.on E).here.1.2).mono ?_)))
  rintro e w4 ⟨rfl, hb⟩
  refine ⟨_, rfl, ?_⟩
  have Ec := Ext.of_below hb No
  replace E := E.trans Ec.no
  clear hb Ec
  refine rs_op rfl (ow_on rfl (ow_not rfl ?_))
  refine rs_op rfl (ow_pickF rfl rfl ?_)
  refine rs_nil ?_
  refine ew_next ?_
  refine cw_else rfl ?_
  refine cw_skip ?_
  refine ew_next ?_
  refine cw_seq ?_
  refine cw_seq ?_
  refine cw_region ?_
  refine rs_op rfl (ow_move rfl ?_)
  refine rs_op rfl (ow_enter en34 rfl ((isinf_any _ a ha).mono ?_))
  rintro e w5 ⟨rfl, hb⟩
  refine ⟨_, rfl, ?_⟩
  have Ec := Ext.of_below hb No
  replace E := E.trans Ec.no
  clear hb Ec
  refine rs_set 17 (.bool false) rfl ((by rw [decide_eq_false (by omega)] : (.bool (decide (rg a = 9218868437227405312)) : Value) = _)) ?_
  refine rs_nil ?_
  refine ew_next ?_
  refine cw_else rfl ?_
  refine cw_skip ?_
  refine ew_next ?_
  refine cw_seq ?_
  refine cw_region ?_
  refine rs_op rfl (ow_move rfl ?_)
  refine rs_op rfl (ow_enter en86 rfl ((cut_any _ a ha hf).mono ?_))
  rintro e w6 ⟨A2, c2, rfl, n2, g2, hb⟩
  refine ⟨_, rfl, ?_⟩
  have XC : ∀ q9, (No) q9 → q9 < w5.heap.size := Mut.none_
  have Ec := Ext.of_below hb No
  replace E := E.trans Ec.no
  clear hb Ec
  have XC2 := XC
  replace HF := HF.on E
  replace LW := LW.step E XLW
  replace E := Ext.refl (No) w6
  replace HF := HF.and (Per.nums8N n2 (fun q hq e => by have h1 := XC2 _ e; have h3 := g2 q hq; omega))
  refine rs_op rfl (ow_move rfl ?_)
  refine rs_op rfl (ow_extract rfl rfl ?_)
  refine rs_op rfl (ow_extract rfl rfl ?_)
  refine rs_op rfl (ow_allocB zr86 ?_)
  intro gb7 w8 Bb7 Eb7 Gb7
  have Gb7 : _ ≤ gb7 := Nat.le_trans E.size Gb7
  have GLb7 := Nat.le_trans LW.size Gb7
  replace E := E.trans Eb7.no
  clear Eb7
  replace HF := HF.cons (some_ge Gb7)
  replace E := E.cons (some gb7)
  replace XLW := Mut.grow XLW (fun k e => Or.inr (Nat.le_trans LW.size ((some_ge Gb7) k e)))
  refine rs_op0 (ow_storeM sz86 rfl rfl Bb7 rfl rfl (Nat.le_of_ble_eq_true rfl) ?_)
  intro w9 Bx Eb7
  replace Bb7 := Bx
  clear Bx
  replace E := E.step1 Eb7 Mut.head
  clear Eb7
  replace HF := HF.on E
  replace LW := LW.step E XLW
  have SB : ∀ q9, No q9 → Mut [(some gb7)] q9 := (Mut.skip Mut.nil_)
  replace HF := HF.less SB
  replace XLW := fun k h => XLW k (SB k h)
  clear SB
  replace E := Ext.refl (No) w9
  replace HF := HF.and (Per.blkN Bb7 NotIn.nil)
  clear Bb7
  refine rs_op rfl (ow_assign rfl ?_)
  refine rs_nil ?_
  refine ew_next ?_
  refine cw_seq ?_
  have OY : ∀ q9, (Mut (outM [])) q9 → q9 < (World.drew w9).heap.size → (No) q9 := fun k h _ => (Mut.none_) k h
  refine cw_drawn (No) Mut.none_ [] [] (fxAt [Fx.of (.agg #[.bool (decide (wholeI a < 0)), .slice A2 (tens (wholeI a)).length c2]),
      Fx.of (.agg #[.bool (decide (i < 0)), .slice A (limbs i).length c]),
      ⟨(Option Addr × Nat), fun (A3, c3) => .agg #[.bool (decide (i < 0)), .slice A3 (tens i).length c3], fun (A3, c3) b => (Nums8 b A3 (tens i))⟩,
      Fx.of (.int .i64 (cmpI (wholeI a) i)),
      Fx.of (.int .i64 (cmpI (wholeI a) i))]) mixed rfl trivial (fun _ h => by cases h) ?_ ?_
  · refine ⟨?_, ?_, ?_, ?_, ?_, trivial⟩
    · intro vs X wq K
      have LE := K.1
      have XN := K.2.1
      have SQ := Nat.le_trans LW.size (Nat.le_trans E.size LE.size)
      exact ow_loadB Tryz.underlying86 rfl sz86 rfl (HF.on (E.drew.trans (LE.mono OY))).here.2 rfl ⟨Below.refl _ _, Left.of rfl⟩
    · intro vs X wq K
      have LE := K.1
      have XN := K.2.1
      have SQ := Nat.le_trans LW.size (Nat.le_trans E.size LE.size)
      exact ow_loadB Tryz.underlying41 rfl sz41 rfl (HF.on (E.drew.trans (LE.mono OY))).here.1.1.2 rfl ⟨Below.refl _ _, Left.of rfl⟩
    · intro vs X wq K
      have LE := K.1
      have XN := K.2.1
      have SQ := Nat.le_trans LW.size (Nat.le_trans E.size LE.size)
      obtain ⟨_, e1, k1⟩ := K.dep 1 rfl rfl rfl
      refine ow_set 26 (.agg #[.bool (decide (i < 0)), .slice A (limbs i).length c]) rfl e1 ?_
      refine ow_enter en78 rfl ((rofI A c _ hi (HF.on (E.drew.trans (LE.mono OY))).here.1.1.1.2).mono ?_)
      rintro e w2 ⟨A3, c3, rfl, o3, hb⟩
      exact ⟨_, rfl, hb, ⟨(A3, c3), rfl, Per.own8X o3 XN⟩⟩
    · intro vs X wq K
      have LE := K.1
      have XN := K.2.1
      have SQ := Nat.le_trans LW.size (Nat.le_trans E.size LE.size)
      obtain ⟨_, e0, k0⟩ := K.dep 0 rfl rfl rfl
      refine ow_set 25 (.agg #[.bool (decide (wholeI a < 0)), .slice A2 (tens (wholeI a)).length c2]) rfl e0 ?_
      obtain ⟨⟨A3, c3⟩, e2, k2⟩ := K.dep 2 rfl rfl rfl
      refine ow_set 27 (.agg #[.bool (decide (i < 0)), .slice A3 (tens i).length c3]) rfl e2 ?_
      refine ow_enter en91 rfl ((rcmp_any A2 A3 c2 c3 (wholeI a) i _ (HF.on (E.drew.trans (LE.mono OY))).here.1.2 k2.here (by omega) (by omega)).mono ?_)
      rintro e w2 ⟨rfl, hb⟩
      exact ⟨_, rfl, hb, Left.of rfl⟩
    · intro vs X wq K
      have LE := K.1
      have XN := K.2.1
      have SQ := Nat.le_trans LW.size (Nat.le_trans E.size LE.size)
      obtain ⟨_, e3, k3⟩ := K.dep 3 rfl rfl rfl
      refine ow_set 28 (.int .i64 (cmpI (wholeI a) i)) rfl e3 ?_
      exact ow_assign rfl ⟨Below.refl _ _, Left.of rfl⟩
  intro vs w10 LE AO AL AF AA
  replace E := E.drew.trans (LE.mono OY)
  obtain ⟨_, e4, k4⟩ := AL.2.2.2.2.1
  refine ew_sub (τ := [(0, _), (4, _), (5, _), (7, _), (8, .int .i64 (cmpI (wholeI a) i))]) ⟨rfl, rfl, rfl, rfl, congrArg some e4, trivial⟩ ?_
  clear AL AF AA LE AO OY e4 k4
  refine ew_next ?_
  refine cw_seq ?_
  refine cw_seq ?_
  refine cw_region ?_
  refine rs_op rfl (ow_move rfl ?_)
  refine rs_op rfl (ow_eql rfl rfl ?_)
  refine rs_op rfl (ow_move rfl ?_)
  refine rs_split 31 rfl (fun hc => ?_) (fun hc => ?_)
  · have _way := True.intro
    have hc := beq_iff_eq.1 hc
    refine rs_op rfl (ow_on rfl (ow_move rfl ?_))
    refine rs_op rfl (ow_pickT rfl rfl ?_)
    refine rs_nil ?_
    refine ew_next ?_
    refine cw_cond rfl (fun hlo => ?_) (fun hlo => ?_)
    · have _way := True.intro
      refine cw_seq ?_
      refine cw_seq ?_
      refine cw_region ?_
      refine rs_op rfl (ow_move rfl ?_)
      refine rs_op rfl (ow_enter en48 rfl ((below_any_r _ a ha).mono ?_))
      rintro e w11 ⟨rfl, hb⟩
      refine ⟨_, rfl, ?_⟩
      have Ec := Ext.of_below hb No
      replace E := E.trans Ec.no
      clear hb Ec
      refine rs_nil ?_
      refine ew_next ?_
      refine cw_cond rfl (fun hs => ?_) (fun hs => ?_)
      · have _way := True.intro
        refine cw_seq ?_
        refine cw_region ?_
        refine rs_op rfl (ow_assign rfl ?_)
        refine rs_op rfl (ow_assign rfl ?_)
        refine rs_nil ?_
        refine ew_next ?_
        refine cw_ret ?_
        refine ew_then_ret ?_
        refine ew_then_ret ?_
        refine ew_ret (rs := [.tmp 4, .tmp 5]) (vs := [_, _]) rfl ⟨rfl, rfl, trivial⟩ ?_
        exact ⟨by rw [cmpB, if_neg (by rw [hc]; decide), if_pos hlo, hs]; rfl, (LW.step E XLW).toBelow⟩
      · have _way := True.intro
        refine cw_skip ?_
        refine ew_next ?_
        refine cw_seq ?_
        refine cw_region ?_
        refine rs_op rfl (ow_assign rfl ?_)
        refine rs_op rfl (ow_assign rfl ?_)
        refine rs_nil ?_
        refine ew_next ?_
        refine cw_ret ?_
        refine ew_then_ret ?_
        refine ew_ret (rs := [.tmp 4, .tmp 5]) (vs := [_, _]) rfl ⟨rfl, rfl, trivial⟩ ?_
        exact ⟨by rw [cmpB, if_neg (by rw [hc]; decide), if_pos hlo, hs]; rfl, (LW.step E XLW).toBelow⟩
    · have _way := True.intro
      refine cw_skip ?_
      refine ew_next ?_
      refine cw_seq ?_
      refine cw_region ?_
      refine rs_op rfl (ow_move rfl ?_)
      refine rs_op rfl (ow_assign rfl ?_)
      refine rs_op rfl (ow_assign rfl ?_)
      refine rs_nil ?_
      refine ew_next ?_
      refine cw_ret ?_
      refine ew_ret (rs := [.tmp 4, .tmp 5]) (vs := [_, _]) rfl ⟨rfl, rfl, trivial⟩ ?_
      exact ⟨by rw [cmpB, if_neg (by rw [hc]; decide), if_neg (by rw [hlo]; decide), hc]; rfl, (LW.step E XLW).toBelow⟩
  · have _way := True.intro
    have hc := beq_eq_false_iff_ne.1 hc
    refine rs_op rfl (ow_off rfl ?_)
    refine rs_op rfl (ow_pickF rfl rfl ?_)
    refine rs_nil ?_
    refine ew_next ?_
    refine cw_else rfl ?_
    refine cw_skip ?_
    refine ew_next ?_
    refine cw_seq ?_
    refine cw_region ?_
    refine rs_op rfl (ow_move rfl ?_)
    refine rs_op rfl (ow_assign rfl ?_)
    refine rs_op rfl (ow_assign rfl ?_)
    refine rs_nil ?_
    refine ew_next ?_
    refine cw_ret ?_
    refine ew_ret (rs := [.tmp 4, .tmp 5]) (vs := [_, _]) rfl ⟨rfl, rfl, trivial⟩ ?_
    exact ⟨by rw [cmpB, if_pos hc]; rfl, (LW.step E XLW).toBelow⟩
end
end
/-- Both at every number that can be read. -/
def cmpOk (a : Nat) (n1 : Bool) (xs : List Nat) : Bool := !(isN a) && goodB n1 xs
noncomputable def cmpV (a : Nat) (n1 : Bool) (xs : List Nat) : Int := if cmpOk a n1 xs then (if rg a = 9218868437227405312 then infV a else cmpB a (num n1 xs)) else 0
section
variable (w : World) (a : Nat) (ha : a < 18446744073709551616) (n1 : Bool) (A : Option Addr) (c : Nat) (xs : List Nat) (hx : Nums w A xs) (hl : xs.length ≤ 9223372036854775807)
include ha hx hl
theorem cmpbig_any : Calls Tryz.prog 46 #[.int .u64 ((a : Nat) : Int), .agg #[.bool n1, .slice A xs.length c]] w fun e w' => e = .returned (.tuple #[.int .i64 (cmpV a n1 xs), .bool (cmpOk a n1 xs)]) ∧ Below w.heap.size w w' := by
  cases hn : isN a with
  | true =>
    have h : cmpOk a n1 xs = false := by rw [cmpOk, hn]; rfl
    rw [cmpV, h, if_neg (by decide)]
    exact cmpbig_nan w a ha n1 A c xs hx hl hn
  | false =>
    cases hg : goodB n1 xs with
    | false =>
      have h : cmpOk a n1 xs = false := by rw [cmpOk, hg, Bool.and_false]
      rw [cmpV, h, if_neg (by decide)]
      exact cmpbig_bad w a ha n1 A c xs hx hl hn hg
    | true =>
      have h : cmpOk a n1 xs = true := by rw [cmpOk, hn, hg]; rfl
      rw [cmpV, h, if_pos rfl]
      obtain ⟨i, rfl, rfl, hi⟩ := good_is hg
      rw [num_limbs]
      by_cases hinf : rg a = 9218868437227405312
      · rw [if_pos hinf]
        exact cmpbig_inf w a ha i A c hi hx hn hinf
      · rw [if_neg hinf]
        have h1 := of_decide_eq_false hn
        exact cmpbig_fin w a ha i A c hi hx hn (by omega)
theorem rcmpbig_any : Calls Tryz.prog 47 #[.int .u64 ((a : Nat) : Int), .agg #[.bool n1, .slice A xs.length c]] w fun e w' => e = .returned (.tuple #[.int .i64 (cmpV a n1 xs), .bool (cmpOk a n1 xs)]) ∧ Below w.heap.size w w' := by
  cases hn : isN a with
  | true =>
    have h : cmpOk a n1 xs = false := by rw [cmpOk, hn]; rfl
    rw [cmpV, h, if_neg (by decide)]
    exact rcmpbig_nan w a ha n1 A c xs hx hl hn
  | false =>
    cases hg : goodB n1 xs with
    | false =>
      have h : cmpOk a n1 xs = false := by rw [cmpOk, hg, Bool.and_false]
      rw [cmpV, h, if_neg (by decide)]
      exact rcmpbig_bad w a ha n1 A c xs hx hl hn hg
    | true =>
      have h : cmpOk a n1 xs = true := by rw [cmpOk, hn, hg]; rfl
      rw [cmpV, h, if_pos rfl]
      obtain ⟨i, rfl, rfl, hi⟩ := good_is hg
      rw [num_limbs]
      by_cases hinf : rg a = 9218868437227405312
      · rw [if_pos hinf]
        exact rcmpbig_inf w a ha i A c hi hx hn hinf
      · rw [if_neg hinf]
        have h1 := of_decide_eq_false hn
        exact rcmpbig_fin w a ha i A c hi hx hn (by omega)
end
theorem orders_law (w : World) (a b : Nat) (n1 : Bool) (A : Option Addr) (c : Nat) (xs : List Nat) (ha : a < 18446744073709551616) (hb : b < 18446744073709551616) (hx : Nums w A xs) (hl : xs.length ≤ 9223372036854775807) (hT : ∀ b, Below w.heap.size w b → Ten b) (hD : ∀ b, Below w.heap.size w b → TabD b) :
    Calls Tryz.prog 10 #[.int .u64 ((a : Nat) : Int), .int .u64 ((b : Nat) : Int), .agg #[.bool n1, .slice A xs.length c]] w fun e w' => e = .returned (.bool true) ∧ Below w.heap.size w w' := by
  refine calls_cw Tryz.func10 rfl Tryz.ntmps10 rfl ?_
  have HF : Per (No) w (fun _ => True) := Per.true_
  have LW := Ext.refl (No) w
  have XLW : ∀ q9, (No) q9 → (No) q9 ∨ w.heap.size ≤ q9 := fun _ h => Or.inl h
  have E := Ext.refl (No) w
  replace HF := HF.on E
  replace LW := LW.step E XLW
  replace E := Ext.refl (No) w
  replace HF := HF.and (Per.nums0 hx)
  replace HF := HF.on E
  replace LW := LW.step E XLW
  replace E := Ext.refl (No) w
  replace HF := HF.and (per_later hT)
  replace HF := HF.on E
  replace LW := LW.step E XLW
  replace E := Ext.refl (No) w
  replace HF := HF.and (per_later hD)
  refine cw_seq ?_
  refine cw_region ?_
  refine rs_op rfl (ow_boxB rfl ?_)
  intro gb1 w2 Bb1 Eb1 Gb1
  have Gb1 : _ ≤ gb1 := Nat.le_trans E.size Gb1
  have GLb1 := Nat.le_trans LW.size Gb1
  replace E := E.trans Eb1.no
  clear Eb1
  replace HF := HF.cons (some_ge Gb1)
  replace E := E.cons (some gb1)
  replace XLW := Mut.grow XLW (fun k e => Or.inr (Nat.le_trans LW.size ((some_ge Gb1) k e)))
  replace HF := HF.on E
  replace LW := LW.step E XLW
  have SB : ∀ q9, No q9 → Mut [(some gb1)] q9 := (Mut.skip Mut.nil_)
  replace HF := HF.less SB
  replace XLW := fun k h => XLW k (SB k h)
  clear SB
  replace E := Ext.refl (No) w2
  replace HF := HF.and (Per.blkN Bb1 NotIn.nil)
  clear Bb1
  refine rs_op rfl (ow_assign rfl ?_)
  refine rs_nil ?_
  refine ew_next ?_
  refine cw_seq ?_
  refine cw_region ?_
  refine rs_op rfl (ow_move rfl ?_)
  refine rs_op rfl (ow_move rfl ?_)
  refine rs_op rfl (ow_enter en33 rfl ((cmp_any_r _ a b).mono ?_))
  rintro e w3 ⟨rfl, hb⟩
  refine ⟨_, rfl, ?_⟩
  have Ec := Ext.of_below hb No
  replace E := E.trans Ec.no
  clear hb Ec
  refine rs_op rfl (ow_move rfl ?_)
  refine rs_op rfl (ow_extract rfl rfl ?_)
  refine rs_op rfl (ow_extract rfl rfl ?_)
  refine rs_op rfl (ow_assign rfl ?_)
  refine rs_op rfl (ow_assign rfl ?_)
  refine rs_nil ?_
  refine ew_next ?_
  refine cw_seq ?_
  refine cw_region ?_
  refine rs_op rfl (ow_move rfl ?_)
  refine rs_op rfl (ow_move rfl ?_)
  refine rs_op rfl (ow_enter en45 rfl ((rcmp_any_r _ a b ha hb).mono ?_))
  rintro e w4 ⟨rfl, hb⟩
  refine ⟨_, rfl, ?_⟩
  have Ec := Ext.of_below hb No
  replace E := E.trans Ec.no
  clear hb Ec
  refine rs_op rfl (ow_move rfl ?_)
  refine rs_op rfl (ow_extract rfl rfl ?_)
  refine rs_op rfl (ow_extract rfl rfl ?_)
  refine rs_op rfl (ow_assign rfl ?_)
  refine rs_op rfl (ow_assign rfl ?_)
  refine rs_nil ?_
  refine ew_next ?_
  refine cw_seq ?_
  refine cw_seq ?_
  refine cw_region ?_
  refine rs_op rfl (ow_enter en16 rfl ((known_any _ (HF.on E).here.1.1.2 (HF.on E).here.1.2).mono ?_))
  rintro e w5 ⟨rfl, hb⟩
  refine ⟨_, rfl, ?_⟩
  have Ec := Ext.of_below hb No
  replace E := E.trans Ec.no
  clear hb Ec
  refine rs_op rfl (ow_not rfl ?_)
  refine rs_op rfl (ow_move rfl ?_)
  refine rs_op rfl (ow_on rfl (ow_move rfl ?_))
  refine rs_op rfl (ow_on rfl (ow_move rfl ?_))
  refine rs_op rfl (ow_on rfl (ow_neq rfl rfl ?_))
  refine rs_op rfl (ow_pickF rfl rfl ?_)
  refine rs_op rfl (ow_move rfl ?_)
  refine rs_set 30 (.bool false) rfl ((by simp : (.bool ((cmpF a b) != (cmpF a b)) : Value) = _)) ?_
  refine rs_op rfl (ow_on rfl (ow_move rfl ?_))
  refine rs_op rfl (ow_on rfl (ow_move rfl ?_))
  refine rs_op rfl (ow_on rfl (ow_neqB Tryz.underlying4 rfl rfl ?_))
  refine rs_op rfl (ow_pickF rfl rfl ?_)
  refine rs_nil ?_
  refine ew_next ?_
  refine cw_set 34 (.bool false) rfl ((by simp : (.bool ((ordered a b) != (ordered a b)) : Value) = _)) ?_
  refine cw_else rfl ?_
  refine cw_skip ?_
  refine ew_next ?_
  refine cw_seq ?_
  refine cw_region ?_
  refine rs_op rfl (ow_move rfl ?_)
  refine rs_op rfl (ow_loadB Tryz.underlying41 rfl sz41 rfl (HF.on E).here.2 rfl ?_)
  refine rs_op rfl (ow_enter en46 rfl ((cmpbig_any _ a ha n1 A c xs (HF.on E).here.1.1.1.2 hl).mono ?_))
  rintro e w6 ⟨rfl, hb⟩
  refine ⟨_, rfl, ?_⟩
  have Ec := Ext.of_below hb No
  replace E := E.trans Ec.no
  clear hb Ec
  refine rs_op rfl (ow_move rfl ?_)
  refine rs_op rfl (ow_extract rfl rfl ?_)
  refine rs_op rfl (ow_extract rfl rfl ?_)
  refine rs_op rfl (ow_assign rfl ?_)
  refine rs_op rfl (ow_assign rfl ?_)
  refine rs_nil ?_
  refine ew_next ?_
  refine cw_seq ?_
  refine cw_region ?_
  refine rs_op rfl (ow_move rfl ?_)
  refine rs_op rfl (ow_loadB Tryz.underlying41 rfl sz41 rfl (HF.on E).here.2 rfl ?_)
  refine rs_op rfl (ow_enter en47 rfl ((rcmpbig_any _ a ha n1 A c xs (HF.on E).here.1.1.1.2 hl).mono ?_))
  rintro e w7 ⟨rfl, hb⟩
  refine ⟨_, rfl, ?_⟩
  have Ec := Ext.of_below hb No
  replace E := E.trans Ec.no
  clear hb Ec
  refine rs_op rfl (ow_move rfl ?_)
  refine rs_op rfl (ow_extract rfl rfl ?_)
  refine rs_op rfl (ow_extract rfl rfl ?_)
  refine rs_op rfl (ow_assign rfl ?_)
  refine rs_op rfl (ow_assign rfl ?_)
  refine rs_nil ?_
  refine ew_next ?_
  refine cw_seq ?_
  refine cw_region ?_
  refine rs_op rfl (ow_move rfl ?_)
  refine rs_op rfl (ow_move rfl ?_)
  refine rs_op rfl (ow_eql rfl rfl ?_)
  refine rs_set 49 (.bool true) rfl (by simp : (.bool ((cmpV a n1 xs) == (cmpV a n1 xs)) : Value) = _) ?_
  refine rs_op rfl (ow_move rfl ?_)
  refine rs_op rfl (ow_on rfl (ow_move rfl ?_))
  refine rs_op rfl (ow_on rfl (ow_move rfl ?_))
  refine rs_op rfl (ow_on rfl (ow_eqlB Tryz.underlying4 rfl rfl ?_))
  refine rs_set 53 (.bool true) rfl (by simp : (.bool ((cmpOk a n1 xs) == (cmpOk a n1 xs)) : Value) = _) ?_
  refine rs_op rfl (ow_pickT rfl rfl ?_)
  refine rs_op rfl (ow_assign rfl ?_)
  refine rs_nil ?_
  refine ew_next ?_
  refine cw_ret ?_
  refine ew_ret (rs := [.tmp 6]) (vs := [_]) rfl ⟨rfl, trivial⟩ ?_
  exact ⟨rfl, (LW.step E XLW).toBelow⟩
end Go.Proofs.YtljndllhmdpjlaaGreatDoor

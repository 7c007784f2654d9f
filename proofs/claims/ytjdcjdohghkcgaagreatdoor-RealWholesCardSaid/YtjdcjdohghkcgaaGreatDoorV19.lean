/- Texts of this claim. -/
import Derived.Test.YtjdcjdohghkcgaaGreatDoorV18
namespace Go.Proofs.YtjdcjdohghkcgaaGreatDoor
open Go.RowKit
set_option maxRecDepth 100000
theorem zwq {z : Int} (h : z.natAbs < 9223372036854775809) : z.natAbs < B18 ^ 30 := Nat.lt_of_lt_of_le (Nat.lt_of_lt_of_le h (by decide)) (Nat.le_trans (two_mono2 (k := 64) (K := 1024) rfl rfl (by decide)) B18_30)
theorem two_natAbs (k : Nat) : ((2 : Int) ^ k).natAbs = 2 ^ k := by rw [Int.natAbs_pow]; rfl
theorem two_posI (k : Nat) : (0 : Int) < 2 ^ k := Int.pow_pos (by decide)
theorem two_neg (k : Nat) : decide ((2 : Int) ^ k < 0) = false := decide_eq_false (by have := two_posI k; omega)
theorem two_30 {k : Nat} (h : k ≤ 1023) : ((2 : Int) ^ k).natAbs < B18 ^ 30 := by
 rw [two_natAbs];exact Nat.lt_of_lt_of_le (Nat.pow_lt_pow_right (by decide) (show k < 1024 by omega)) B18_30
theorem two_pow (k : Nat) (A B : Option Addr) (c d : Nat) (w : World) (hk : k ≤ 1023) (hx : Nums w A (limbs 2)) (hy : Nums w B (limbs ((k : Nat) : Int))) :
 Calls Tryz.prog 63 #[.agg #[.bool (decide ((2 : Int) < 0)), .slice A (limbs 2).length c], .agg #[.bool (decide (((k : Nat) : Int) < 0)), .slice B (limbs ((k : Nat) : Int)).length d]] w (vh w ((2 : Int) ^ k) 0) := by
 rcases Nat.eq_zero_or_pos k with h0 | h0
 · have h := pow_zero 2 ((k : Nat) : Int) A B c d w (zwq (by decide)) (zwq (by omega)) hx hy (by omega);rw [h0] at h ⊢;exact h
 · have h := pow_l1 2 ((k : Nat) : Int) A B c d w (zwq (by decide)) (zwq (by omega)) hx hy (by omega) (by omega) (by decide) (by decide);rw [Int.toNat_natCast, zxv (two_30 hk), zyx (two_30 hk)] at h;exact h
theorem dq_whole {a M k : Nat} (hM : M = qy a * 2 ^ k) {n1 : Bool} {m0 : Int} (h0 : m0 = if ng a then -((M : Nat) : Int) else ((M : Nat) : Int)) (h1 : n1 = decide (m0 < 0)) : dq n1 false M (2 ^ k) = js a := by
 have hp := jr k;have e1 : M / 2 ^ k = qy a := by rw [hM]; exact Nat.mul_div_cancel _ hp
 have e2 : M % 2 ^ k = 0 := by rw [hM]; exact Nat.mul_mod_left _ _
 unfold dq js;rw [e1, e2, h1, h0];by_cases hz : qy a = 0
 · rw [hz] at hM ⊢;rw [Nat.zero_mul] at hM;subst hM;cases ng a <;> simp
 · have hMp : 0 < M := by rw [hM]; exact Nat.mul_pos (by omega) hp
   cases ng a with
   | true => simp only [if_true]; rw [decide_eq_true (by omega)]; rfl
   | false => simp only [Bool.false_eq_true, if_false]; rw [decide_eq_false (by omega)]; rfl
theorem pos_zero {x P : Nat} (hP : 0 < P) (h : 0 = x * P) : x = 0 := by
 rcases Nat.eq_zero_or_pos x with h' | h'
 · exact h'
 · have := Nat.mul_pos h' hP; omega
theorem val_gen_hi {m e W P n k M : Nat} (hP : P = 2 ^ 1074) (h : m * 2 ^ e = W * P * 2 ^ n) (hc : 1074 + n ≤ e) (hk : k = e - (1074 + n)) (hM : M = m) : W = M * 2 ^ k := by
 have h1 : P * 2 ^ n = 2 ^ (1074 + n) := by rw [hP, Nat.pow_add]
 rw [Nat.mul_assoc, h1, zxz hc] at h;rw [hM, hk];exact (Nat.eq_of_mul_eq_mul_right (jr _) h).symm
theorem val_gen_lo {m e W P n k M : Nat} (hP : P = 2 ^ 1074) (h : m * 2 ^ e = W * P * 2 ^ n) (hc : e ≤ 1074 + n) (hk : k = 1074 + n - e) (hM : M = m) : M = W * 2 ^ k := by
 have h1 : P * 2 ^ n = 2 ^ (1074 + n) := by rw [hP, Nat.pow_add]
 rw [Nat.mul_assoc, h1, zxz hc W] at h;rw [hM, hk];exact Nat.eq_of_mul_eq_mul_right (jr _) h
theorem val_hi {m e W n k M : Nat} (h : m * 2 ^ e = W * 2 ^ 1074 * 2 ^ n) (hc : 1074 + n ≤ e) (hk : k = e - (1074 + n)) (hM : M = m) : W = M * 2 ^ k := val_gen_hi rfl h hc hk hM
theorem val_lo {m e W n k M : Nat} (h : m * 2 ^ e = W * 2 ^ 1074 * 2 ^ n) (hc : e ≤ 1074 + n) (hk : k = 1074 + n - e) (hM : M = m) : M = W * 2 ^ k := val_gen_lo rfl h hc hk hM
theorem div_two {a M k : Nat} {m0 : Int} (hM : M = qy a * 2 ^ k) (h0 : m0 = if ng a then -((M : Nat) : Int) else ((M : Nat) : Int)) (hMb : M < 9223372036854775808) (hk : k ≤ 1023) (A B : Option Addr) (c d : Nat) (w : World) (hx : Nums w A (limbs m0)) (hy : Nums w B (limbs ((2 : Int) ^ k))) :
 Calls Tryz.prog 65 #[.agg #[.bool (decide (m0 < 0)), .slice A (limbs m0).length c], .agg #[.bool (decide ((2 : Int) ^ k < 0)), .slice B (limbs ((2 : Int) ^ k)).length d]] w fun e w' => ∃ A5 c5 B6 c6 r, e = .returned (.tuple #[.agg #[.bool (decide (js a < 0)), .slice A5 (limbs (js a)).length c5], .agg #[.bool (decide (r < 0)), .slice B6 (limbs r).length c6], .int .i64 0]) ∧ Own w' w.heap.size A5 c5 (limbs (js a)) ∧ Below w.heap.size w w' := by
 have hma : m0.natAbs = M := by rw [h0]; split <;> omega
 have h := divmod_ok A B c d (limbs m0) (limbs ((2 : Int) ^ k)) w (decide (m0 < 0)) (decide ((2 : Int) ^ k < 0)) hx hy (xk (zwq (by omega))) (xk (two_30 hk)) (yiv (by have := two_posI k; omega));rw [vm m0, vm ((2 : Int) ^ k), gr vi, gr vi, ← vm, ← vm, hma, two_natAbs, two_neg, dq_whole hM h0 rfl] at h;rw [two_neg]
 exact h.mono fun e w' ⟨A5, c5, B6, c6, he, o1, o2, hb, _⟩ => ⟨A5, c5, B6, c6, _, he, o1, hb⟩
section
variable (w : World) (a : Nat) (ha : a < 18446744073709551616)
theorem trunc_num (hf : rg a < 9218868437227405312) : Calls Tryz.prog 60 #[.float .f64 a] w fun e w' => e = .returned (.float .f64 (zeq .zero a)) ∧ Below w.heap.size w w' := by
 refine zp Tryz.func60 rfl Tryz.ntmps60 rfl ?_;have LW := erx (No) w;have XLW := grx (No) w;have E := erx (No) w;refine srx (anx rfl rfl (zb (yb rfl (srx (mvx rfl rfl (za rfl (ow_round ex97 rfl ((isN_read a).trans (yjk hf)) (anx rfl rfl (zu (zq (zt (rs := [.tmp 2]) (vs := [_]) rfl ⟨rfl, trivial⟩ ?_)))))))))));exact ⟨rfl, (LW.step E XLW).toBelow⟩
include ha
theorem whole_nan (hn : isN a = true) : Calls Tryz.prog 19 #[.int .u64 ((a : Nat) : Int)] w fun e w' => e = .returned (.tuple #[.agg #[.bool false, .slice none 0 0], .int .i64 1]) ∧ Below w.heap.size w w' := by
 have _ := ha;refine zp Tryz.func19 rfl Tryz.ntmps19 rfl ?_;have LW := erx (No) w;have XLW := grx (No) w;have E := erx (No) w;refine srx (za rfl (qf od ?_));intro gb1 w2 Bb1 Eb1 Gb1;have Gb1 : _ ≤ gb1 := Nat.le_trans E.size Gb1;have GLb1 := Nat.le_trans LW.size Gb1;replace E := E.trans Eb1.no;replace E := E.cons (some gb1)
 replace XLW := Mut.grow XLW (fun k e => Or.inr (Nat.le_trans LW.size ((ya Gb1) k e)))
 refine anx rfl rfl (srx (mvx rfl rfl (za rfl (qh (b := a) yax rfl (anx rfl rfl (zb (zr (srx (mvx rfl rfl (mvx rfl rfl (za rfl (xf rfl rfl (anx rfl rfl (yf 18 (.bool true) rfl ((by rw [zck, hn] : (.bool (vv a a != some .eq) : Value) = _)) (yb rfl (srx (za rfl (ztq (cs := #[.bool false, .slice none 0 0]) pl42 od rfl rfl (yp (ym ve rfl rfl Bb1 rfl rfl (Nat.le_of_ble_eq_true rfl) ?_))))))))))))))))))))
 intro w3 Bx Eb1;replace Bb1 := Bx;replace E := E.step1 Eb1 Mut.head;refine anx rfl rfl (zu (qa (zq (zt (rs := [.cell 2 42, .tmp 3]) (vs := [_, _]) rfl ⟨⟨_, rfl, gk Tryz.underlying42 rfl ve Bb1 rfl⟩, rfl, trivial⟩ ?_))));exact ⟨rfl, (LW.step E XLW).toBelow⟩
theorem whole_inf (hi : rg a = 9218868437227405312) : Calls Tryz.prog 19 #[.int .u64 ((a : Nat) : Int)] w fun e w' => e = .returned (.tuple #[.agg #[.bool false, .slice none 0 0], .int .i64 7]) ∧ Below w.heap.size w w' := by
 have hn : isN a = false := decide_eq_false (by omega);refine zp Tryz.func19 rfl Tryz.ntmps19 rfl ?_;have LW := erx (No) w;have XLW := grx (No) w;have E := erx (No) w;refine srx (za rfl (qf od ?_));intro gb1 w2 Bb1 Eb1 Gb1;have Gb1 : _ ≤ gb1 := Nat.le_trans E.size Gb1;have GLb1 := Nat.le_trans LW.size Gb1;replace E := E.trans Eb1.no;replace E := E.cons (some gb1)
 replace XLW := Mut.grow XLW (fun k e => Or.inr (Nat.le_trans LW.size ((ya Gb1) k e)))
 refine anx rfl rfl (srx (mvx rfl rfl (za rfl (qh (b := a) yax rfl (anx rfl rfl (zb (zr (srx (mvx rfl rfl (mvx rfl rfl (za rfl (xf rfl rfl (anx rfl rfl (yf 18 (.bool false) rfl ((by rw [zck, hn] : (.bool (vv a a != some .eq) : Value) = _)) (zl rfl (srx (mvx rfl rfl (za rfl (zg en49 rfl ((xj _ a ha).mono ?_))))))))))))))))))))
 rintro e w3 ⟨rfl, hb⟩;refine ⟨_, rfl, ?_⟩;have Ec := Ext.of_below hb No;replace Bb1 := Bb1.extN Ec NotIn.nil;replace E := E.trans Ec.no
 refine zz 25 (.bool true) rfl ((by rw [decide_eq_true hi] : (.bool (decide (rg a = 9218868437227405312)) : Value) = _)) (anx rfl rfl (yb rfl (srx (za rfl (ztq (cs := #[.bool false, .slice none 0 0]) pl42 od rfl rfl (yp (ym ve rfl rfl Bb1 rfl rfl (Nat.le_of_ble_eq_true rfl) ?_)))))));intro w4 Bx Eb1;replace Bb1 := Bx;replace E := E.step1 Eb1 Mut.head
 refine anx rfl rfl (zu (qa (zq (zt (rs := [.cell 2 42, .tmp 3]) (vs := [_, _]) rfl ⟨⟨_, rfl, gk Tryz.underlying42 rfl ve Bb1 rfl⟩, rfl, trivial⟩ ?_))));exact ⟨rfl, (LW.step E XLW).toBelow⟩
section
variable (hf : rg a < 9218868437227405312)
include hf
theorem whole_zero (h0 : qy a = 0) : Calls Tryz.prog 19 #[.int .u64 ((a : Nat) : Int)] w (vh w (js a) 0) := by
 obtain ⟨q, hq1, hq2, hq3⟩ := yxx hf;have hq0 : q = 0 := ytk.1 (zero_p hq1 h0);obtain ⟨r1, r2, r3⟩ := gi (ng a) q (by omega);obtain ⟨M, hMd⟩ : ∃ M, M = 0 := ⟨_, rfl⟩;obtain ⟨k, hk⟩ : ∃ k, k = 53 := ⟨_, rfl⟩;obtain ⟨m0, hm0⟩ : ∃ m0 : Int, m0 = if ng a then -((M : Nat) : Int) else ((M : Nat) : Int) := ⟨_, rfl⟩
 have hM : M = qy a * 2 ^ k := by rw [h0, Nat.zero_mul, hMd]
 have hwz : qy (Ieee.double.word (ng a) q) = 0 := (ytq (ng a) (by omega) hq1).trans h0;have hfz : floatToIntVal .f64 (Ieee.double.word (ng a) q) .i64 = some m0 := by
  rw [f2i_i64 (by rw [r1]; omega) (by rw [hwz]; decide), hwz, r2, hm0, hMd]
 refine zp Tryz.func19 rfl Tryz.ntmps19 rfl ?_;have HF : Per (No) w (fun _ => True) := Per.true_;have LW := erx (No) w;have XLW := grx (No) w;have E := erx (No) w;refine srx (za rfl (qf od ?_));intro gb1 w2 Bb1 Eb1 Gb1;have Gb1 : _ ≤ gb1 := Nat.le_trans E.size Gb1;have GLb1 := Nat.le_trans LW.size Gb1;replace E := E.trans Eb1.no;replace HF := HF.cons (ya Gb1)
 replace E := E.cons (some gb1);replace XLW := Mut.grow XLW (fun k e => Or.inr (Nat.le_trans LW.size ((ya Gb1) k e)))
 refine anx rfl rfl (srx (mvx rfl rfl (za rfl (qh (b := a) yax rfl (anx rfl rfl (zb (zr (srx (mvx rfl rfl (mvx rfl rfl (za rfl (xf rfl rfl (anx rfl rfl (yf 18 (.bool false) rfl ((by rw [zck, yjk hf] : (.bool (vv a a != some .eq) : Value) = _)) (zl rfl (srx (mvx rfl rfl (za rfl (zg en49 rfl ((xj _ a ha).mono ?_))))))))))))))))))))
 rintro e w3 ⟨rfl, hb⟩;refine ⟨_, rfl, ?_⟩;have Ec := Ext.of_below hb No;replace Bb1 := Bb1.extN Ec NotIn.nil;replace E := E.trans Ec.no
 refine zz 25 (.bool false) rfl ((by rw [decide_eq_false (by omega)] : (.bool (decide (rg a = 9218868437227405312)) : Value) = _)) (anx rfl rfl (zl rfl (zf (zj (zd (srx (mvx rfl rfl (za rfl (zg en60 rfl ((trunc_num _ a hf).mono ?_))))))))));rintro e w4 ⟨rfl, hb⟩;refine ⟨_, rfl, ?_⟩;have Ec := Ext.of_below hb No;replace Bb1 := Bb1.extN Ec NotIn.nil
 replace E := E.trans Ec.no;refine zz 29 (.float .f64 (Ieee.double.word (ng a) q)) rfl ((by rw [hq3] : (.float .f64 (zeq .zero a) : Value) = _)) (za rfl (zg en59 rfl ((Frexp_zero _ (Ieee.double.word (ng a) q) r3 (by rw [r1]; exact hq0)).mono ?_)));rintro e w5 ⟨rfl, hb⟩;refine ⟨_, rfl, ?_⟩;have Ec := Ext.of_below hb No;replace Bb1 := Bb1.extN Ec NotIn.nil;replace E := E.trans Ec.no
 refine mvx rfl rfl (za rfl (zn rfl rfl (za rfl (zn rfl rfl (avx rfl rfl (anx rfl rfl (srx (mvx rfl rfl (za rfl (zg en62 rfl ((Ldexp_zero _ (Ieee.double.word (ng a) q) r3 (by rw [r1]; exact hq0) 53).mono ?_)))))))))));rintro e w6 ⟨rfl, hb⟩;refine ⟨_, rfl, ?_⟩;have Ec := Ext.of_below hb No;replace Bb1 := Bb1.extN Ec NotIn.nil;replace E := E.trans Ec.no
 refine za rfl (ow_f2i (z := m0) Tryz.underlying3 (by rw [Tryz.underlying78]; rfl) rfl hfz (za rfl (zg en61 rfl ((znz m0 _ (by rw [hm0]; split <;> omega) (by rw [hm0]; split <;> omega)).mono ?_))));rintro e w7 ⟨A1, c1, rfl, o1, hb⟩;refine ⟨_, rfl, ?_⟩;have XC : ∀ q9, (Mut [(some gb1)]) q9 → q9 < w6.heap.size := (Mut.grow Mut.none_ (yc Bb1.lt));have Ec := Ext.of_below hb No
 replace Bb1 := Bb1.extN Ec NotIn.nil;replace E := E.trans Ec.no;replace HF := HF.on E;replace LW := LW.step E XLW;replace E := erx (Mut [(some gb1)]) w7;replace HF := HF.and (Per.own o1 XC);refine za rfl (qf od ?_);intro gb8 w9 Bb8 Eb8 Gb8;have Db8_b1 : Apart (some gb8) (some gb1) := Apart.of_lt (yc Bb1.lt) Gb8;have Db1_b8 := Db8_b1.symm
 have Gb8 : _ ≤ gb8 := Nat.le_trans E.size Gb8;have GLb8 := Nat.le_trans LW.size Gb8;replace Bb1 := Bb1.extN Eb8 NotIn.nil;replace E := E.trans Eb8.no;replace HF := HF.cons (ya Gb8);replace E := E.cons (some gb8);replace XLW := Mut.grow XLW (fun k e => Or.inr (Nat.le_trans LW.size ((ya Gb8) k e)));refine yp (ym ve rfl rfl Bb8 rfl rfl (Nat.le_of_ble_eq_true rfl) ?_)
 intro w10 Bx Eb8;replace Bb8 := Bx;replace Bb1 := Bb1.extN Eb8 (NotIn.cons Db1_b8 NotIn.nil);replace E := E.step1 Eb8 Mut.head;refine rnx (srx (za rfl (zg en61 rfl ((znz 2 _ (by decide) (by decide)).mono ?_))));rintro e w11 ⟨A2, c2, rfl, o2, hb⟩;refine ⟨_, rfl, ?_⟩
 have XC : ∀ q9, (Mut [(some gb8), (some gb1)]) q9 → q9 < w10.heap.size := (Mut.grow (Mut.grow Mut.none_ (yc Bb1.lt)) (yc Bb8.lt));have Ec := Ext.of_below hb No;replace Bb8 := Bb8.extN Ec NotIn.nil;replace Bb1 := Bb1.extN Ec NotIn.nil;replace E := E.trans Ec.no;replace HF := HF.on E;replace LW := LW.step E XLW;replace E := erx (Mut [(some gb8), (some gb1)]) w11
 replace HF := HF.and (Per.own o2 XC);refine za rfl (qf od ?_);intro gb12 w13 Bb12 Eb12 Gb12;have Db12_b8 : Apart (some gb12) (some gb8) := Apart.of_lt (yc Bb8.lt) Gb12;have Db8_b12 := Db12_b8.symm;have Db12_b1 : Apart (some gb12) (some gb1) := Apart.of_lt (yc Bb1.lt) Gb12;have Db1_b12 := Db12_b1.symm;have Gb12 : _ ≤ gb12 := Nat.le_trans E.size Gb12
 have GLb12 := Nat.le_trans LW.size Gb12;replace Bb8 := Bb8.extN Eb12 NotIn.nil;replace Bb1 := Bb1.extN Eb12 NotIn.nil;replace E := E.trans Eb12.no;replace HF := HF.cons (ya Gb12);replace E := E.cons (some gb12);replace XLW := Mut.grow XLW (fun k e => Or.inr (Nat.le_trans LW.size ((ya Gb12) k e)));refine yp (ym ve rfl rfl Bb12 rfl rfl (Nat.le_of_ble_eq_true rfl) ?_)
 intro w14 Bx Eb12;replace Bb12 := Bx;replace Bb8 := Bb8.extN Eb12 (NotIn.cons Db8_b12 NotIn.nil);replace Bb1 := Bb1.extN Eb12 (NotIn.cons Db1_b12 NotIn.nil);replace E := E.step1 Eb12 Mut.head;replace HF := HF.on E;replace LW := LW.step E XLW;have SB : ∀ q9, Mut [(some gb8), (some gb1)] q9 → Mut [(some gb12), (some gb8), (some gb1)] q9 := (Mut.skip (Mut.keep (Mut.keep Mut.nil_)))
 replace HF := HF.less SB;replace XLW := fun k h => XLW k (SB k h);clear SB;replace E := erx (Mut [(some gb8), (some gb1)]) w14;replace HF := HF.and (Per.blkN Bb12 (NotIn.cons Db12_b8 (NotIn.cons Db12_b1 NotIn.nil)))
 refine rnx (zb (srx (mvx rfl rfl (za rfl (ye (z := (-53)) rfl rfl (by kernel_rfl) (anx rfl rfl (srx (mvx rfl rfl (za rfl (va rfl rfl (rnx (zl rfl (zf (zd (zb (srx (mvx rfl rfl (za rfl (yo rfl rfl (rnx (zl rfl (zf (zd (zb ?_))))))))))))))))))))))))
 have OY : ∀ q9, (Mut (kt [])) q9 → q9 < (World.drew w14).heap.size → (Mut [(some gb8), (some gb1)]) q9 := fun k h _ => (Mut.none_) k h;refine vf (Mut [(some gb8), (some gb1)]) (Mut.grow (Mut.grow Mut.none_ (yc Bb1.lt)) (yc Bb8.lt)) [⟨8, 9, 42, #[.bool false, .slice none 0 0]⟩] [] (xz [Fx.of (.agg #[.bool (decide ((2 : Int) < 0)), .slice A2 (limbs 2).length c2]),
  Fx.of (.int .i64 (-53)),
  Fx.of (.int .i64 ((k : Nat) : Int)),
  ⟨(Option Addr × Nat), fun (A3, c3) => .agg #[.bool (decide (((k : Nat) : Int) < 0)), .slice A3 (limbs ((k : Nat) : Int)).length c3], fun (A3, c3) b => (Nums b A3 (limbs ((k : Nat) : Int)))⟩,
  ⟨(Option Addr × Nat), fun (A4, c4) => .tuple #[.agg #[.bool (decide ((2 : Int) ^ k < 0)), .slice A4 (limbs ((2 : Int) ^ k)).length c4], .int .i64 0], fun (A4, c4) b => (Nums b A4 (limbs ((2 : Int) ^ k)))⟩,
  ⟨(Option Addr × Nat), fun (A4, c4) => .tuple #[.agg #[.bool (decide ((2 : Int) ^ k < 0)), .slice A4 (limbs ((2 : Int) ^ k)).length c4], .int .i64 0], fun (A4, c4) b => (Nums b A4 (limbs ((2 : Int) ^ k)))⟩,
  ⟨(Option Addr × Nat), fun (A4, c4) => .agg #[.bool (decide ((2 : Int) ^ k < 0)), .slice A4 (limbs ((2 : Int) ^ k)).length c4], fun (A4, c4) b => (Nums b A4 (limbs ((2 : Int) ^ k)))⟩,
  Fx.of (.int .i64 0),
  Fx.of undef,
  Fx.of undef,
  Fx.of (.int .i64 0)]) mixed rfl trivial (fun _ h => by cases h) ?_ ?_
 · refine ⟨?_, ?_, ?_, ?_, ?_, ?_, ?_, ?_, ?_, ?_, ?_, trivial⟩
   · intro vs X wq K;have LE := K.1;exact yw Tryz.underlying42 rfl ve rfl (HF.on (E.drew.trans (LE.mono OY))).here.2 rfl ⟨Below.refl _ _, Left.of rfl⟩
   · intro vs X wq K;exact zk rfl ⟨Below.refl _ _, Left.of rfl⟩
   · intro vs X wq K;obtain ⟨_, e1, k1⟩ := K.dep 1 rfl rfl rfl;refine zh 61 (.int .i64 (-53)) rfl e1 ?_;exact xx (z := 53) rfl (by kernel_rfl) ⟨Below.refl _ _, Left.of (by rw [hk]; rfl)⟩
   · intro vs X wq K;have XN := K.2.1;obtain ⟨_, e2, k2⟩ := K.dep 2 rfl rfl rfl;refine zh 62 (.int .i64 ((k : Nat) : Int)) rfl e2 (zg en61 rfl ((znz ((k : Nat) : Int) _ (by omega) (by omega)).mono ?_));rintro e w2 ⟨A3, c3, rfl, o3, hb⟩;exact ⟨_, rfl, hb, ⟨(A3, c3), rfl, Per.own o3 XN⟩⟩
   · intro vs X wq K;have LE := K.1;have XN := K.2.1;obtain ⟨_, e0, k0⟩ := K.dep 0 rfl rfl rfl;refine zh 60 (.agg #[.bool (decide ((2 : Int) < 0)), .slice A2 (limbs 2).length c2]) rfl e0 ?_;obtain ⟨⟨A3, c3⟩, e3, k3⟩ := K.dep 3 rfl rfl rfl
     refine zh 63 (.agg #[.bool (decide (((k : Nat) : Int) < 0)), .slice A3 (limbs ((k : Nat) : Int)).length c3]) rfl e3 (zg en63 rfl ((two_pow k A2 A3 c2 c3 _ (by omega) (HF.on (E.drew.trans (LE.mono OY))).here.1.2 k3.here).mono ?_));rintro e w2 ⟨A4, c4, rfl, o4, hb⟩;exact ⟨_, rfl, hb, ⟨(A4, c4), rfl, Per.own o4 XN⟩⟩
   · intro vs X wq K;obtain ⟨⟨A4, c4⟩, e4, k4⟩ := K.dep 4 rfl rfl rfl;refine zh 64 (.tuple #[.agg #[.bool (decide ((2 : Int) ^ k < 0)), .slice A4 (limbs ((2 : Int) ^ k)).length c4], .int .i64 0]) rfl e4 ?_;exact zk rfl ⟨Below.refl _ _, ⟨⟨A4, c4⟩, rfl, (k4.map (fun _ h => h))⟩⟩
   · intro vs X wq K;obtain ⟨⟨A4, c4⟩, e5, k5⟩ := K.dep 5 rfl rfl rfl;refine zh 59 (.tuple #[.agg #[.bool (decide ((2 : Int) ^ k < 0)), .slice A4 (limbs ((2 : Int) ^ k)).length c4], .int .i64 0]) rfl e5 ?_;exact zn rfl rfl ⟨Below.refl _ _, ⟨⟨A4, c4⟩, rfl, (k5.map (fun _ h => h))⟩⟩
   · intro vs X wq K;obtain ⟨⟨A4, c4⟩, e5, k5⟩ := K.dep 5 rfl rfl rfl;refine zh 59 (.tuple #[.agg #[.bool (decide ((2 : Int) ^ k < 0)), .slice A4 (limbs ((2 : Int) ^ k)).length c4], .int .i64 0]) rfl e5 ?_;exact zn rfl rfl ⟨Below.refl _ _, Left.of rfl⟩
   · exact ⟨_, _, _, _, _, rfl, od, rfl⟩
   · refine ⟨_, _, _, _, _, rfl, rfl, rfl, ve, fun vs X wq K => ?_⟩;obtain ⟨⟨A4, c4⟩, e0, _⟩ := K.dep 6 rfl rfl rfl;exact ⟨vs 6, rfl, by rw [e0]; rfl, by rw [e0]; rfl⟩
   · intro vs X wq K;obtain ⟨_, e7, k7⟩ := K.dep 7 rfl rfl rfl;refine zh 66 (.int .i64 0) rfl e7 ?_;exact vp rfl ⟨Below.refl _ _, Left.of rfl⟩
 intro vs w15 LE AO AL AF AA;have LBb8 := Bb8;have LBb1 := Bb1;replace Bb8 := Bb8.drew.extN LE NotIn.nil;replace Bb1 := Bb1.drew.extN LE NotIn.nil;replace E := E.drew.trans (LE.mono OY);obtain ⟨⟨A4, c4⟩, e6, k6⟩ := AL.2.2.2.2.2.2.1;replace HF := HF.on E;replace LW := LW.step E XLW;replace E := erx (Mut [(some gb8), (some gb1)]) w15
 replace HF := HF.and ((k6.map (fun _ h => h) : Per (Mut [(some gb8), (some gb1)]) w15 (fun b => Nums b A4 (limbs ((2 : Int) ^ k)))));obtain ⟨gb16, v0, y0, qb16, Gb16, Bb16, ey, ev0⟩ := AF.1;cases ey
 obtain rfl : vs 6 = v0 := Option.some.inj ev0;rw [e6] at Bb16;have Db16_b8 : Apart (some gb16) (some gb8) := Apart.of_lt (yc LBb8.lt) Gb16;have Db8_b16 := Db16_b8.symm;have Db16_b1 : Apart (some gb16) (some gb1) := Apart.of_lt (yc LBb1.lt) Gb16;have Db1_b16 := Db16_b1.symm;replace HF := HF.on E;replace LW := LW.step E XLW;replace E := erx (Mut [(some gb8), (some gb1)]) w15
 replace HF := HF.and ((Per.blkN Bb16 (NotIn.cons Db16_b8 (NotIn.cons Db16_b1 NotIn.nil)) : Per (Mut [(some gb8), (some gb1)]) w15 (fun b => Blk b gb16 42 #[.bool (decide ((2 : Int) ^ k < 0)), .slice A4 (limbs ((2 : Int) ^ k)).length c4])));have e8 := qb16;refine jh (τ := [(2, _), (3, _), (7, _), (11, .pointer (some ⟨gb16, 0, none⟩))]) ⟨rfl, rfl, rfl, congrArg some e8, trivial⟩ ?_
 clear AL AF AA LE AO OY e6 e8 k6 LBb8 LBb1;refine zd (srx (za rfl (yw Tryz.underlying42 rfl ve rfl Bb8 rfl (za rfl (yw Tryz.underlying42 rfl ve rfl (HF.on E).here.2 rfl (za rfl (zg en65 rfl ((div_two hM hm0 (by omega) (by omega) A1 A4 c1 c4 _ (HF.on E).here.1.1.1.1.2 (HF.on E).here.1.2).mono ?_))))))));rintro e w17 ⟨A5, c5, B6, c6, r, rfl, o5, hb⟩
 refine ⟨_, rfl, ?_⟩;have XC : ∀ q9, (Mut [(some gb8), (some gb1)]) q9 → q9 < w15.heap.size := (Mut.grow (Mut.grow Mut.none_ (yc Bb1.lt)) (yc Bb8.lt));have SC := Nat.le_trans LW.size E.size;have Ec := Ext.of_below hb No;replace Bb8 := Bb8.extN Ec NotIn.nil;replace Bb1 := Bb1.extN Ec NotIn.nil;replace E := E.trans Ec.no;have hS := SC;replace HF := HF.on E;replace LW := LW.step E XLW
 replace E := erx (Mut [(some gb8), (some gb1)]) w17;replace HF := HF.and (Per.ownX o5 XC);refine mvx rfl rfl (za rfl (zn rfl rfl (za rfl (zn rfl rfl (za rfl (zn rfl rfl (za rfl (qf od ?_))))))));intro gb18 w19 Bb18 Eb18 Gb18;have Db18_b8 : Apart (some gb18) (some gb8) := Apart.of_lt (yc Bb8.lt) Gb18;have Db8_b18 := Db18_b8.symm
 have Db18_b1 : Apart (some gb18) (some gb1) := Apart.of_lt (yc Bb1.lt) Gb18;have Db1_b18 := Db18_b1.symm;have Gb18 : _ ≤ gb18 := Nat.le_trans E.size Gb18;have GLb18 := Nat.le_trans LW.size Gb18;replace Bb8 := Bb8.extN Eb18 NotIn.nil;replace Bb1 := Bb1.extN Eb18 NotIn.nil;replace E := E.trans Eb18.no;replace HF := HF.cons (ya Gb18);replace E := E.cons (some gb18)
 replace XLW := Mut.grow XLW (fun k e => Or.inr (Nat.le_trans LW.size ((ya Gb18) k e)));refine za rfl (qf od ?_);intro gb20 w21 Bb20 Eb20 Gb20;have Db20_b18 : Apart (some gb20) (some gb18) := Apart.of_lt (yc Bb18.lt) Gb20;have Db18_b20 := Db20_b18.symm;have Db20_b8 : Apart (some gb20) (some gb8) := Apart.of_lt (yc Bb8.lt) Gb20;have Db8_b20 := Db20_b8.symm
 have Db20_b1 : Apart (some gb20) (some gb1) := Apart.of_lt (yc Bb1.lt) Gb20;have Db1_b20 := Db20_b1.symm;have Gb20 : _ ≤ gb20 := Nat.le_trans E.size Gb20;have GLb20 := Nat.le_trans LW.size Gb20;replace Bb18 := Bb18.extN Eb20 NotIn.nil;replace Bb8 := Bb8.extN Eb20 NotIn.nil;replace Bb1 := Bb1.extN Eb20 NotIn.nil;replace E := E.trans Eb20.no;replace HF := HF.cons (ya Gb20)
 replace E := E.cons (some gb20);replace XLW := Mut.grow XLW (fun k e => Or.inr (Nat.le_trans LW.size ((ya Gb20) k e)));refine yp (ym ve rfl rfl Bb18 rfl rfl (Nat.le_of_ble_eq_true rfl) ?_);intro w22 Bx Eb18;replace Bb18 := Bx;replace Bb20 := Bb20.extN Eb18 (NotIn.cons Db20_b18 NotIn.nil);replace Bb8 := Bb8.extN Eb18 (NotIn.cons Db8_b18 NotIn.nil)
 replace Bb1 := Bb1.extN Eb18 (NotIn.cons Db1_b18 NotIn.nil);replace E := E.step1 Eb18 (Mut.tail Mut.head);replace HF := HF.on E;replace LW := LW.step E XLW;have SB : ∀ q9, Mut [(some gb20), (some gb8), (some gb1)] q9 → Mut [(some gb20), (some gb18), (some gb8), (some gb1)] q9 := (Mut.keep (Mut.skip (Mut.keep (Mut.keep Mut.nil_))));replace HF := HF.less SB;replace XLW := fun k h => XLW k (SB k h)
 clear SB;replace E := erx (Mut [(some gb20), (some gb8), (some gb1)]) w22;replace HF := HF.and (Per.blkN Bb18 (NotIn.cons Db18_b20 (NotIn.cons Db18_b8 (NotIn.cons Db18_b1 NotIn.nil))));refine yp (ym ve rfl rfl Bb20 rfl rfl (Nat.le_of_ble_eq_true rfl) ?_);intro w23 Bx Eb20;replace Bb20 := Bx;replace Bb8 := Bb8.extN Eb20 (NotIn.cons Db8_b20 NotIn.nil)
 replace Bb1 := Bb1.extN Eb20 (NotIn.cons Db1_b20 NotIn.nil);replace E := E.step1 Eb20 Mut.head;replace HF := HF.on E;replace LW := LW.step E XLW;have SB : ∀ q9, Mut [(some gb8), (some gb1)] q9 → Mut [(some gb20), (some gb8), (some gb1)] q9 := (Mut.skip (Mut.keep (Mut.keep Mut.nil_)));replace HF := HF.less SB;replace XLW := fun k h => XLW k (SB k h);clear SB
 replace E := erx (Mut [(some gb8), (some gb1)]) w23;replace HF := HF.and (Per.blkN Bb20 (NotIn.cons Db20_b8 (NotIn.cons Db20_b1 NotIn.nil)));refine anx rfl rfl (srx (za rfl (yw Tryz.underlying42 rfl ve rfl (HF.on E).here.1.2 rfl (yp (ym ve rfl rfl Bb1 rfl rfl (Nat.le_of_ble_eq_true rfl) ?_)))));intro w24 Bx Eb1;replace Bb1 := Bx
 replace Bb8 := Bb8.extN Eb1 (NotIn.cons Db8_b1 NotIn.nil);replace E := E.step1 Eb1 (Mut.tail Mut.head);replace HF := HF.on E;replace LW := LW.step E XLW;have SB : ∀ q9, Mut [(some gb8)] q9 → Mut [(some gb8), (some gb1)] q9 := (Mut.keep (Mut.skip Mut.nil_));replace HF := HF.less SB;replace XLW := fun k h => XLW k (SB k h);clear SB;replace E := erx (Mut [(some gb8)]) w24
 replace HF := HF.and (Per.blkN Bb1 (NotIn.cons Db1_b8 NotIn.nil));refine anx rfl rfl (zu (zt (rs := [.cell 2 42, .tmp 3]) (vs := [_, _]) rfl ⟨⟨_, rfl, gk Tryz.underlying42 rfl ve (HF.on E).here.2 rfl⟩, rfl, trivial⟩ ?_));exact ⟨A5, c5, rfl, ((HF.on E).here.1.1.1.2).mono hS, (LW.step E XLW).toBelow⟩
/-! ### a whole number that is not nought -/
theorem whole_num (h0 : qy a ≠ 0) : Calls Tryz.prog 19 #[.int .u64 ((a : Nat) : Int)] w (vh w (js a) 0) := by
 obtain ⟨q, hq1, hq2, hq3⟩ := yxx hf;have hqf : q < 9218868437227405312 := by omega
 have hq0 : q ≠ 0 := fun e => by
  subst e;rw [xt] at hq1;exact h0 (pos_zero (jr 1074) hq1)
 obtain ⟨r1, r2, r3⟩ := gi (ng a) q (by omega);obtain ⟨T, hT⟩ : ∃ T, T = Ieee.double.word (ng a) q := ⟨_, rfl⟩;have hT1 : rg T = q := by rw [hT, r1]
 have hT2 : ng T = ng a := by rw [hT, r2]
 obtain ⟨F, hF⟩ : ∃ F, F = frF T := ⟨_, rfl⟩;have hmn := mg_nr hq0;have hFp : rg F = 4602678819172646912 + (mg (nr q) - 4503599627370496) ∧ ng F = ng a ∧ F < 18446744073709551616 := by
  rw [hF, frF, hT1, hT2];exact gi _ _ (by omega)
 obtain ⟨fq1, fq2⟩ := fullQ (r := q) hq0;have hFv : vl (rg F) = mg (nr q) * 2 ^ 1021 := by
  rw [hFp.1, ← frF_pos hqf];exact (frF_parts hqf hq0).2.2
 have fq3 : vl (1074 * 4503599627370496 + mg (nr q)) = vl (rg F) * 2 ^ 53 := by rewrite [fq1, hFv]; exact pow_split (p := 1074) (q := 1021) (s := 53) (by decide) _
 obtain ⟨M, hMd⟩ : ∃ M, M = mg (nr q) := ⟨_, rfl⟩;obtain ⟨m0, hm0⟩ : ∃ m0 : Int, m0 = if ng a then -((M : Nat) : Int) else ((M : Nat) : Int) := ⟨_, rfl⟩
 have fw := gi (ng F) (1074 * 4503599627370496 + mg (nr q)) (by omega);have hwM : qy (Ieee.double.word (ng F) (1074 * 4503599627370496 + mg (nr q))) = M := by rw [hMd]; exact ytq (ng F) fq2 fq1
 have hfz : floatToIntVal .f64 (Ieee.double.word (ng F) (1074 * 4503599627370496 + mg (nr q))) .i64 = some m0 := by
  rw [f2i_i64 (by rw [fw.1]; exact fq2) (by rw [hwM]; omega), hwM, fw.2.1, hFp.2.1, hm0]
 have hE : frE T = ((ex (nr q) : Nat) : Int) - 1021 - ((nd q : Nat) : Int) := by
  have := frE_pos hqf;rw [← this];unfold frE;rw [hT1, (rg_self (r := q) (by omega)).1]
 have hval := nr_value hq0;rw [hq1] at hval;have hxn : ex (nr q) ≤ 2045 := by have := yiz hq0 hqf; unfold ex; split <;> omega
 have hnd : nd q ≤ 52 := by unfold nd; split <;> omega
 refine zp Tryz.func19 rfl Tryz.ntmps19 rfl ?_;have HF : Per (No) w (fun _ => True) := Per.true_;have LW := erx (No) w;have XLW := grx (No) w;have E := erx (No) w;refine srx (za rfl (qf od ?_));intro gb1 w2 Bb1 Eb1 Gb1;have Gb1 : _ ≤ gb1 := Nat.le_trans E.size Gb1;have GLb1 := Nat.le_trans LW.size Gb1;replace E := E.trans Eb1.no;replace HF := HF.cons (ya Gb1)
 replace E := E.cons (some gb1);replace XLW := Mut.grow XLW (fun k e => Or.inr (Nat.le_trans LW.size ((ya Gb1) k e)))
 refine anx rfl rfl (srx (mvx rfl rfl (za rfl (qh (b := a) yax rfl (anx rfl rfl (zb (zr (srx (mvx rfl rfl (mvx rfl rfl (za rfl (xf rfl rfl (anx rfl rfl (yf 18 (.bool false) rfl ((by rw [zck, yjk hf] : (.bool (vv a a != some .eq) : Value) = _)) (zl rfl (srx (mvx rfl rfl (za rfl (zg en49 rfl ((xj _ a ha).mono ?_))))))))))))))))))))
 rintro e w3 ⟨rfl, hb⟩;refine ⟨_, rfl, ?_⟩;have Ec := Ext.of_below hb No;replace Bb1 := Bb1.extN Ec NotIn.nil;replace E := E.trans Ec.no
 refine zz 25 (.bool false) rfl ((by rw [decide_eq_false (by omega)] : (.bool (decide (rg a = 9218868437227405312)) : Value) = _)) (anx rfl rfl (zl rfl (zf (zj (zd (srx (mvx rfl rfl (za rfl (zg en60 rfl ((trunc_num _ a hf).mono ?_))))))))));rintro e w4 ⟨rfl, hb⟩;refine ⟨_, rfl, ?_⟩;have Ec := Ext.of_below hb No;replace Bb1 := Bb1.extN Ec NotIn.nil
 replace E := E.trans Ec.no;refine zz 29 (.float .f64 (Ieee.double.word (ng a) q)) rfl ((by rw [hq3] : (.float .f64 (zeq .zero a) : Value) = _)) (zz 29 (.float .f64 T) rfl ((by rw [hT] : (.float .f64 (Ieee.double.word (ng a) q) : Value) = _)) (za rfl (zg en59 rfl ((Frexp_num _ T (by rw [hT]; exact r3) (by rw [hT1]; exact hq0) (by rw [hT1]; exact hqf)).mono ?_))))
 rintro e w5 ⟨rfl, hb⟩;refine ⟨_, rfl, ?_⟩;have Ec := Ext.of_below hb No;replace Bb1 := Bb1.extN Ec NotIn.nil;replace E := E.trans Ec.no
 refine zz 30 (.tuple #[.float .f64 F, .int .i64 (frE T)]) rfl ((by rw [hF] : (.tuple #[.float .f64 (frF T), .int .i64 (frE T)] : Value) = _)) (mvx rfl rfl (za rfl (zn rfl rfl (za rfl (zn rfl rfl (avx rfl rfl (anx rfl rfl (srx (mvx rfl rfl (za rfl (zg en62 rfl ((Ldexp_num _ F hFp.2.2 (by rw [hFp.1]; omega) (by rw [hFp.1]; omega) 53 (1074 * 4503599627370496 + mg (nr q)) (by decide) fq2 fq3).mono ?_))))))))))))
 rintro e w6 ⟨rfl, hb⟩;refine ⟨_, rfl, ?_⟩;have Ec := Ext.of_below hb No;replace Bb1 := Bb1.extN Ec NotIn.nil;replace E := E.trans Ec.no;refine za rfl (ow_f2i (z := m0) Tryz.underlying3 (by rw [Tryz.underlying78]; rfl) rfl hfz (za rfl (zg en61 rfl ((znz m0 _ (by rw [hm0]; split <;> omega) (by rw [hm0]; split <;> omega)).mono ?_))));rintro e w7 ⟨A1, c1, rfl, o1, hb⟩
 refine ⟨_, rfl, ?_⟩;have XC : ∀ q9, (Mut [(some gb1)]) q9 → q9 < w6.heap.size := (Mut.grow Mut.none_ (yc Bb1.lt));have Ec := Ext.of_below hb No;replace Bb1 := Bb1.extN Ec NotIn.nil;replace E := E.trans Ec.no;replace HF := HF.on E;replace LW := LW.step E XLW;replace E := erx (Mut [(some gb1)]) w7;replace HF := HF.and (Per.own o1 XC);refine za rfl (qf od ?_)
 intro gb8 w9 Bb8 Eb8 Gb8;have Db8_b1 : Apart (some gb8) (some gb1) := Apart.of_lt (yc Bb1.lt) Gb8;have Db1_b8 := Db8_b1.symm;have Gb8 : _ ≤ gb8 := Nat.le_trans E.size Gb8;have GLb8 := Nat.le_trans LW.size Gb8;replace Bb1 := Bb1.extN Eb8 NotIn.nil;replace E := E.trans Eb8.no;replace HF := HF.cons (ya Gb8);replace E := E.cons (some gb8)
 replace XLW := Mut.grow XLW (fun k e => Or.inr (Nat.le_trans LW.size ((ya Gb8) k e)));refine yp (ym ve rfl rfl Bb8 rfl rfl (Nat.le_of_ble_eq_true rfl) ?_);intro w10 Bx Eb8;replace Bb8 := Bx;replace Bb1 := Bb1.extN Eb8 (NotIn.cons Db1_b8 NotIn.nil);replace E := E.step1 Eb8 Mut.head;refine rnx (srx (za rfl (zg en61 rfl ((znz 2 _ (by decide) (by decide)).mono ?_))))
 rintro e w11 ⟨A2, c2, rfl, o2, hb⟩;refine ⟨_, rfl, ?_⟩;have XC : ∀ q9, (Mut [(some gb8), (some gb1)]) q9 → q9 < w10.heap.size := (Mut.grow (Mut.grow Mut.none_ (yc Bb1.lt)) (yc Bb8.lt));have Ec := Ext.of_below hb No;replace Bb8 := Bb8.extN Ec NotIn.nil;replace Bb1 := Bb1.extN Ec NotIn.nil;replace E := E.trans Ec.no;replace HF := HF.on E;replace LW := LW.step E XLW
 replace E := erx (Mut [(some gb8), (some gb1)]) w11;replace HF := HF.and (Per.own o2 XC);refine za rfl (qf od ?_);intro gb12 w13 Bb12 Eb12 Gb12;have Db12_b8 : Apart (some gb12) (some gb8) := Apart.of_lt (yc Bb8.lt) Gb12;have Db8_b12 := Db12_b8.symm;have Db12_b1 : Apart (some gb12) (some gb1) := Apart.of_lt (yc Bb1.lt) Gb12;have Db1_b12 := Db12_b1.symm
 have Gb12 : _ ≤ gb12 := Nat.le_trans E.size Gb12;have GLb12 := Nat.le_trans LW.size Gb12;replace Bb8 := Bb8.extN Eb12 NotIn.nil;replace Bb1 := Bb1.extN Eb12 NotIn.nil;replace E := E.trans Eb12.no;replace HF := HF.cons (ya Gb12);replace E := E.cons (some gb12);replace XLW := Mut.grow XLW (fun k e => Or.inr (Nat.le_trans LW.size ((ya Gb12) k e)))
 refine yp (ym ve rfl rfl Bb12 rfl rfl (Nat.le_of_ble_eq_true rfl) ?_);intro w14 Bx Eb12;replace Bb12 := Bx;replace Bb8 := Bb8.extN Eb12 (NotIn.cons Db8_b12 NotIn.nil);replace Bb1 := Bb1.extN Eb12 (NotIn.cons Db1_b12 NotIn.nil);replace E := E.step1 Eb12 Mut.head;replace HF := HF.on E;replace LW := LW.step E XLW
 have SB : ∀ q9, Mut [(some gb8), (some gb1)] q9 → Mut [(some gb12), (some gb8), (some gb1)] q9 := (Mut.skip (Mut.keep (Mut.keep Mut.nil_)));replace HF := HF.less SB;replace XLW := fun k h => XLW k (SB k h);clear SB;replace E := erx (Mut [(some gb8), (some gb1)]) w14;replace HF := HF.and (Per.blkN Bb12 (NotIn.cons Db12_b8 (NotIn.cons Db12_b1 NotIn.nil)))
 refine rnx (zb (srx (mvx rfl rfl (za rfl (ye rfl rfl (zo (by omega)) (anx rfl rfl (srx (mvx rfl rfl (za rfl (va rfl rfl (rnx (yf 41 (.bool (decide (1074 + nd q ≤ ex (nr q)))) rfl (gh (by rw [hE]; omega)) (yh rfl (fun hc => ?_) (fun hc => ?_))))))))))))))
 ·
  have hc := of_decide_eq_true hc;obtain ⟨k, hk⟩ : ∃ k, k = ex (nr q) - (1074 + nd q) := ⟨_, rfl⟩;have hW : qy a = M * 2 ^ k := val_hi hval hc hk hMd;have hprod : m0 * (2 : Int) ^ k = js a := by
   rw [js, hW, hm0];split
   · rw [Int.neg_mul, Int.natCast_mul, Int.natCast_pow]; rfl
   · rw [Int.natCast_mul, Int.natCast_pow]; rfl
  have hwl := zjq hf;refine yf 6 (.int .i64 ((k : Nat) : Int)) rfl ((by rw [hE]; congr 1; omega : (.int .i64 ((frE T) - 53) : Value) = _)) (zb ?_);have OY : ∀ q9, (Mut (kt [])) q9 → q9 < (World.drew w14).heap.size → (Mut [(some gb8), (some gb1)]) q9 := fun k h _ => (Mut.none_) k h
  refine vf (Mut [(some gb8), (some gb1)]) (Mut.grow (Mut.grow Mut.none_ (yc Bb1.lt)) (yc Bb8.lt)) [⟨7, 8, 42, #[.bool false, .slice none 0 0]⟩] [] (xz [Fx.of (.agg #[.bool (decide ((2 : Int) < 0)), .slice A2 (limbs 2).length c2]),
   Fx.of (.int .i64 ((k : Nat) : Int)),
   ⟨(Option Addr × Nat), fun (A3, c3) => .agg #[.bool (decide (((k : Nat) : Int) < 0)), .slice A3 (limbs ((k : Nat) : Int)).length c3], fun (A3, c3) b => (Nums b A3 (limbs ((k : Nat) : Int)))⟩,
   ⟨(Option Addr × Nat), fun (A4, c4) => .tuple #[.agg #[.bool (decide ((2 : Int) ^ k < 0)), .slice A4 (limbs ((2 : Int) ^ k)).length c4], .int .i64 0], fun (A4, c4) b => (Nums b A4 (limbs ((2 : Int) ^ k)))⟩,
   ⟨(Option Addr × Nat), fun (A4, c4) => .tuple #[.agg #[.bool (decide ((2 : Int) ^ k < 0)), .slice A4 (limbs ((2 : Int) ^ k)).length c4], .int .i64 0], fun (A4, c4) b => (Nums b A4 (limbs ((2 : Int) ^ k)))⟩,
   ⟨(Option Addr × Nat), fun (A4, c4) => .agg #[.bool (decide ((2 : Int) ^ k < 0)), .slice A4 (limbs ((2 : Int) ^ k)).length c4], fun (A4, c4) b => (Nums b A4 (limbs ((2 : Int) ^ k)))⟩,
   Fx.of (.int .i64 0),
   Fx.of undef,
   Fx.of undef,
   Fx.of (.int .i64 0)]) mixed rfl trivial (fun _ h => by cases h) ?_ ?_
  · refine ⟨?_, ?_, ?_, ?_, ?_, ?_, ?_, ?_, ?_, ?_, trivial⟩
    · intro vs X wq K;have LE := K.1;exact yw Tryz.underlying42 rfl ve rfl (HF.on (E.drew.trans (LE.mono OY))).here.2 rfl ⟨Below.refl _ _, Left.of rfl⟩
    · intro vs X wq K;exact zk rfl ⟨Below.refl _ _, Left.of rfl⟩
    · intro vs X wq K;have XN := K.2.1;obtain ⟨_, e1, k1⟩ := K.dep 1 rfl rfl rfl;refine zh 44 (.int .i64 ((k : Nat) : Int)) rfl e1 (zg en61 rfl ((znz ((k : Nat) : Int) _ (by omega) (by omega)).mono ?_));rintro e w2 ⟨A3, c3, rfl, o3, hb⟩;exact ⟨_, rfl, hb, ⟨(A3, c3), rfl, Per.own o3 XN⟩⟩
    · intro vs X wq K;have LE := K.1;have XN := K.2.1;obtain ⟨_, e0, k0⟩ := K.dep 0 rfl rfl rfl;refine zh 43 (.agg #[.bool (decide ((2 : Int) < 0)), .slice A2 (limbs 2).length c2]) rfl e0 ?_;obtain ⟨⟨A3, c3⟩, e2, k2⟩ := K.dep 2 rfl rfl rfl
      refine zh 45 (.agg #[.bool (decide (((k : Nat) : Int) < 0)), .slice A3 (limbs ((k : Nat) : Int)).length c3]) rfl e2 (zg en63 rfl ((two_pow k A2 A3 c2 c3 _ (by omega) (HF.on (E.drew.trans (LE.mono OY))).here.1.2 k2.here).mono ?_));rintro e w2 ⟨A4, c4, rfl, o4, hb⟩;exact ⟨_, rfl, hb, ⟨(A4, c4), rfl, Per.own o4 XN⟩⟩
    · intro vs X wq K;obtain ⟨⟨A4, c4⟩, e3, k3⟩ := K.dep 3 rfl rfl rfl;refine zh 46 (.tuple #[.agg #[.bool (decide ((2 : Int) ^ k < 0)), .slice A4 (limbs ((2 : Int) ^ k)).length c4], .int .i64 0]) rfl e3 ?_;exact zk rfl ⟨Below.refl _ _, ⟨⟨A4, c4⟩, rfl, (k3.map (fun _ h => h))⟩⟩
    · intro vs X wq K;obtain ⟨⟨A4, c4⟩, e4, k4⟩ := K.dep 4 rfl rfl rfl;refine zh 42 (.tuple #[.agg #[.bool (decide ((2 : Int) ^ k < 0)), .slice A4 (limbs ((2 : Int) ^ k)).length c4], .int .i64 0]) rfl e4 ?_;exact zn rfl rfl ⟨Below.refl _ _, ⟨⟨A4, c4⟩, rfl, (k4.map (fun _ h => h))⟩⟩
    · intro vs X wq K;obtain ⟨⟨A4, c4⟩, e4, k4⟩ := K.dep 4 rfl rfl rfl;refine zh 42 (.tuple #[.agg #[.bool (decide ((2 : Int) ^ k < 0)), .slice A4 (limbs ((2 : Int) ^ k)).length c4], .int .i64 0]) rfl e4 ?_;exact zn rfl rfl ⟨Below.refl _ _, Left.of rfl⟩
    · exact ⟨_, _, _, _, _, rfl, od, rfl⟩
    · refine ⟨_, _, _, _, _, rfl, rfl, rfl, ve, fun vs X wq K => ?_⟩;obtain ⟨⟨A4, c4⟩, e0, _⟩ := K.dep 5 rfl rfl rfl;exact ⟨vs 5, rfl, by rw [e0]; rfl, by rw [e0]; rfl⟩
    · intro vs X wq K;obtain ⟨_, e6, k6⟩ := K.dep 6 rfl rfl rfl;refine zh 48 (.int .i64 0) rfl e6 ?_;exact vp rfl ⟨Below.refl _ _, Left.of rfl⟩
  intro vs w15 LE AO AL AF AA;have LBb8 := Bb8;have LBb1 := Bb1;replace Bb8 := Bb8.drew.extN LE NotIn.nil;replace Bb1 := Bb1.drew.extN LE NotIn.nil;replace E := E.drew.trans (LE.mono OY);obtain ⟨⟨A4, c4⟩, e5, k5⟩ := AL.2.2.2.2.2.1;replace HF := HF.on E;replace LW := LW.step E XLW;replace E := erx (Mut [(some gb8), (some gb1)]) w15
  replace HF := HF.and ((k5.map (fun _ h => h) : Per (Mut [(some gb8), (some gb1)]) w15 (fun b => Nums b A4 (limbs ((2 : Int) ^ k)))));obtain ⟨gb16, v0, y0, qb16, Gb16, Bb16, ey, ev0⟩ := AF.1;cases ey
  obtain rfl : vs 5 = v0 := Option.some.inj ev0;rw [e5] at Bb16;have Db16_b8 : Apart (some gb16) (some gb8) := Apart.of_lt (yc LBb8.lt) Gb16;have Db8_b16 := Db16_b8.symm;have Db16_b1 : Apart (some gb16) (some gb1) := Apart.of_lt (yc LBb1.lt) Gb16;have Db1_b16 := Db16_b1.symm;replace HF := HF.on E;replace LW := LW.step E XLW;replace E := erx (Mut [(some gb8), (some gb1)]) w15
  replace HF := HF.and ((Per.blkN Bb16 (NotIn.cons Db16_b8 (NotIn.cons Db16_b1 NotIn.nil)) : Per (Mut [(some gb8), (some gb1)]) w15 (fun b => Blk b gb16 42 #[.bool (decide ((2 : Int) ^ k < 0)), .slice A4 (limbs ((2 : Int) ^ k)).length c4])));have e7 := qb16
  refine jh (τ := [(2, _), (3, _), (6, _), (7, _), (8, _), (9, .pointer (some ⟨gb16, 0, none⟩))]) ⟨rfl, rfl, rfl, rfl, rfl, congrArg some e7, trivial⟩ ?_;clear AL AF AA LE AO OY e5 e7 k5 LBb8 LBb1
  have hmul : ∀ (A B : Option Addr) (c d : Nat) (w : World), Nums w A (limbs m0) → Nums w B (limbs ((2 : Int) ^ k)) → Calls Tryz.prog 64 #[.agg #[.bool (decide (m0 < 0)), .slice A (limbs m0).length c], .agg #[.bool (decide ((2 : Int) ^ k < 0)), .slice B (limbs ((2 : Int) ^ k)).length d]] w (vh w (js a) 0) := by
   intro A B c d w hx hy;have h := mulI A B c d w (zwq (by rw [hm0]; split <;> omega)) (two_30 (by omega)) hx hy;rw [hprod, zxv hwl, zyx hwl] at h;exact h
  refine zd (srx (za rfl (yw Tryz.underlying42 rfl ve rfl Bb8 rfl (za rfl (yw Tryz.underlying42 rfl ve rfl (HF.on E).here.2 rfl (za rfl (zg en64 rfl ((hmul A1 A4 c1 c4 _ (HF.on E).here.1.1.1.1.2 (HF.on E).here.1.2).mono ?_))))))));rintro e w17 ⟨A5, c5, rfl, o5, hb⟩;refine ⟨_, rfl, ?_⟩
  have XC : ∀ q9, (Mut [(some gb8), (some gb1)]) q9 → q9 < w15.heap.size := (Mut.grow (Mut.grow Mut.none_ (yc Bb1.lt)) (yc Bb8.lt));have SC := Nat.le_trans LW.size E.size;have Ec := Ext.of_below hb No;replace Bb8 := Bb8.extN Ec NotIn.nil;replace Bb1 := Bb1.extN Ec NotIn.nil;replace E := E.trans Ec.no;have hS := SC;replace HF := HF.on E;replace LW := LW.step E XLW
  replace E := erx (Mut [(some gb8), (some gb1)]) w17;replace HF := HF.and (Per.ownX o5 XC);refine mvx rfl rfl (za rfl (zn rfl rfl (za rfl (zn rfl rfl (yp (ym ve rfl rfl Bb8 rfl rfl (Nat.le_of_ble_eq_true rfl) ?_))))));intro w18 Bx Eb8;replace Bb8 := Bx;replace Bb1 := Bb1.extN Eb8 (NotIn.cons Db1_b8 NotIn.nil);replace E := E.step1 Eb8 Mut.head
  replace HF := HF.on E;replace LW := LW.step E XLW;have SB : ∀ q9, Mut [(some gb1)] q9 → Mut [(some gb8), (some gb1)] q9 := (Mut.skip (Mut.keep Mut.nil_));replace HF := HF.less SB;replace XLW := fun k h => XLW k (SB k h);clear SB;replace E := erx (Mut [(some gb1)]) w18;replace HF := HF.and (Per.blkN Bb8 (NotIn.cons Db8_b1 NotIn.nil))
  refine rnx (srx (za rfl (yw Tryz.underlying42 rfl ve rfl (HF.on E).here.2 rfl (yp (ym ve rfl rfl Bb1 rfl rfl (Nat.le_of_ble_eq_true rfl) ?_)))));intro w19 Bx Eb1;replace Bb1 := Bx;replace E := E.step1 Eb1 Mut.head
  refine anx rfl rfl (zu (zq (zt (rs := [.cell 2 42, .tmp 3]) (vs := [_, _]) rfl ⟨⟨_, rfl, gk Tryz.underlying42 rfl ve Bb1 rfl⟩, rfl, trivial⟩ ?_)));exact ⟨A5, c5, rfl, ((HF.on E).here.1.2).mono hS, (LW.step E XLW).toBelow⟩
 ·
  have hc := of_decide_eq_false hc;obtain ⟨k, hk⟩ : ∃ k, k = 1074 + nd q - ex (nr q) := ⟨_, rfl⟩;have hM : M = qy a * 2 ^ k := val_lo hval (by omega) hk hMd;have hk52 : k ≤ 52 := by
   rcases Nat.lt_or_ge 52 k with h | h
   · exfalso
     have h1 : 2 ^ 53 ≤ 2 ^ k := Nat.pow_le_pow_right (by decide) (by omega);have h2 : 1 * 2 ^ k ≤ qy a * 2 ^ k := Nat.mul_le_mul_right _ (by omega);omega
   · exact h
  refine zf (zd (zb (srx (mvx rfl rfl (za rfl (yo rfl rfl (rnx (yf 57 (.bool false) rfl ((by rw [hE, decide_eq_false (by omega)] : (.bool (decide (((frE T) - 53) < (-60))) : Value) = _)) (zl rfl (zf (zd (zb ?_))))))))))))
  have OY : ∀ q9, (Mut (kt [])) q9 → q9 < (World.drew w14).heap.size → (Mut [(some gb8), (some gb1)]) q9 := fun k h _ => (Mut.none_) k h;refine vf (Mut [(some gb8), (some gb1)]) (Mut.grow (Mut.grow Mut.none_ (yc Bb1.lt)) (yc Bb8.lt)) [⟨8, 9, 42, #[.bool false, .slice none 0 0]⟩] [] (xz [Fx.of (.agg #[.bool (decide ((2 : Int) < 0)), .slice A2 (limbs 2).length c2]),
   Fx.of (.int .i64 ((frE T) - 53)),
   Fx.of (.int .i64 ((k : Nat) : Int)),
   ⟨(Option Addr × Nat), fun (A3, c3) => .agg #[.bool (decide (((k : Nat) : Int) < 0)), .slice A3 (limbs ((k : Nat) : Int)).length c3], fun (A3, c3) b => (Nums b A3 (limbs ((k : Nat) : Int)))⟩,
   ⟨(Option Addr × Nat), fun (A4, c4) => .tuple #[.agg #[.bool (decide ((2 : Int) ^ k < 0)), .slice A4 (limbs ((2 : Int) ^ k)).length c4], .int .i64 0], fun (A4, c4) b => (Nums b A4 (limbs ((2 : Int) ^ k)))⟩,
   ⟨(Option Addr × Nat), fun (A4, c4) => .tuple #[.agg #[.bool (decide ((2 : Int) ^ k < 0)), .slice A4 (limbs ((2 : Int) ^ k)).length c4], .int .i64 0], fun (A4, c4) b => (Nums b A4 (limbs ((2 : Int) ^ k)))⟩,
   ⟨(Option Addr × Nat), fun (A4, c4) => .agg #[.bool (decide ((2 : Int) ^ k < 0)), .slice A4 (limbs ((2 : Int) ^ k)).length c4], fun (A4, c4) b => (Nums b A4 (limbs ((2 : Int) ^ k)))⟩,
   Fx.of (.int .i64 0),
   Fx.of undef,
   Fx.of undef,
   Fx.of (.int .i64 0)]) mixed rfl trivial (fun _ h => by cases h) ?_ ?_
  · refine ⟨?_, ?_, ?_, ?_, ?_, ?_, ?_, ?_, ?_, ?_, ?_, trivial⟩
    · intro vs X wq K;have LE := K.1;exact yw Tryz.underlying42 rfl ve rfl (HF.on (E.drew.trans (LE.mono OY))).here.2 rfl ⟨Below.refl _ _, Left.of rfl⟩
    · intro vs X wq K;exact zk rfl ⟨Below.refl _ _, Left.of rfl⟩
    · intro vs X wq K;obtain ⟨_, e1, k1⟩ := K.dep 1 rfl rfl rfl;refine zh 61 (.int .i64 ((frE T) - 53)) rfl e1 ?_;exact xx rfl (zo (by omega)) ⟨Below.refl _ _, Left.of ((by rw [hE, hk]; congr 1; omega : (.int .i64 (0 - ((frE T) - 53)) : Value) = _))⟩
    · intro vs X wq K;have XN := K.2.1;obtain ⟨_, e2, k2⟩ := K.dep 2 rfl rfl rfl;refine zh 62 (.int .i64 ((k : Nat) : Int)) rfl e2 (zg en61 rfl ((znz ((k : Nat) : Int) _ (by omega) (by omega)).mono ?_));rintro e w2 ⟨A3, c3, rfl, o3, hb⟩;exact ⟨_, rfl, hb, ⟨(A3, c3), rfl, Per.own o3 XN⟩⟩
    · intro vs X wq K;have LE := K.1;have XN := K.2.1;obtain ⟨_, e0, k0⟩ := K.dep 0 rfl rfl rfl;refine zh 60 (.agg #[.bool (decide ((2 : Int) < 0)), .slice A2 (limbs 2).length c2]) rfl e0 ?_;obtain ⟨⟨A3, c3⟩, e3, k3⟩ := K.dep 3 rfl rfl rfl
      refine zh 63 (.agg #[.bool (decide (((k : Nat) : Int) < 0)), .slice A3 (limbs ((k : Nat) : Int)).length c3]) rfl e3 (zg en63 rfl ((two_pow k A2 A3 c2 c3 _ (by omega) (HF.on (E.drew.trans (LE.mono OY))).here.1.2 k3.here).mono ?_));rintro e w2 ⟨A4, c4, rfl, o4, hb⟩;exact ⟨_, rfl, hb, ⟨(A4, c4), rfl, Per.own o4 XN⟩⟩
    · intro vs X wq K;obtain ⟨⟨A4, c4⟩, e4, k4⟩ := K.dep 4 rfl rfl rfl;refine zh 64 (.tuple #[.agg #[.bool (decide ((2 : Int) ^ k < 0)), .slice A4 (limbs ((2 : Int) ^ k)).length c4], .int .i64 0]) rfl e4 ?_;exact zk rfl ⟨Below.refl _ _, ⟨⟨A4, c4⟩, rfl, (k4.map (fun _ h => h))⟩⟩
    · intro vs X wq K;obtain ⟨⟨A4, c4⟩, e5, k5⟩ := K.dep 5 rfl rfl rfl;refine zh 59 (.tuple #[.agg #[.bool (decide ((2 : Int) ^ k < 0)), .slice A4 (limbs ((2 : Int) ^ k)).length c4], .int .i64 0]) rfl e5 ?_;exact zn rfl rfl ⟨Below.refl _ _, ⟨⟨A4, c4⟩, rfl, (k5.map (fun _ h => h))⟩⟩
    · intro vs X wq K;obtain ⟨⟨A4, c4⟩, e5, k5⟩ := K.dep 5 rfl rfl rfl;refine zh 59 (.tuple #[.agg #[.bool (decide ((2 : Int) ^ k < 0)), .slice A4 (limbs ((2 : Int) ^ k)).length c4], .int .i64 0]) rfl e5 ?_;exact zn rfl rfl ⟨Below.refl _ _, Left.of rfl⟩
    · exact ⟨_, _, _, _, _, rfl, od, rfl⟩
    · refine ⟨_, _, _, _, _, rfl, rfl, rfl, ve, fun vs X wq K => ?_⟩;obtain ⟨⟨A4, c4⟩, e0, _⟩ := K.dep 6 rfl rfl rfl;exact ⟨vs 6, rfl, by rw [e0]; rfl, by rw [e0]; rfl⟩
    · intro vs X wq K;obtain ⟨_, e7, k7⟩ := K.dep 7 rfl rfl rfl;refine zh 66 (.int .i64 0) rfl e7 ?_;exact vp rfl ⟨Below.refl _ _, Left.of rfl⟩
  intro vs w20 LE AO AL AF AA;have LBb8 := Bb8;have LBb1 := Bb1;replace Bb8 := Bb8.drew.extN LE NotIn.nil;replace Bb1 := Bb1.drew.extN LE NotIn.nil;replace E := E.drew.trans (LE.mono OY);obtain ⟨⟨A4, c4⟩, e6, k6⟩ := AL.2.2.2.2.2.2.1;replace HF := HF.on E;replace LW := LW.step E XLW;replace E := erx (Mut [(some gb8), (some gb1)]) w20
  replace HF := HF.and ((k6.map (fun _ h => h) : Per (Mut [(some gb8), (some gb1)]) w20 (fun b => Nums b A4 (limbs ((2 : Int) ^ k)))));obtain ⟨gb21, v0, y0, qb21, Gb21, Bb21, ey, ev0⟩ := AF.1;cases ey
  obtain rfl : vs 6 = v0 := Option.some.inj ev0;rw [e6] at Bb21;have Db21_b8 : Apart (some gb21) (some gb8) := Apart.of_lt (yc LBb8.lt) Gb21;have Db8_b21 := Db21_b8.symm;have Db21_b1 : Apart (some gb21) (some gb1) := Apart.of_lt (yc LBb1.lt) Gb21;have Db1_b21 := Db21_b1.symm;replace HF := HF.on E;replace LW := LW.step E XLW;replace E := erx (Mut [(some gb8), (some gb1)]) w20
  replace HF := HF.and ((Per.blkN Bb21 (NotIn.cons Db21_b8 (NotIn.cons Db21_b1 NotIn.nil)) : Per (Mut [(some gb8), (some gb1)]) w20 (fun b => Blk b gb21 42 #[.bool (decide ((2 : Int) ^ k < 0)), .slice A4 (limbs ((2 : Int) ^ k)).length c4])));have e8 := qb21;refine jh (τ := [(2, _), (3, _), (7, _), (11, .pointer (some ⟨gb21, 0, none⟩))]) ⟨rfl, rfl, rfl, congrArg some e8, trivial⟩ ?_
  clear AL AF AA LE AO OY e6 e8 k6 LBb8 LBb1;refine zd (srx (za rfl (yw Tryz.underlying42 rfl ve rfl Bb8 rfl (za rfl (yw Tryz.underlying42 rfl ve rfl (HF.on E).here.2 rfl (za rfl (zg en65 rfl ((div_two hM hm0 (by omega) (by omega) A1 A4 c1 c4 _ (HF.on E).here.1.1.1.1.2 (HF.on E).here.1.2).mono ?_))))))));rintro e w22 ⟨A5, c5, B6, c6, r, rfl, o5, hb⟩
  refine ⟨_, rfl, ?_⟩;have XC : ∀ q9, (Mut [(some gb8), (some gb1)]) q9 → q9 < w20.heap.size := (Mut.grow (Mut.grow Mut.none_ (yc Bb1.lt)) (yc Bb8.lt));have SC := Nat.le_trans LW.size E.size;have Ec := Ext.of_below hb No;replace Bb8 := Bb8.extN Ec NotIn.nil;replace Bb1 := Bb1.extN Ec NotIn.nil;replace E := E.trans Ec.no;have hS := SC;replace HF := HF.on E;replace LW := LW.step E XLW
  replace E := erx (Mut [(some gb8), (some gb1)]) w22;replace HF := HF.and (Per.ownX o5 XC);refine mvx rfl rfl (za rfl (zn rfl rfl (za rfl (zn rfl rfl (za rfl (zn rfl rfl (za rfl (qf od ?_))))))));intro gb23 w24 Bb23 Eb23 Gb23;have Db23_b8 : Apart (some gb23) (some gb8) := Apart.of_lt (yc Bb8.lt) Gb23;have Db8_b23 := Db23_b8.symm
  have Db23_b1 : Apart (some gb23) (some gb1) := Apart.of_lt (yc Bb1.lt) Gb23;have Db1_b23 := Db23_b1.symm;have Gb23 : _ ≤ gb23 := Nat.le_trans E.size Gb23;have GLb23 := Nat.le_trans LW.size Gb23;replace Bb8 := Bb8.extN Eb23 NotIn.nil;replace Bb1 := Bb1.extN Eb23 NotIn.nil;replace E := E.trans Eb23.no;replace HF := HF.cons (ya Gb23);replace E := E.cons (some gb23)
  replace XLW := Mut.grow XLW (fun k e => Or.inr (Nat.le_trans LW.size ((ya Gb23) k e)));refine za rfl (qf od ?_);intro gb25 w26 Bb25 Eb25 Gb25;have Db25_b23 : Apart (some gb25) (some gb23) := Apart.of_lt (yc Bb23.lt) Gb25;have Db23_b25 := Db25_b23.symm;have Db25_b8 : Apart (some gb25) (some gb8) := Apart.of_lt (yc Bb8.lt) Gb25;have Db8_b25 := Db25_b8.symm
  have Db25_b1 : Apart (some gb25) (some gb1) := Apart.of_lt (yc Bb1.lt) Gb25;have Db1_b25 := Db25_b1.symm;have Gb25 : _ ≤ gb25 := Nat.le_trans E.size Gb25;have GLb25 := Nat.le_trans LW.size Gb25;replace Bb23 := Bb23.extN Eb25 NotIn.nil;replace Bb8 := Bb8.extN Eb25 NotIn.nil;replace Bb1 := Bb1.extN Eb25 NotIn.nil;replace E := E.trans Eb25.no;replace HF := HF.cons (ya Gb25)
  replace E := E.cons (some gb25);replace XLW := Mut.grow XLW (fun k e => Or.inr (Nat.le_trans LW.size ((ya Gb25) k e)));refine yp (ym ve rfl rfl Bb23 rfl rfl (Nat.le_of_ble_eq_true rfl) ?_);intro w27 Bx Eb23;replace Bb23 := Bx;replace Bb25 := Bb25.extN Eb23 (NotIn.cons Db25_b23 NotIn.nil);replace Bb8 := Bb8.extN Eb23 (NotIn.cons Db8_b23 NotIn.nil)
  replace Bb1 := Bb1.extN Eb23 (NotIn.cons Db1_b23 NotIn.nil);replace E := E.step1 Eb23 (Mut.tail Mut.head);replace HF := HF.on E;replace LW := LW.step E XLW;have SB : ∀ q9, Mut [(some gb25), (some gb8), (some gb1)] q9 → Mut [(some gb25), (some gb23), (some gb8), (some gb1)] q9 := (Mut.keep (Mut.skip (Mut.keep (Mut.keep Mut.nil_))));replace HF := HF.less SB
  replace XLW := fun k h => XLW k (SB k h);clear SB;replace E := erx (Mut [(some gb25), (some gb8), (some gb1)]) w27;replace HF := HF.and (Per.blkN Bb23 (NotIn.cons Db23_b25 (NotIn.cons Db23_b8 (NotIn.cons Db23_b1 NotIn.nil))));refine yp (ym ve rfl rfl Bb25 rfl rfl (Nat.le_of_ble_eq_true rfl) ?_);intro w28 Bx Eb25;replace Bb25 := Bx
  replace Bb8 := Bb8.extN Eb25 (NotIn.cons Db8_b25 NotIn.nil);replace Bb1 := Bb1.extN Eb25 (NotIn.cons Db1_b25 NotIn.nil);replace E := E.step1 Eb25 Mut.head;replace HF := HF.on E;replace LW := LW.step E XLW;have SB : ∀ q9, Mut [(some gb8), (some gb1)] q9 → Mut [(some gb25), (some gb8), (some gb1)] q9 := (Mut.skip (Mut.keep (Mut.keep Mut.nil_)));replace HF := HF.less SB
  replace XLW := fun k h => XLW k (SB k h);clear SB;replace E := erx (Mut [(some gb8), (some gb1)]) w28;replace HF := HF.and (Per.blkN Bb25 (NotIn.cons Db25_b8 (NotIn.cons Db25_b1 NotIn.nil)));refine anx rfl rfl (srx (za rfl (yw Tryz.underlying42 rfl ve rfl (HF.on E).here.1.2 rfl (yp (ym ve rfl rfl Bb1 rfl rfl (Nat.le_of_ble_eq_true rfl) ?_)))));intro w29 Bx Eb1
  replace Bb1 := Bx;replace Bb8 := Bb8.extN Eb1 (NotIn.cons Db8_b1 NotIn.nil);replace E := E.step1 Eb1 (Mut.tail Mut.head);replace HF := HF.on E;replace LW := LW.step E XLW;have SB : ∀ q9, Mut [(some gb8)] q9 → Mut [(some gb8), (some gb1)] q9 := (Mut.keep (Mut.skip Mut.nil_));replace HF := HF.less SB;replace XLW := fun k h => XLW k (SB k h);clear SB;replace E := erx (Mut [(some gb8)]) w29
  replace HF := HF.and (Per.blkN Bb1 (NotIn.cons Db1_b8 NotIn.nil));refine anx rfl rfl (zu (zt (rs := [.cell 2 42, .tmp 3]) (vs := [_, _]) rfl ⟨⟨_, rfl, gk Tryz.underlying42 rfl ve (HF.on E).here.2 rfl⟩, rfl, trivial⟩ ?_));exact ⟨A5, c5, rfl, ((HF.on E).here.1.1.1.2).mono hS, (LW.step E XLW).toBelow⟩
theorem whole_fin : Calls Tryz.prog 19 #[.int .u64 ((a : Nat) : Int)] w (vh w (js a) 0) := by
 by_cases h0 : qy a = 0
 · exact whole_zero w a ha hf h0
 · exact whole_num w a ha hf h0
end
end
end Go.Proofs.YtjdcjdohghkcgaaGreatDoor

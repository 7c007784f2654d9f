/- Texts of this claim. -/
import Derived.Test.YtjdcjdohghkcgaaGreatDoorX17
namespace Go.Proofs.YtjdcjdohghkcgaaGreatDoor
open Go.RowKit
set_option maxRecDepth 100000
theorem zwk {z : Int} (h : z.natAbs < 9223372036854775809) : z.natAbs < B18 ^ 30 := Nat.lt_of_lt_of_le (Nat.lt_of_lt_of_le h (by decide)) (Nat.le_trans (two_mono2 (k := 64) (K := 1024) rfl rfl (by decide)) B18_30)
theorem two_natAbs (k : Nat) : ((2 : Int) ^ k).natAbs = 2 ^ k := by rw [Int.natAbs_pow]; rfl
theorem two_posI (k : Nat) : (0 : Int) < 2 ^ k := Int.pow_pos (by decide)
theorem two_neg (k : Nat) : decide ((2 : Int) ^ k < 0) = false := decide_eq_false (by have := two_posI k; omega)
theorem two_30 {k : Nat} (h : k ≤ 1023) : ((2 : Int) ^ k).natAbs < B18 ^ 30 := by
 rw [two_natAbs];exact Nat.lt_of_lt_of_le (Nat.pow_lt_pow_right (by decide) (show k < 1024 by omega)) B18_30
theorem two_pow (k : Nat) (A B : Option Addr) (c d : Nat) (w : World) (hk : k ≤ 1023) (hx : Nums w A (limbs 2)) (hy : Nums w B (limbs ((k : Nat) : Int))) :
 Calls Tryz.prog 63 #[.agg #[.bool (decide ((2 : Int) < 0)), .slice A (limbs 2).length c], .agg #[.bool (decide (((k : Nat) : Int) < 0)), .slice B (limbs ((k : Nat) : Int)).length d]] w (vo w ((2 : Int) ^ k) 0) := by
 rcases Nat.eq_zero_or_pos k with h0 | h0
 · have h := pow_zero 2 ((k : Nat) : Int) A B c d w (zwk (by decide)) (zwk (by omega)) hx hy (by omega);rw [h0] at h ⊢;exact h
 · have h := pow_l1 2 ((k : Nat) : Int) A B c d w (zwk (by decide)) (zwk (by omega)) hx hy (by omega) (by omega) (by decide) (by decide);rw [Int.toNat_natCast, zxk (two_30 hk), zxv (two_30 hk)] at h;exact h
theorem dq_whole {a M k : Nat} (hM : M = ve a * 2 ^ k) {n1 : Bool} {m0 : Int} (h0 : m0 = if ng a then -((M : Nat) : Int) else ((M : Nat) : Int)) (h1 : n1 = decide (m0 < 0)) : dq n1 false M (2 ^ k) = kb a := by
 have hp := kr k;have e1 : M / 2 ^ k = ve a := by rw [hM]; exact Nat.mul_div_cancel _ hp
 have e2 : M % 2 ^ k = 0 := by rw [hM]; exact Nat.mul_mod_left _ _
 unfold dq kb;rw [e1, e2, h1, h0];by_cases hz : ve a = 0
 · rw [hz] at hM ⊢;rw [Nat.zero_mul] at hM;subst hM;cases ng a <;> simp
 · have hMp : 0 < M := by rw [hM]; exact Nat.mul_pos (by omega) hp
   cases ng a with
   | true => simp only [if_true]; rw [decide_eq_true (by omega)]; rfl
   | false => simp only [Bool.false_eq_true, if_false]; rw [decide_eq_false (by omega)]; rfl
theorem pos_zero {x P : Nat} (hP : 0 < P) (h : 0 = x * P) : x = 0 := by
 rcases Nat.eq_zero_or_pos x with h' | h'
 · exact h'
 · have := Nat.mul_pos h' hP; omega
theorem val_gen_hi {m e W P n k M : Nat} (hP : P = 2 ^ 1074) (h : m * 2 ^ e = W * P * 2 ^ n) (hc : 1074 + n ≤ e) (hk : k = e - (1074 + n)) (hM : M = m) : W = M * 2 ^ k := by
 have h1 : P * 2 ^ n = 2 ^ (1074 + n) := by rw [hP, Nat.pow_add]
 rw [Nat.mul_assoc, h1, ywv hc] at h;rw [hM, hk];exact (Nat.eq_of_mul_eq_mul_right (kr _) h).symm
theorem val_gen_lo {m e W P n k M : Nat} (hP : P = 2 ^ 1074) (h : m * 2 ^ e = W * P * 2 ^ n) (hc : e ≤ 1074 + n) (hk : k = 1074 + n - e) (hM : M = m) : M = W * 2 ^ k := by
 have h1 : P * 2 ^ n = 2 ^ (1074 + n) := by rw [hP, Nat.pow_add]
 rw [Nat.mul_assoc, h1, ywv hc W] at h;rw [hM, hk];exact Nat.eq_of_mul_eq_mul_right (kr _) h
theorem val_hi {m e W n k M : Nat} (h : m * 2 ^ e = W * 2 ^ 1074 * 2 ^ n) (hc : 1074 + n ≤ e) (hk : k = e - (1074 + n)) (hM : M = m) : W = M * 2 ^ k := val_gen_hi rfl h hc hk hM
theorem val_lo {m e W n k M : Nat} (h : m * 2 ^ e = W * 2 ^ 1074 * 2 ^ n) (hc : e ≤ 1074 + n) (hk : k = 1074 + n - e) (hM : M = m) : M = W * 2 ^ k := val_gen_lo rfl h hc hk hM
theorem div_two {a M k : Nat} {m0 : Int} (hM : M = ve a * 2 ^ k) (h0 : m0 = if ng a then -((M : Nat) : Int) else ((M : Nat) : Int)) (hMb : M < 9223372036854775808) (hk : k ≤ 1023) (A B : Option Addr) (c d : Nat) (w : World) (hx : Nums w A (limbs m0)) (hy : Nums w B (limbs ((2 : Int) ^ k))) :
 Calls Tryz.prog 65 #[.agg #[.bool (decide (m0 < 0)), .slice A (limbs m0).length c], .agg #[.bool (decide ((2 : Int) ^ k < 0)), .slice B (limbs ((2 : Int) ^ k)).length d]] w fun e w' => ∃ A5 c5 B6 c6 r, e = .returned (.tuple #[.agg #[.bool (decide (kb a < 0)), .slice A5 (limbs (kb a)).length c5], .agg #[.bool (decide (r < 0)), .slice B6 (limbs r).length c6], .int .i64 0]) ∧ Own w' w.heap.size A5 c5 (limbs (kb a)) ∧ Below w.heap.size w w' := by
 have hma : m0.natAbs = M := by rw [h0]; split <;> omega
 have h := divmod_ok A B c d (limbs m0) (limbs ((2 : Int) ^ k)) w (decide (m0 < 0)) (decide ((2 : Int) ^ k < 0)) hx hy (xk (zwk (by omega))) (xk (two_30 hk)) (yiq (by have := two_posI k; omega));rw [vi m0, vi ((2 : Int) ^ k), kc vf, kc vf, ← vi, ← vi, hma, two_natAbs, two_neg, dq_whole hM h0 rfl] at h;rw [two_neg]
 exact h.mono fun e w' ⟨A5, c5, B6, c6, he, o1, o2, hb, _⟩ => ⟨A5, c5, B6, c6, _, he, o1, hb⟩
section
variable (w : World) (a : Nat) (ha : a < 18446744073709551616)
theorem ymq (hf : rg a < 9218868437227405312) : Calls Tryz.prog 60 #[.float .f64 a] w fun e w' => e = .returned (.float .f64 (kx .zero a)) ∧ Below w.heap.size w w' := by
 refine zo Tryz.func60 rfl Tryz.ntmps60 rfl ?_;have LW := erx (No) w;have XLW := grx (No) w;have E := erx (No) w;refine srx (anx rfl (zb (zz rfl (srx (mvx rfl (za rfl (ow_round ex97 rfl ((isN_read a).trans (jz hf)) (anx rfl (zt (zq (zr (rs := [.tmp 2]) (vs := [_]) rfl ⟨rfl, trivial⟩ ?_)))))))))));exact ⟨rfl, (LW.step E XLW).toBelow⟩
include ha
theorem whole_nan (hn : isN a = true) : Calls Tryz.prog 19 #[.int .u64 ((a : Nat) : Int)] w fun e w' => e = .returned (.tuple #[.agg #[.bool false, .slice none 0 0], .int .i64 1]) ∧ Below w.heap.size w w' := by
 have _ := ha;refine zo Tryz.func19 rfl Tryz.ntmps19 rfl ?_;have LW := erx (No) w;have XLW := grx (No) w;have E := erx (No) w;refine srx (za rfl (qu zbk ?_));intro gb1 w2 Bb1 Eb1 Gb1;have Gb1 : _ ≤ gb1 := Nat.le_trans E.size Gb1;have GLb1 := Nat.le_trans LW.size Gb1;replace E := E.trans Eb1.no;replace E := E.cons (some gb1)
 replace XLW := Mut.grow XLW (fun k e => Or.inr (Nat.le_trans LW.size ((ye Gb1) k e)))
 refine anx rfl (srx (mvx rfl (za rfl (ym (b := a) om rfl (anx rfl (zb (zw (srx (mvx rfl (mvx rfl (za rfl (jm rfl rfl (anx rfl (yc 18 (.bool true) rfl ((by rw [ji, hn] : (.bool (qy a a != some .eq) : Value) = _)) (zz rfl (srx (za rfl (ow_build (cs := #[.bool false, .slice none 0 0]) pl42 zbk rfl rfl (qf (qj vh rfl rfl Bb1 rfl rfl (Nat.le_of_ble_eq_true rfl) ?_))))))))))))))))))))
 intro w3 Bx Eb1;replace Bb1 := Bx;replace E := E.step1 Eb1 Mut.head;refine anx rfl (zt (yo (zq (zr (rs := [.cell 2 42, .tmp 3]) (vs := [_, _]) rfl ⟨⟨_, rfl, zgk Tryz.underlying42 rfl vh Bb1 rfl⟩, rfl, trivial⟩ ?_))));exact ⟨rfl, (LW.step E XLW).toBelow⟩
theorem whole_inf (hi : rg a = 9218868437227405312) : Calls Tryz.prog 19 #[.int .u64 ((a : Nat) : Int)] w fun e w' => e = .returned (.tuple #[.agg #[.bool false, .slice none 0 0], .int .i64 7]) ∧ Below w.heap.size w w' := by
 have hn : isN a = false := decide_eq_false (by omega);refine zo Tryz.func19 rfl Tryz.ntmps19 rfl ?_;have LW := erx (No) w;have XLW := grx (No) w;have E := erx (No) w;refine srx (za rfl (qu zbk ?_));intro gb1 w2 Bb1 Eb1 Gb1;have Gb1 : _ ≤ gb1 := Nat.le_trans E.size Gb1;have GLb1 := Nat.le_trans LW.size Gb1;replace E := E.trans Eb1.no;replace E := E.cons (some gb1)
 replace XLW := Mut.grow XLW (fun k e => Or.inr (Nat.le_trans LW.size ((ye Gb1) k e)))
 refine anx rfl (srx (mvx rfl (za rfl (ym (b := a) om rfl (anx rfl (zb (zw (srx (mvx rfl (mvx rfl (za rfl (jm rfl rfl (anx rfl (yc 18 (.bool false) rfl ((by rw [ji, hn] : (.bool (qy a a != some .eq) : Value) = _)) (zj rfl (srx (mvx rfl (za rfl (zg zqv rfl ((jd _ a ha).mono ?_))))))))))))))))))));rintro e w3 ⟨rfl, hb⟩
 refine ⟨_, rfl, ?_⟩;have Ec := Ext.of_below hb No;replace Bb1 := Bb1.extN Ec NotIn.nil;replace E := E.trans Ec.no
 refine zv 25 (.bool true) rfl ((by rw [decide_eq_true hi] : (.bool (decide (rg a = 9218868437227405312)) : Value) = _)) (anx rfl (zz rfl (srx (za rfl (ow_build (cs := #[.bool false, .slice none 0 0]) pl42 zbk rfl rfl (qf (qj vh rfl rfl Bb1 rfl rfl (Nat.le_of_ble_eq_true rfl) ?_)))))));intro w4 Bx Eb1;replace Bb1 := Bx;replace E := E.step1 Eb1 Mut.head
 refine anx rfl (zt (yo (zq (zr (rs := [.cell 2 42, .tmp 3]) (vs := [_, _]) rfl ⟨⟨_, rfl, zgk Tryz.underlying42 rfl vh Bb1 rfl⟩, rfl, trivial⟩ ?_))));exact ⟨rfl, (LW.step E XLW).toBelow⟩
section
variable (hf : rg a < 9218868437227405312)
include hf
theorem whole_zero (h0 : ve a = 0) : Calls Tryz.prog 19 #[.int .u64 ((a : Nat) : Int)] w (vo w (kb a) 0) := by
 obtain ⟨q, hq1, hq2, hq3⟩ := zuq hf;have hq0 : q = 0 := ysx.1 (zero_p hq1 h0);obtain ⟨r1, r2, r3⟩ := jn (ng a) q (by omega);obtain ⟨M, hMd⟩ : ∃ M, M = 0 := ⟨_, rfl⟩;obtain ⟨k, hk⟩ : ∃ k, k = 53 := ⟨_, rfl⟩;obtain ⟨m0, hm0⟩ : ∃ m0 : Int, m0 = if ng a then -((M : Nat) : Int) else ((M : Nat) : Int) := ⟨_, rfl⟩
 have hM : M = ve a * 2 ^ k := by rw [h0, Nat.zero_mul, hMd]
 have hwz : ve (Ieee.double.word (ng a) q) = 0 := (zrq (ng a) (by omega) hq1).trans h0;have hfz : floatToIntVal .f64 (Ieee.double.word (ng a) q) .i64 = some m0 := by
  rw [f2i_i64 (by rw [r1]; omega) (by rw [hwz]; decide), hwz, r2, hm0, hMd]
 refine zo Tryz.func19 rfl Tryz.ntmps19 rfl ?_;have HF : Per (No) w (fun _ => True) := Per.true_;have LW := erx (No) w;have XLW := grx (No) w;have E := erx (No) w;refine srx (za rfl (qu zbk ?_));intro gb1 w2 Bb1 Eb1 Gb1;have Gb1 : _ ≤ gb1 := Nat.le_trans E.size Gb1;have GLb1 := Nat.le_trans LW.size Gb1;replace E := E.trans Eb1.no;replace HF := HF.cons (ye Gb1)
 replace E := E.cons (some gb1);replace XLW := Mut.grow XLW (fun k e => Or.inr (Nat.le_trans LW.size ((ye Gb1) k e)))
 refine anx rfl (srx (mvx rfl (za rfl (ym (b := a) om rfl (anx rfl (zb (zw (srx (mvx rfl (mvx rfl (za rfl (jm rfl rfl (anx rfl (yc 18 (.bool false) rfl ((by rw [ji, jz hf] : (.bool (qy a a != some .eq) : Value) = _)) (zj rfl (srx (mvx rfl (za rfl (zg zqv rfl ((jd _ a ha).mono ?_))))))))))))))))))));rintro e w3 ⟨rfl, hb⟩
 refine ⟨_, rfl, ?_⟩;have Ec := Ext.of_below hb No;replace Bb1 := Bb1.extN Ec NotIn.nil;replace E := E.trans Ec.no;refine zv 25 (.bool false) rfl ((by rw [decide_eq_false (by omega)] : (.bool (decide (rg a = 9218868437227405312)) : Value) = _)) (anx rfl (zj rfl (zf (zl (zc (srx (mvx rfl (za rfl (zg en60 rfl ((ymq _ a hf).mono ?_))))))))))
 rintro e w4 ⟨rfl, hb⟩;refine ⟨_, rfl, ?_⟩;have Ec := Ext.of_below hb No;replace Bb1 := Bb1.extN Ec NotIn.nil;replace E := E.trans Ec.no;refine zv 29 (.float .f64 (Ieee.double.word (ng a) q)) rfl ((by rw [hq3] : (.float .f64 (kx .zero a) : Value) = _)) (za rfl (zg en59 rfl ((Frexp_zero _ (Ieee.double.word (ng a) q) r3 (by rw [r1]; exact hq0)).mono ?_)));rintro e w5 ⟨rfl, hb⟩
 refine ⟨_, rfl, ?_⟩;have Ec := Ext.of_below hb No;replace Bb1 := Bb1.extN Ec NotIn.nil;replace E := E.trans Ec.no;refine mvx rfl (za rfl (zm rfl rfl (za rfl (zm rfl rfl (avx rfl (anx rfl (srx (mvx rfl (za rfl (zg en62 rfl ((Ldexp_zero _ (Ieee.double.word (ng a) q) r3 (by rw [r1]; exact hq0) 53).mono ?_)))))))))));rintro e w6 ⟨rfl, hb⟩;refine ⟨_, rfl, ?_⟩
 have Ec := Ext.of_below hb No;replace Bb1 := Bb1.extN Ec NotIn.nil;replace E := E.trans Ec.no;refine za rfl (ypq (z := m0) Tryz.underlying3 (by rw [Tryz.underlying78]; rfl) rfl hfz (za rfl (zg en61 rfl ((znk m0 _ (by rw [hm0]; split <;> omega) (by rw [hm0]; split <;> omega)).mono ?_))));rintro e w7 ⟨A1, c1, rfl, o1, hb⟩;refine ⟨_, rfl, ?_⟩
 have XC : ∀ q9, (Mut [(some gb1)]) q9 → q9 < w6.heap.size := (Mut.grow Mut.none_ (yf Bb1.lt));have Ec := Ext.of_below hb No;replace Bb1 := Bb1.extN Ec NotIn.nil;replace E := E.trans Ec.no;replace HF := HF.on E;replace LW := LW.step E XLW;replace E := erx (Mut [(some gb1)]) w7;replace HF := HF.and (Per.own o1 XC);refine za rfl (qu zbk ?_);intro gb8 w9 Bb8 Eb8 Gb8
 have Db8_b1 : Apart (some gb8) (some gb1) := Apart.of_lt (yf Bb1.lt) Gb8;have Db1_b8 := Db8_b1.symm;have Gb8 : _ ≤ gb8 := Nat.le_trans E.size Gb8;have GLb8 := Nat.le_trans LW.size Gb8;replace Bb1 := Bb1.extN Eb8 NotIn.nil;replace E := E.trans Eb8.no;replace HF := HF.cons (ye Gb8);replace E := E.cons (some gb8)
 replace XLW := Mut.grow XLW (fun k e => Or.inr (Nat.le_trans LW.size ((ye Gb8) k e)));refine qf (qj vh rfl rfl Bb8 rfl rfl (Nat.le_of_ble_eq_true rfl) ?_);intro w10 Bx Eb8;replace Bb8 := Bx;replace Bb1 := Bb1.extN Eb8 (NotIn.cons Db1_b8 NotIn.nil);replace E := E.step1 Eb8 Mut.head;refine rnx (srx (za rfl (zg en61 rfl ((znk 2 _ (by decide) (by decide)).mono ?_))))
 rintro e w11 ⟨A2, c2, rfl, o2, hb⟩;refine ⟨_, rfl, ?_⟩;have XC : ∀ q9, (Mut [(some gb8), (some gb1)]) q9 → q9 < w10.heap.size := (Mut.grow (Mut.grow Mut.none_ (yf Bb1.lt)) (yf Bb8.lt));have Ec := Ext.of_below hb No;replace Bb8 := Bb8.extN Ec NotIn.nil;replace Bb1 := Bb1.extN Ec NotIn.nil;replace E := E.trans Ec.no;replace HF := HF.on E;replace LW := LW.step E XLW
 replace E := erx (Mut [(some gb8), (some gb1)]) w11;replace HF := HF.and (Per.own o2 XC);refine za rfl (qu zbk ?_);intro gb12 w13 Bb12 Eb12 Gb12;have Db12_b8 : Apart (some gb12) (some gb8) := Apart.of_lt (yf Bb8.lt) Gb12;have Db8_b12 := Db12_b8.symm;have Db12_b1 : Apart (some gb12) (some gb1) := Apart.of_lt (yf Bb1.lt) Gb12;have Db1_b12 := Db12_b1.symm
 have Gb12 : _ ≤ gb12 := Nat.le_trans E.size Gb12;have GLb12 := Nat.le_trans LW.size Gb12;replace Bb8 := Bb8.extN Eb12 NotIn.nil;replace Bb1 := Bb1.extN Eb12 NotIn.nil;replace E := E.trans Eb12.no;replace HF := HF.cons (ye Gb12);replace E := E.cons (some gb12);replace XLW := Mut.grow XLW (fun k e => Or.inr (Nat.le_trans LW.size ((ye Gb12) k e)))
 refine qf (qj vh rfl rfl Bb12 rfl rfl (Nat.le_of_ble_eq_true rfl) ?_);intro w14 Bx Eb12;replace Bb12 := Bx;replace Bb8 := Bb8.extN Eb12 (NotIn.cons Db8_b12 NotIn.nil);replace Bb1 := Bb1.extN Eb12 (NotIn.cons Db1_b12 NotIn.nil);replace E := E.step1 Eb12 Mut.head;replace HF := HF.on E;replace LW := LW.step E XLW
 have SB : ∀ q9, Mut [(some gb8), (some gb1)] q9 → Mut [(some gb12), (some gb8), (some gb1)] q9 := (Mut.skip (Mut.keep (Mut.keep Mut.nil_)));replace HF := HF.less SB;replace XLW := fun k h => XLW k (SB k h);clear SB;replace E := erx (Mut [(some gb8), (some gb1)]) w14;replace HF := HF.and (Per.blkN Bb12 (NotIn.cons Db12_b8 (NotIn.cons Db12_b1 NotIn.nil)))
 refine rnx (zb (srx (mvx rfl (za rfl (yd (z := (-53)) rfl rfl (by kernel_rfl) (anx rfl (srx (mvx rfl (za rfl (qz rfl rfl (rnx (zj rfl (zf (zc (zb (srx (mvx rfl (za rfl (yp rfl rfl (rnx (zj rfl (zf (zc (zb ?_))))))))))))))))))))))))
 have OY : ∀ q9, (Mut (gy [])) q9 → q9 < (World.drew w14).heap.size → (Mut [(some gb8), (some gb1)]) q9 := fun k h _ => (Mut.none_) k h;refine qo (Mut [(some gb8), (some gb1)]) (Mut.grow (Mut.grow Mut.none_ (yf Bb1.lt)) (yf Bb8.lt)) [⟨8, 9, 42, #[.bool false, .slice none 0 0]⟩] [] (kq [Fx.of (.agg #[.bool (decide ((2 : Int) < 0)), .slice A2 (limbs 2).length c2]),
  Fx.of (.int .i64 (-53)),
  Fx.of (.int .i64 ((k : Nat) : Int)),
  ⟨(Option Addr × Nat), fun (A3, c3) => .agg #[.bool (decide (((k : Nat) : Int) < 0)), .slice A3 (limbs ((k : Nat) : Int)).length c3], fun (A3, c3) b => (Nums b A3 (limbs ((k : Nat) : Int)))⟩,
  ⟨(Option Addr × Nat), fun (A4, c4) => .tuple #[.agg #[.bool (decide ((2 : Int) ^ k < 0)), .slice A4 (limbs ((2 : Int) ^ k)).length c4], .int .i64 0], fun (A4, c4) b => (Nums b A4 (limbs ((2 : Int) ^ k)))⟩,
  ⟨(Option Addr × Nat), fun (A4, c4) => .tuple #[.agg #[.bool (decide ((2 : Int) ^ k < 0)), .slice A4 (limbs ((2 : Int) ^ k)).length c4], .int .i64 0], fun (A4, c4) b => (Nums b A4 (limbs ((2 : Int) ^ k)))⟩,
  ⟨(Option Addr × Nat), fun (A4, c4) => .agg #[.bool (decide ((2 : Int) ^ k < 0)), .slice A4 (limbs ((2 : Int) ^ k)).length c4], fun (A4, c4) b => (Nums b A4 (limbs ((2 : Int) ^ k)))⟩,
  Fx.of (.int .i64 0),
  Fx.of undef,
  Fx.of undef,
  Fx.of (.int .i64 0)]) mixed rfl trivial (fun _ h => by cases h) ?_ ?_
 · refine ⟨?_, ?_, ?_, ?_, ?_, ?_, ?_, ?_, ?_, ?_, ?_, trivial⟩
   · intro vs X wq K;have LE := K.1;exact qb Tryz.underlying42 rfl vh rfl (HF.on (E.drew.trans (LE.mono OY))).here.2 rfl ⟨Below.refl _ _, Left.of rfl⟩
   · intro vs X wq K;exact zi rfl ⟨Below.refl _ _, Left.of rfl⟩
   · intro vs X wq K;obtain ⟨_, e1, k1⟩ := K.dep 1 rfl rfl rfl;refine zd 61 (.int .i64 (-53)) rfl e1 ?_;exact xi (z := 53) rfl (by kernel_rfl) ⟨Below.refl _ _, Left.of (by rw [hk]; rfl)⟩
   · intro vs X wq K;have XN := K.2.1;obtain ⟨_, e2, k2⟩ := K.dep 2 rfl rfl rfl;refine zd 62 (.int .i64 ((k : Nat) : Int)) rfl e2 (zg en61 rfl ((znk ((k : Nat) : Int) _ (by omega) (by omega)).mono ?_));rintro e w2 ⟨A3, c3, rfl, o3, hb⟩;exact ⟨_, rfl, hb, ⟨(A3, c3), rfl, Per.own o3 XN⟩⟩
   · intro vs X wq K;have LE := K.1;have XN := K.2.1;obtain ⟨_, e0, k0⟩ := K.dep 0 rfl rfl rfl;refine zd 60 (.agg #[.bool (decide ((2 : Int) < 0)), .slice A2 (limbs 2).length c2]) rfl e0 ?_;obtain ⟨⟨A3, c3⟩, e3, k3⟩ := K.dep 3 rfl rfl rfl
     refine zd 63 (.agg #[.bool (decide (((k : Nat) : Int) < 0)), .slice A3 (limbs ((k : Nat) : Int)).length c3]) rfl e3 (zg en63 rfl ((two_pow k A2 A3 c2 c3 _ (by omega) (HF.on (E.drew.trans (LE.mono OY))).here.1.2 k3.here).mono ?_));rintro e w2 ⟨A4, c4, rfl, o4, hb⟩;exact ⟨_, rfl, hb, ⟨(A4, c4), rfl, Per.own o4 XN⟩⟩
   · intro vs X wq K;obtain ⟨⟨A4, c4⟩, e4, k4⟩ := K.dep 4 rfl rfl rfl;refine zd 64 (.tuple #[.agg #[.bool (decide ((2 : Int) ^ k < 0)), .slice A4 (limbs ((2 : Int) ^ k)).length c4], .int .i64 0]) rfl e4 ?_;exact zi rfl ⟨Below.refl _ _, ⟨⟨A4, c4⟩, rfl, (k4.map (fun _ h => h))⟩⟩
   · intro vs X wq K;obtain ⟨⟨A4, c4⟩, e5, k5⟩ := K.dep 5 rfl rfl rfl;refine zd 59 (.tuple #[.agg #[.bool (decide ((2 : Int) ^ k < 0)), .slice A4 (limbs ((2 : Int) ^ k)).length c4], .int .i64 0]) rfl e5 ?_;exact zm rfl rfl ⟨Below.refl _ _, ⟨⟨A4, c4⟩, rfl, (k5.map (fun _ h => h))⟩⟩
   · intro vs X wq K;obtain ⟨⟨A4, c4⟩, e5, k5⟩ := K.dep 5 rfl rfl rfl;refine zd 59 (.tuple #[.agg #[.bool (decide ((2 : Int) ^ k < 0)), .slice A4 (limbs ((2 : Int) ^ k)).length c4], .int .i64 0]) rfl e5 ?_;exact zm rfl rfl ⟨Below.refl _ _, Left.of rfl⟩
   · exact ⟨_, _, _, _, _, rfl, zbk, rfl⟩
   · refine ⟨_, _, _, _, _, rfl, rfl, rfl, vh, fun vs X wq K => ?_⟩;obtain ⟨⟨A4, c4⟩, e0, _⟩ := K.dep 6 rfl rfl rfl;exact ⟨vs 6, rfl, by rw [e0]; rfl, by rw [e0]; rfl⟩
   · intro vs X wq K;obtain ⟨_, e7, k7⟩ := K.dep 7 rfl rfl rfl;refine zd 66 (.int .i64 0) rfl e7 ?_;exact vc rfl ⟨Below.refl _ _, Left.of rfl⟩
 intro vs w15 LE AO AL AF AA;have LBb8 := Bb8;have LBb1 := Bb1;replace Bb8 := Bb8.drew.extN LE NotIn.nil;replace Bb1 := Bb1.drew.extN LE NotIn.nil;replace E := E.drew.trans (LE.mono OY);obtain ⟨⟨A4, c4⟩, e6, k6⟩ := AL.2.2.2.2.2.2.1;replace HF := HF.on E;replace LW := LW.step E XLW;replace E := erx (Mut [(some gb8), (some gb1)]) w15
 replace HF := HF.and ((k6.map (fun _ h => h) : Per (Mut [(some gb8), (some gb1)]) w15 (fun b => Nums b A4 (limbs ((2 : Int) ^ k)))));obtain ⟨gb16, v0, y0, qb16, Gb16, Bb16, ey, ev0⟩ := AF.1;cases ey
 obtain rfl : vs 6 = v0 := Option.some.inj ev0;rw [e6] at Bb16;have Db16_b8 : Apart (some gb16) (some gb8) := Apart.of_lt (yf LBb8.lt) Gb16;have Db8_b16 := Db16_b8.symm;have Db16_b1 : Apart (some gb16) (some gb1) := Apart.of_lt (yf LBb1.lt) Gb16;have Db1_b16 := Db16_b1.symm;replace HF := HF.on E;replace LW := LW.step E XLW;replace E := erx (Mut [(some gb8), (some gb1)]) w15
 replace HF := HF.and ((Per.blkN Bb16 (NotIn.cons Db16_b8 (NotIn.cons Db16_b1 NotIn.nil)) : Per (Mut [(some gb8), (some gb1)]) w15 (fun b => Blk b gb16 42 #[.bool (decide ((2 : Int) ^ k < 0)), .slice A4 (limbs ((2 : Int) ^ k)).length c4])));have e8 := qb16;refine vj (τ := [(2, _), (3, _), (7, _), (11, .pointer (some ⟨gb16, 0, none⟩))]) ⟨rfl, rfl, rfl, congrArg some e8, trivial⟩ ?_
 clear AL AF AA LE AO OY e6 e8 k6 LBb8 LBb1;refine zc (srx (za rfl (qb Tryz.underlying42 rfl vh rfl Bb8 rfl (za rfl (qb Tryz.underlying42 rfl vh rfl (HF.on E).here.2 rfl (za rfl (zg en65 rfl ((div_two hM hm0 (by omega) (by omega) A1 A4 c1 c4 _ (HF.on E).here.1.1.1.1.2 (HF.on E).here.1.2).mono ?_))))))));rintro e w17 ⟨A5, c5, B6, c6, r, rfl, o5, hb⟩
 refine ⟨_, rfl, ?_⟩;have XC : ∀ q9, (Mut [(some gb8), (some gb1)]) q9 → q9 < w15.heap.size := (Mut.grow (Mut.grow Mut.none_ (yf Bb1.lt)) (yf Bb8.lt));have SC := Nat.le_trans LW.size E.size;have Ec := Ext.of_below hb No;replace Bb8 := Bb8.extN Ec NotIn.nil;replace Bb1 := Bb1.extN Ec NotIn.nil;replace E := E.trans Ec.no;have hS := SC;replace HF := HF.on E;replace LW := LW.step E XLW
 replace E := erx (Mut [(some gb8), (some gb1)]) w17;replace HF := HF.and (Per.ownX o5 XC);refine mvx rfl (za rfl (zm rfl rfl (za rfl (zm rfl rfl (za rfl (zm rfl rfl (za rfl (qu zbk ?_))))))));intro gb18 w19 Bb18 Eb18 Gb18;have Db18_b8 : Apart (some gb18) (some gb8) := Apart.of_lt (yf Bb8.lt) Gb18;have Db8_b18 := Db18_b8.symm
 have Db18_b1 : Apart (some gb18) (some gb1) := Apart.of_lt (yf Bb1.lt) Gb18;have Db1_b18 := Db18_b1.symm;have Gb18 : _ ≤ gb18 := Nat.le_trans E.size Gb18;have GLb18 := Nat.le_trans LW.size Gb18;replace Bb8 := Bb8.extN Eb18 NotIn.nil;replace Bb1 := Bb1.extN Eb18 NotIn.nil;replace E := E.trans Eb18.no;replace HF := HF.cons (ye Gb18);replace E := E.cons (some gb18)
 replace XLW := Mut.grow XLW (fun k e => Or.inr (Nat.le_trans LW.size ((ye Gb18) k e)));refine za rfl (qu zbk ?_);intro gb20 w21 Bb20 Eb20 Gb20;have Db20_b18 : Apart (some gb20) (some gb18) := Apart.of_lt (yf Bb18.lt) Gb20;have Db18_b20 := Db20_b18.symm;have Db20_b8 : Apart (some gb20) (some gb8) := Apart.of_lt (yf Bb8.lt) Gb20;have Db8_b20 := Db20_b8.symm
 have Db20_b1 : Apart (some gb20) (some gb1) := Apart.of_lt (yf Bb1.lt) Gb20;have Db1_b20 := Db20_b1.symm;have Gb20 : _ ≤ gb20 := Nat.le_trans E.size Gb20;have GLb20 := Nat.le_trans LW.size Gb20;replace Bb18 := Bb18.extN Eb20 NotIn.nil;replace Bb8 := Bb8.extN Eb20 NotIn.nil;replace Bb1 := Bb1.extN Eb20 NotIn.nil;replace E := E.trans Eb20.no;replace HF := HF.cons (ye Gb20)
 replace E := E.cons (some gb20);replace XLW := Mut.grow XLW (fun k e => Or.inr (Nat.le_trans LW.size ((ye Gb20) k e)));refine qf (qj vh rfl rfl Bb18 rfl rfl (Nat.le_of_ble_eq_true rfl) ?_);intro w22 Bx Eb18;replace Bb18 := Bx;replace Bb20 := Bb20.extN Eb18 (NotIn.cons Db20_b18 NotIn.nil);replace Bb8 := Bb8.extN Eb18 (NotIn.cons Db8_b18 NotIn.nil)
 replace Bb1 := Bb1.extN Eb18 (NotIn.cons Db1_b18 NotIn.nil);replace E := E.step1 Eb18 (Mut.tail Mut.head);replace HF := HF.on E;replace LW := LW.step E XLW;have SB : ∀ q9, Mut [(some gb20), (some gb8), (some gb1)] q9 → Mut [(some gb20), (some gb18), (some gb8), (some gb1)] q9 := (Mut.keep (Mut.skip (Mut.keep (Mut.keep Mut.nil_))));replace HF := HF.less SB;replace XLW := fun k h => XLW k (SB k h)
 clear SB;replace E := erx (Mut [(some gb20), (some gb8), (some gb1)]) w22;replace HF := HF.and (Per.blkN Bb18 (NotIn.cons Db18_b20 (NotIn.cons Db18_b8 (NotIn.cons Db18_b1 NotIn.nil))));refine qf (qj vh rfl rfl Bb20 rfl rfl (Nat.le_of_ble_eq_true rfl) ?_);intro w23 Bx Eb20;replace Bb20 := Bx;replace Bb8 := Bb8.extN Eb20 (NotIn.cons Db8_b20 NotIn.nil)
 replace Bb1 := Bb1.extN Eb20 (NotIn.cons Db1_b20 NotIn.nil);replace E := E.step1 Eb20 Mut.head;replace HF := HF.on E;replace LW := LW.step E XLW;have SB : ∀ q9, Mut [(some gb8), (some gb1)] q9 → Mut [(some gb20), (some gb8), (some gb1)] q9 := (Mut.skip (Mut.keep (Mut.keep Mut.nil_)));replace HF := HF.less SB;replace XLW := fun k h => XLW k (SB k h);clear SB
 replace E := erx (Mut [(some gb8), (some gb1)]) w23;replace HF := HF.and (Per.blkN Bb20 (NotIn.cons Db20_b8 (NotIn.cons Db20_b1 NotIn.nil)));refine anx rfl (srx (za rfl (qb Tryz.underlying42 rfl vh rfl (HF.on E).here.1.2 rfl (qf (qj vh rfl rfl Bb1 rfl rfl (Nat.le_of_ble_eq_true rfl) ?_)))));intro w24 Bx Eb1;replace Bb1 := Bx
 replace Bb8 := Bb8.extN Eb1 (NotIn.cons Db8_b1 NotIn.nil);replace E := E.step1 Eb1 (Mut.tail Mut.head);replace HF := HF.on E;replace LW := LW.step E XLW;have SB : ∀ q9, Mut [(some gb8)] q9 → Mut [(some gb8), (some gb1)] q9 := (Mut.keep (Mut.skip Mut.nil_));replace HF := HF.less SB;replace XLW := fun k h => XLW k (SB k h);clear SB;replace E := erx (Mut [(some gb8)]) w24
 replace HF := HF.and (Per.blkN Bb1 (NotIn.cons Db1_b8 NotIn.nil));refine anx rfl (zt (zr (rs := [.cell 2 42, .tmp 3]) (vs := [_, _]) rfl ⟨⟨_, rfl, zgk Tryz.underlying42 rfl vh (HF.on E).here.2 rfl⟩, rfl, trivial⟩ ?_));exact ⟨A5, c5, rfl, ((HF.on E).here.1.1.1.2).mono hS, (LW.step E XLW).toBelow⟩
/-! ### a whole number that is not nought -/
theorem whole_num (h0 : ve a ≠ 0) : Calls Tryz.prog 19 #[.int .u64 ((a : Nat) : Int)] w (vo w (kb a) 0) := by
 obtain ⟨q, hq1, hq2, hq3⟩ := zuq hf;have hqf : q < 9218868437227405312 := by omega
 have hq0 : q ≠ 0 := fun e => by
  subst e;rw [xt] at hq1;exact h0 (pos_zero (kr 1074) hq1)
 obtain ⟨r1, r2, r3⟩ := jn (ng a) q (by omega);obtain ⟨T, hT⟩ : ∃ T, T = Ieee.double.word (ng a) q := ⟨_, rfl⟩;have hT1 : rg T = q := by rw [hT, r1]
 have hT2 : ng T = ng a := by rw [hT, r2]
 obtain ⟨F, hF⟩ : ∃ F, F = frF T := ⟨_, rfl⟩;have hmn := mg_nr hq0;have hFp : rg F = 4602678819172646912 + (mg (nr q) - 4503599627370496) ∧ ng F = ng a ∧ F < 18446744073709551616 := by
  rw [hF, frF, hT1, hT2];exact jn _ _ (by omega)
 obtain ⟨fq1, fq2⟩ := fullQ (r := q) hq0;have hFv : vl (rg F) = mg (nr q) * 2 ^ 1021 := by
  rw [hFp.1, ← frF_pos hqf];exact (frF_parts hqf hq0).2.2
 have fq3 : vl (1074 * 4503599627370496 + mg (nr q)) = vl (rg F) * 2 ^ 53 := by rewrite [fq1, hFv]; exact ypx (p := 1074) (q := 1021) (s := 53) (by decide) _
 obtain ⟨M, hMd⟩ : ∃ M, M = mg (nr q) := ⟨_, rfl⟩;obtain ⟨m0, hm0⟩ : ∃ m0 : Int, m0 = if ng a then -((M : Nat) : Int) else ((M : Nat) : Int) := ⟨_, rfl⟩
 have fw := jn (ng F) (1074 * 4503599627370496 + mg (nr q)) (by omega);have hwM : ve (Ieee.double.word (ng F) (1074 * 4503599627370496 + mg (nr q))) = M := by rw [hMd]; exact zrq (ng F) fq2 fq1
 have hfz : floatToIntVal .f64 (Ieee.double.word (ng F) (1074 * 4503599627370496 + mg (nr q))) .i64 = some m0 := by
  rw [f2i_i64 (by rw [fw.1]; exact fq2) (by rw [hwM]; omega), hwM, fw.2.1, hFp.2.1, hm0]
 have hE : frE T = ((ex (nr q) : Nat) : Int) - 1021 - ((nd q : Nat) : Int) := by
  have := frE_pos hqf;rw [← this];unfold frE;rw [hT1, (zxz (r := q) (by omega)).1]
 have hval := nr_value hq0;rw [hq1] at hval;have hxn : ex (nr q) ≤ 2045 := by have := zyx hq0 hqf; unfold ex; split <;> omega
 have hnd : nd q ≤ 52 := by unfold nd; split <;> omega
 refine zo Tryz.func19 rfl Tryz.ntmps19 rfl ?_;have HF : Per (No) w (fun _ => True) := Per.true_;have LW := erx (No) w;have XLW := grx (No) w;have E := erx (No) w;refine srx (za rfl (qu zbk ?_));intro gb1 w2 Bb1 Eb1 Gb1;have Gb1 : _ ≤ gb1 := Nat.le_trans E.size Gb1;have GLb1 := Nat.le_trans LW.size Gb1;replace E := E.trans Eb1.no;replace HF := HF.cons (ye Gb1)
 replace E := E.cons (some gb1);replace XLW := Mut.grow XLW (fun k e => Or.inr (Nat.le_trans LW.size ((ye Gb1) k e)))
 refine anx rfl (srx (mvx rfl (za rfl (ym (b := a) om rfl (anx rfl (zb (zw (srx (mvx rfl (mvx rfl (za rfl (jm rfl rfl (anx rfl (yc 18 (.bool false) rfl ((by rw [ji, jz hf] : (.bool (qy a a != some .eq) : Value) = _)) (zj rfl (srx (mvx rfl (za rfl (zg zqv rfl ((jd _ a ha).mono ?_))))))))))))))))))));rintro e w3 ⟨rfl, hb⟩
 refine ⟨_, rfl, ?_⟩;have Ec := Ext.of_below hb No;replace Bb1 := Bb1.extN Ec NotIn.nil;replace E := E.trans Ec.no;refine zv 25 (.bool false) rfl ((by rw [decide_eq_false (by omega)] : (.bool (decide (rg a = 9218868437227405312)) : Value) = _)) (anx rfl (zj rfl (zf (zl (zc (srx (mvx rfl (za rfl (zg en60 rfl ((ymq _ a hf).mono ?_))))))))))
 rintro e w4 ⟨rfl, hb⟩;refine ⟨_, rfl, ?_⟩;have Ec := Ext.of_below hb No;replace Bb1 := Bb1.extN Ec NotIn.nil;replace E := E.trans Ec.no
 refine zv 29 (.float .f64 (Ieee.double.word (ng a) q)) rfl ((by rw [hq3] : (.float .f64 (kx .zero a) : Value) = _)) (zv 29 (.float .f64 T) rfl ((by rw [hT] : (.float .f64 (Ieee.double.word (ng a) q) : Value) = _)) (za rfl (zg en59 rfl ((yrk _ T (by rw [hT]; exact r3) (by rw [hT1]; exact hq0) (by rw [hT1]; exact hqf)).mono ?_))));rintro e w5 ⟨rfl, hb⟩
 refine ⟨_, rfl, ?_⟩;have Ec := Ext.of_below hb No;replace Bb1 := Bb1.extN Ec NotIn.nil;replace E := E.trans Ec.no
 refine zv 30 (.tuple #[.float .f64 F, .int .i64 (frE T)]) rfl ((by rw [hF] : (.tuple #[.float .f64 (frF T), .int .i64 (frE T)] : Value) = _)) (mvx rfl (za rfl (zm rfl rfl (za rfl (zm rfl rfl (avx rfl (anx rfl (srx (mvx rfl (za rfl (zg en62 rfl ((yrq _ F hFp.2.2 (by rw [hFp.1]; omega) (by rw [hFp.1]; omega) 53 (1074 * 4503599627370496 + mg (nr q)) (by decide) fq2 fq3).mono ?_))))))))))))
 rintro e w6 ⟨rfl, hb⟩;refine ⟨_, rfl, ?_⟩;have Ec := Ext.of_below hb No;replace Bb1 := Bb1.extN Ec NotIn.nil;replace E := E.trans Ec.no;refine za rfl (ypq (z := m0) Tryz.underlying3 (by rw [Tryz.underlying78]; rfl) rfl hfz (za rfl (zg en61 rfl ((znk m0 _ (by rw [hm0]; split <;> omega) (by rw [hm0]; split <;> omega)).mono ?_))));rintro e w7 ⟨A1, c1, rfl, o1, hb⟩
 refine ⟨_, rfl, ?_⟩;have XC : ∀ q9, (Mut [(some gb1)]) q9 → q9 < w6.heap.size := (Mut.grow Mut.none_ (yf Bb1.lt));have Ec := Ext.of_below hb No;replace Bb1 := Bb1.extN Ec NotIn.nil;replace E := E.trans Ec.no;replace HF := HF.on E;replace LW := LW.step E XLW;replace E := erx (Mut [(some gb1)]) w7;replace HF := HF.and (Per.own o1 XC);refine za rfl (qu zbk ?_)
 intro gb8 w9 Bb8 Eb8 Gb8;have Db8_b1 : Apart (some gb8) (some gb1) := Apart.of_lt (yf Bb1.lt) Gb8;have Db1_b8 := Db8_b1.symm;have Gb8 : _ ≤ gb8 := Nat.le_trans E.size Gb8;have GLb8 := Nat.le_trans LW.size Gb8;replace Bb1 := Bb1.extN Eb8 NotIn.nil;replace E := E.trans Eb8.no;replace HF := HF.cons (ye Gb8);replace E := E.cons (some gb8)
 replace XLW := Mut.grow XLW (fun k e => Or.inr (Nat.le_trans LW.size ((ye Gb8) k e)));refine qf (qj vh rfl rfl Bb8 rfl rfl (Nat.le_of_ble_eq_true rfl) ?_);intro w10 Bx Eb8;replace Bb8 := Bx;replace Bb1 := Bb1.extN Eb8 (NotIn.cons Db1_b8 NotIn.nil);replace E := E.step1 Eb8 Mut.head;refine rnx (srx (za rfl (zg en61 rfl ((znk 2 _ (by decide) (by decide)).mono ?_))))
 rintro e w11 ⟨A2, c2, rfl, o2, hb⟩;refine ⟨_, rfl, ?_⟩;have XC : ∀ q9, (Mut [(some gb8), (some gb1)]) q9 → q9 < w10.heap.size := (Mut.grow (Mut.grow Mut.none_ (yf Bb1.lt)) (yf Bb8.lt));have Ec := Ext.of_below hb No;replace Bb8 := Bb8.extN Ec NotIn.nil;replace Bb1 := Bb1.extN Ec NotIn.nil;replace E := E.trans Ec.no;replace HF := HF.on E;replace LW := LW.step E XLW
 replace E := erx (Mut [(some gb8), (some gb1)]) w11;replace HF := HF.and (Per.own o2 XC);refine za rfl (qu zbk ?_);intro gb12 w13 Bb12 Eb12 Gb12;have Db12_b8 : Apart (some gb12) (some gb8) := Apart.of_lt (yf Bb8.lt) Gb12;have Db8_b12 := Db12_b8.symm;have Db12_b1 : Apart (some gb12) (some gb1) := Apart.of_lt (yf Bb1.lt) Gb12;have Db1_b12 := Db12_b1.symm
 have Gb12 : _ ≤ gb12 := Nat.le_trans E.size Gb12;have GLb12 := Nat.le_trans LW.size Gb12;replace Bb8 := Bb8.extN Eb12 NotIn.nil;replace Bb1 := Bb1.extN Eb12 NotIn.nil;replace E := E.trans Eb12.no;replace HF := HF.cons (ye Gb12);replace E := E.cons (some gb12);replace XLW := Mut.grow XLW (fun k e => Or.inr (Nat.le_trans LW.size ((ye Gb12) k e)))
 refine qf (qj vh rfl rfl Bb12 rfl rfl (Nat.le_of_ble_eq_true rfl) ?_);intro w14 Bx Eb12;replace Bb12 := Bx;replace Bb8 := Bb8.extN Eb12 (NotIn.cons Db8_b12 NotIn.nil);replace Bb1 := Bb1.extN Eb12 (NotIn.cons Db1_b12 NotIn.nil);replace E := E.step1 Eb12 Mut.head;replace HF := HF.on E;replace LW := LW.step E XLW
 have SB : ∀ q9, Mut [(some gb8), (some gb1)] q9 → Mut [(some gb12), (some gb8), (some gb1)] q9 := (Mut.skip (Mut.keep (Mut.keep Mut.nil_)));replace HF := HF.less SB;replace XLW := fun k h => XLW k (SB k h);clear SB;replace E := erx (Mut [(some gb8), (some gb1)]) w14;replace HF := HF.and (Per.blkN Bb12 (NotIn.cons Db12_b8 (NotIn.cons Db12_b1 NotIn.nil)))
 refine rnx (zb (srx (mvx rfl (za rfl (yd rfl rfl (zp (by omega)) (anx rfl (srx (mvx rfl (za rfl (qz rfl rfl (rnx (yc 41 (.bool (decide (1074 + nd q ≤ ex (nr q)))) rfl (kg (by rw [hE]; omega)) (yh rfl (fun hc => ?_) (fun hc => ?_))))))))))))))
 ·
  have hc := of_decide_eq_true hc;obtain ⟨k, hk⟩ : ∃ k, k = ex (nr q) - (1074 + nd q) := ⟨_, rfl⟩;have hW : ve a = M * 2 ^ k := val_hi hval hc hk hMd;have hprod : m0 * (2 : Int) ^ k = kb a := by
   rw [kb, hW, hm0];split
   · rw [Int.neg_mul, Int.natCast_mul, Int.natCast_pow]; rfl
   · rw [Int.natCast_mul, Int.natCast_pow]; rfl
  have hwl := ymx hf;refine yc 6 (.int .i64 ((k : Nat) : Int)) rfl ((by rw [hE]; congr 1; omega : (.int .i64 ((frE T) - 53) : Value) = _)) (zb ?_);have OY : ∀ q9, (Mut (gy [])) q9 → q9 < (World.drew w14).heap.size → (Mut [(some gb8), (some gb1)]) q9 := fun k h _ => (Mut.none_) k h
  refine qo (Mut [(some gb8), (some gb1)]) (Mut.grow (Mut.grow Mut.none_ (yf Bb1.lt)) (yf Bb8.lt)) [⟨7, 8, 42, #[.bool false, .slice none 0 0]⟩] [] (kq [Fx.of (.agg #[.bool (decide ((2 : Int) < 0)), .slice A2 (limbs 2).length c2]),
   Fx.of (.int .i64 ((k : Nat) : Int)),
   ⟨(Option Addr × Nat), fun (A3, c3) => .agg #[.bool (decide (((k : Nat) : Int) < 0)), .slice A3 (limbs ((k : Nat) : Int)).length c3], fun (A3, c3) b => (Nums b A3 (limbs ((k : Nat) : Int)))⟩,
   ⟨(Option Addr × Nat), fun (A4, c4) => .tuple #[.agg #[.bool (decide ((2 : Int) ^ k < 0)), .slice A4 (limbs ((2 : Int) ^ k)).length c4], .int .i64 0], fun (A4, c4) b => (Nums b A4 (limbs ((2 : Int) ^ k)))⟩,
   ⟨(Option Addr × Nat), fun (A4, c4) => .tuple #[.agg #[.bool (decide ((2 : Int) ^ k < 0)), .slice A4 (limbs ((2 : Int) ^ k)).length c4], .int .i64 0], fun (A4, c4) b => (Nums b A4 (limbs ((2 : Int) ^ k)))⟩,
   ⟨(Option Addr × Nat), fun (A4, c4) => .agg #[.bool (decide ((2 : Int) ^ k < 0)), .slice A4 (limbs ((2 : Int) ^ k)).length c4], fun (A4, c4) b => (Nums b A4 (limbs ((2 : Int) ^ k)))⟩,
   Fx.of (.int .i64 0),
   Fx.of undef,
   Fx.of undef,
   Fx.of (.int .i64 0)]) mixed rfl trivial (fun _ h => by cases h) ?_ ?_
  · refine ⟨?_, ?_, ?_, ?_, ?_, ?_, ?_, ?_, ?_, ?_, trivial⟩
    · intro vs X wq K;have LE := K.1;exact qb Tryz.underlying42 rfl vh rfl (HF.on (E.drew.trans (LE.mono OY))).here.2 rfl ⟨Below.refl _ _, Left.of rfl⟩
    · intro vs X wq K;exact zi rfl ⟨Below.refl _ _, Left.of rfl⟩
    · intro vs X wq K;have XN := K.2.1;obtain ⟨_, e1, k1⟩ := K.dep 1 rfl rfl rfl;refine zd 44 (.int .i64 ((k : Nat) : Int)) rfl e1 (zg en61 rfl ((znk ((k : Nat) : Int) _ (by omega) (by omega)).mono ?_));rintro e w2 ⟨A3, c3, rfl, o3, hb⟩;exact ⟨_, rfl, hb, ⟨(A3, c3), rfl, Per.own o3 XN⟩⟩
    · intro vs X wq K;have LE := K.1;have XN := K.2.1;obtain ⟨_, e0, k0⟩ := K.dep 0 rfl rfl rfl;refine zd 43 (.agg #[.bool (decide ((2 : Int) < 0)), .slice A2 (limbs 2).length c2]) rfl e0 ?_;obtain ⟨⟨A3, c3⟩, e2, k2⟩ := K.dep 2 rfl rfl rfl
      refine zd 45 (.agg #[.bool (decide (((k : Nat) : Int) < 0)), .slice A3 (limbs ((k : Nat) : Int)).length c3]) rfl e2 (zg en63 rfl ((two_pow k A2 A3 c2 c3 _ (by omega) (HF.on (E.drew.trans (LE.mono OY))).here.1.2 k2.here).mono ?_));rintro e w2 ⟨A4, c4, rfl, o4, hb⟩;exact ⟨_, rfl, hb, ⟨(A4, c4), rfl, Per.own o4 XN⟩⟩
    · intro vs X wq K;obtain ⟨⟨A4, c4⟩, e3, k3⟩ := K.dep 3 rfl rfl rfl;refine zd 46 (.tuple #[.agg #[.bool (decide ((2 : Int) ^ k < 0)), .slice A4 (limbs ((2 : Int) ^ k)).length c4], .int .i64 0]) rfl e3 ?_;exact zi rfl ⟨Below.refl _ _, ⟨⟨A4, c4⟩, rfl, (k3.map (fun _ h => h))⟩⟩
    · intro vs X wq K;obtain ⟨⟨A4, c4⟩, e4, k4⟩ := K.dep 4 rfl rfl rfl;refine zd 42 (.tuple #[.agg #[.bool (decide ((2 : Int) ^ k < 0)), .slice A4 (limbs ((2 : Int) ^ k)).length c4], .int .i64 0]) rfl e4 ?_;exact zm rfl rfl ⟨Below.refl _ _, ⟨⟨A4, c4⟩, rfl, (k4.map (fun _ h => h))⟩⟩
    · intro vs X wq K;obtain ⟨⟨A4, c4⟩, e4, k4⟩ := K.dep 4 rfl rfl rfl;refine zd 42 (.tuple #[.agg #[.bool (decide ((2 : Int) ^ k < 0)), .slice A4 (limbs ((2 : Int) ^ k)).length c4], .int .i64 0]) rfl e4 ?_;exact zm rfl rfl ⟨Below.refl _ _, Left.of rfl⟩
    · exact ⟨_, _, _, _, _, rfl, zbk, rfl⟩
    · refine ⟨_, _, _, _, _, rfl, rfl, rfl, vh, fun vs X wq K => ?_⟩;obtain ⟨⟨A4, c4⟩, e0, _⟩ := K.dep 5 rfl rfl rfl;exact ⟨vs 5, rfl, by rw [e0]; rfl, by rw [e0]; rfl⟩
    · intro vs X wq K;obtain ⟨_, e6, k6⟩ := K.dep 6 rfl rfl rfl;refine zd 48 (.int .i64 0) rfl e6 ?_;exact vc rfl ⟨Below.refl _ _, Left.of rfl⟩
  intro vs w15 LE AO AL AF AA;have LBb8 := Bb8;have LBb1 := Bb1;replace Bb8 := Bb8.drew.extN LE NotIn.nil;replace Bb1 := Bb1.drew.extN LE NotIn.nil;replace E := E.drew.trans (LE.mono OY);obtain ⟨⟨A4, c4⟩, e5, k5⟩ := AL.2.2.2.2.2.1;replace HF := HF.on E;replace LW := LW.step E XLW;replace E := erx (Mut [(some gb8), (some gb1)]) w15
  replace HF := HF.and ((k5.map (fun _ h => h) : Per (Mut [(some gb8), (some gb1)]) w15 (fun b => Nums b A4 (limbs ((2 : Int) ^ k)))));obtain ⟨gb16, v0, y0, qb16, Gb16, Bb16, ey, ev0⟩ := AF.1;cases ey
  obtain rfl : vs 5 = v0 := Option.some.inj ev0;rw [e5] at Bb16;have Db16_b8 : Apart (some gb16) (some gb8) := Apart.of_lt (yf LBb8.lt) Gb16;have Db8_b16 := Db16_b8.symm;have Db16_b1 : Apart (some gb16) (some gb1) := Apart.of_lt (yf LBb1.lt) Gb16;have Db1_b16 := Db16_b1.symm;replace HF := HF.on E;replace LW := LW.step E XLW;replace E := erx (Mut [(some gb8), (some gb1)]) w15
  replace HF := HF.and ((Per.blkN Bb16 (NotIn.cons Db16_b8 (NotIn.cons Db16_b1 NotIn.nil)) : Per (Mut [(some gb8), (some gb1)]) w15 (fun b => Blk b gb16 42 #[.bool (decide ((2 : Int) ^ k < 0)), .slice A4 (limbs ((2 : Int) ^ k)).length c4])));have e7 := qb16
  refine vj (τ := [(2, _), (3, _), (6, _), (7, _), (8, _), (9, .pointer (some ⟨gb16, 0, none⟩))]) ⟨rfl, rfl, rfl, rfl, rfl, congrArg some e7, trivial⟩ ?_;clear AL AF AA LE AO OY e5 e7 k5 LBb8 LBb1
  have hmul : ∀ (A B : Option Addr) (c d : Nat) (w : World), Nums w A (limbs m0) → Nums w B (limbs ((2 : Int) ^ k)) → Calls Tryz.prog 64 #[.agg #[.bool (decide (m0 < 0)), .slice A (limbs m0).length c], .agg #[.bool (decide ((2 : Int) ^ k < 0)), .slice B (limbs ((2 : Int) ^ k)).length d]] w (vo w (kb a) 0) := by
   intro A B c d w hx hy;have h := mulI A B c d w (zwk (by rw [hm0]; split <;> omega)) (two_30 (by omega)) hx hy;rw [hprod, zxk hwl, zxv hwl] at h;exact h
  refine zc (srx (za rfl (qb Tryz.underlying42 rfl vh rfl Bb8 rfl (za rfl (qb Tryz.underlying42 rfl vh rfl (HF.on E).here.2 rfl (za rfl (zg en64 rfl ((hmul A1 A4 c1 c4 _ (HF.on E).here.1.1.1.1.2 (HF.on E).here.1.2).mono ?_))))))));rintro e w17 ⟨A5, c5, rfl, o5, hb⟩;refine ⟨_, rfl, ?_⟩
  have XC : ∀ q9, (Mut [(some gb8), (some gb1)]) q9 → q9 < w15.heap.size := (Mut.grow (Mut.grow Mut.none_ (yf Bb1.lt)) (yf Bb8.lt));have SC := Nat.le_trans LW.size E.size;have Ec := Ext.of_below hb No;replace Bb8 := Bb8.extN Ec NotIn.nil;replace Bb1 := Bb1.extN Ec NotIn.nil;replace E := E.trans Ec.no;have hS := SC;replace HF := HF.on E;replace LW := LW.step E XLW
  replace E := erx (Mut [(some gb8), (some gb1)]) w17;replace HF := HF.and (Per.ownX o5 XC);refine mvx rfl (za rfl (zm rfl rfl (za rfl (zm rfl rfl (qf (qj vh rfl rfl Bb8 rfl rfl (Nat.le_of_ble_eq_true rfl) ?_))))));intro w18 Bx Eb8;replace Bb8 := Bx;replace Bb1 := Bb1.extN Eb8 (NotIn.cons Db1_b8 NotIn.nil);replace E := E.step1 Eb8 Mut.head;replace HF := HF.on E
  replace LW := LW.step E XLW;have SB : ∀ q9, Mut [(some gb1)] q9 → Mut [(some gb8), (some gb1)] q9 := (Mut.skip (Mut.keep Mut.nil_));replace HF := HF.less SB;replace XLW := fun k h => XLW k (SB k h);clear SB;replace E := erx (Mut [(some gb1)]) w18;replace HF := HF.and (Per.blkN Bb8 (NotIn.cons Db8_b1 NotIn.nil))
  refine rnx (srx (za rfl (qb Tryz.underlying42 rfl vh rfl (HF.on E).here.2 rfl (qf (qj vh rfl rfl Bb1 rfl rfl (Nat.le_of_ble_eq_true rfl) ?_)))));intro w19 Bx Eb1;replace Bb1 := Bx;replace E := E.step1 Eb1 Mut.head
  refine anx rfl (zt (zq (zr (rs := [.cell 2 42, .tmp 3]) (vs := [_, _]) rfl ⟨⟨_, rfl, zgk Tryz.underlying42 rfl vh Bb1 rfl⟩, rfl, trivial⟩ ?_)));exact ⟨A5, c5, rfl, ((HF.on E).here.1.2).mono hS, (LW.step E XLW).toBelow⟩
 ·
  have hc := of_decide_eq_false hc;obtain ⟨k, hk⟩ : ∃ k, k = 1074 + nd q - ex (nr q) := ⟨_, rfl⟩;have hM : M = ve a * 2 ^ k := val_lo hval (by omega) hk hMd;have hk52 : k ≤ 52 := by
   rcases Nat.lt_or_ge 52 k with h | h
   · exfalso
     have h1 : 2 ^ 53 ≤ 2 ^ k := Nat.pow_le_pow_right (by decide) (by omega);have h2 : 1 * 2 ^ k ≤ ve a * 2 ^ k := Nat.mul_le_mul_right _ (by omega);omega
   · exact h
  refine zf (zc (zb (srx (mvx rfl (za rfl (yp rfl rfl (rnx (yc 57 (.bool false) rfl ((by rw [hE, decide_eq_false (by omega)] : (.bool (decide (((frE T) - 53) < (-60))) : Value) = _)) (zj rfl (zf (zc (zb ?_))))))))))));have OY : ∀ q9, (Mut (gy [])) q9 → q9 < (World.drew w14).heap.size → (Mut [(some gb8), (some gb1)]) q9 := fun k h _ => (Mut.none_) k h
  refine qo (Mut [(some gb8), (some gb1)]) (Mut.grow (Mut.grow Mut.none_ (yf Bb1.lt)) (yf Bb8.lt)) [⟨8, 9, 42, #[.bool false, .slice none 0 0]⟩] [] (kq [Fx.of (.agg #[.bool (decide ((2 : Int) < 0)), .slice A2 (limbs 2).length c2]),
   Fx.of (.int .i64 ((frE T) - 53)),
   Fx.of (.int .i64 ((k : Nat) : Int)),
   ⟨(Option Addr × Nat), fun (A3, c3) => .agg #[.bool (decide (((k : Nat) : Int) < 0)), .slice A3 (limbs ((k : Nat) : Int)).length c3], fun (A3, c3) b => (Nums b A3 (limbs ((k : Nat) : Int)))⟩,
   ⟨(Option Addr × Nat), fun (A4, c4) => .tuple #[.agg #[.bool (decide ((2 : Int) ^ k < 0)), .slice A4 (limbs ((2 : Int) ^ k)).length c4], .int .i64 0], fun (A4, c4) b => (Nums b A4 (limbs ((2 : Int) ^ k)))⟩,
   ⟨(Option Addr × Nat), fun (A4, c4) => .tuple #[.agg #[.bool (decide ((2 : Int) ^ k < 0)), .slice A4 (limbs ((2 : Int) ^ k)).length c4], .int .i64 0], fun (A4, c4) b => (Nums b A4 (limbs ((2 : Int) ^ k)))⟩,
   ⟨(Option Addr × Nat), fun (A4, c4) => .agg #[.bool (decide ((2 : Int) ^ k < 0)), .slice A4 (limbs ((2 : Int) ^ k)).length c4], fun (A4, c4) b => (Nums b A4 (limbs ((2 : Int) ^ k)))⟩,
   Fx.of (.int .i64 0),
   Fx.of undef,
   Fx.of undef,
   Fx.of (.int .i64 0)]) mixed rfl trivial (fun _ h => by cases h) ?_ ?_
  · refine ⟨?_, ?_, ?_, ?_, ?_, ?_, ?_, ?_, ?_, ?_, ?_, trivial⟩
    · intro vs X wq K;have LE := K.1;exact qb Tryz.underlying42 rfl vh rfl (HF.on (E.drew.trans (LE.mono OY))).here.2 rfl ⟨Below.refl _ _, Left.of rfl⟩
    · intro vs X wq K;exact zi rfl ⟨Below.refl _ _, Left.of rfl⟩
    · intro vs X wq K;obtain ⟨_, e1, k1⟩ := K.dep 1 rfl rfl rfl;refine zd 61 (.int .i64 ((frE T) - 53)) rfl e1 ?_;exact xi rfl (zp (by omega)) ⟨Below.refl _ _, Left.of ((by rw [hE, hk]; congr 1; omega : (.int .i64 (0 - ((frE T) - 53)) : Value) = _))⟩
    · intro vs X wq K;have XN := K.2.1;obtain ⟨_, e2, k2⟩ := K.dep 2 rfl rfl rfl;refine zd 62 (.int .i64 ((k : Nat) : Int)) rfl e2 (zg en61 rfl ((znk ((k : Nat) : Int) _ (by omega) (by omega)).mono ?_));rintro e w2 ⟨A3, c3, rfl, o3, hb⟩;exact ⟨_, rfl, hb, ⟨(A3, c3), rfl, Per.own o3 XN⟩⟩
    · intro vs X wq K;have LE := K.1;have XN := K.2.1;obtain ⟨_, e0, k0⟩ := K.dep 0 rfl rfl rfl;refine zd 60 (.agg #[.bool (decide ((2 : Int) < 0)), .slice A2 (limbs 2).length c2]) rfl e0 ?_;obtain ⟨⟨A3, c3⟩, e3, k3⟩ := K.dep 3 rfl rfl rfl
      refine zd 63 (.agg #[.bool (decide (((k : Nat) : Int) < 0)), .slice A3 (limbs ((k : Nat) : Int)).length c3]) rfl e3 (zg en63 rfl ((two_pow k A2 A3 c2 c3 _ (by omega) (HF.on (E.drew.trans (LE.mono OY))).here.1.2 k3.here).mono ?_));rintro e w2 ⟨A4, c4, rfl, o4, hb⟩;exact ⟨_, rfl, hb, ⟨(A4, c4), rfl, Per.own o4 XN⟩⟩
    · intro vs X wq K;obtain ⟨⟨A4, c4⟩, e4, k4⟩ := K.dep 4 rfl rfl rfl;refine zd 64 (.tuple #[.agg #[.bool (decide ((2 : Int) ^ k < 0)), .slice A4 (limbs ((2 : Int) ^ k)).length c4], .int .i64 0]) rfl e4 ?_;exact zi rfl ⟨Below.refl _ _, ⟨⟨A4, c4⟩, rfl, (k4.map (fun _ h => h))⟩⟩
    · intro vs X wq K;obtain ⟨⟨A4, c4⟩, e5, k5⟩ := K.dep 5 rfl rfl rfl;refine zd 59 (.tuple #[.agg #[.bool (decide ((2 : Int) ^ k < 0)), .slice A4 (limbs ((2 : Int) ^ k)).length c4], .int .i64 0]) rfl e5 ?_;exact zm rfl rfl ⟨Below.refl _ _, ⟨⟨A4, c4⟩, rfl, (k5.map (fun _ h => h))⟩⟩
    · intro vs X wq K;obtain ⟨⟨A4, c4⟩, e5, k5⟩ := K.dep 5 rfl rfl rfl;refine zd 59 (.tuple #[.agg #[.bool (decide ((2 : Int) ^ k < 0)), .slice A4 (limbs ((2 : Int) ^ k)).length c4], .int .i64 0]) rfl e5 ?_;exact zm rfl rfl ⟨Below.refl _ _, Left.of rfl⟩
    · exact ⟨_, _, _, _, _, rfl, zbk, rfl⟩
    · refine ⟨_, _, _, _, _, rfl, rfl, rfl, vh, fun vs X wq K => ?_⟩;obtain ⟨⟨A4, c4⟩, e0, _⟩ := K.dep 6 rfl rfl rfl;exact ⟨vs 6, rfl, by rw [e0]; rfl, by rw [e0]; rfl⟩
    · intro vs X wq K;obtain ⟨_, e7, k7⟩ := K.dep 7 rfl rfl rfl;refine zd 66 (.int .i64 0) rfl e7 ?_;exact vc rfl ⟨Below.refl _ _, Left.of rfl⟩
  intro vs w20 LE AO AL AF AA;have LBb8 := Bb8;have LBb1 := Bb1;replace Bb8 := Bb8.drew.extN LE NotIn.nil;replace Bb1 := Bb1.drew.extN LE NotIn.nil;replace E := E.drew.trans (LE.mono OY);obtain ⟨⟨A4, c4⟩, e6, k6⟩ := AL.2.2.2.2.2.2.1;replace HF := HF.on E;replace LW := LW.step E XLW;replace E := erx (Mut [(some gb8), (some gb1)]) w20
  replace HF := HF.and ((k6.map (fun _ h => h) : Per (Mut [(some gb8), (some gb1)]) w20 (fun b => Nums b A4 (limbs ((2 : Int) ^ k)))));obtain ⟨gb21, v0, y0, qb21, Gb21, Bb21, ey, ev0⟩ := AF.1;cases ey
  obtain rfl : vs 6 = v0 := Option.some.inj ev0;rw [e6] at Bb21;have Db21_b8 : Apart (some gb21) (some gb8) := Apart.of_lt (yf LBb8.lt) Gb21;have Db8_b21 := Db21_b8.symm;have Db21_b1 : Apart (some gb21) (some gb1) := Apart.of_lt (yf LBb1.lt) Gb21;have Db1_b21 := Db21_b1.symm;replace HF := HF.on E;replace LW := LW.step E XLW;replace E := erx (Mut [(some gb8), (some gb1)]) w20
  replace HF := HF.and ((Per.blkN Bb21 (NotIn.cons Db21_b8 (NotIn.cons Db21_b1 NotIn.nil)) : Per (Mut [(some gb8), (some gb1)]) w20 (fun b => Blk b gb21 42 #[.bool (decide ((2 : Int) ^ k < 0)), .slice A4 (limbs ((2 : Int) ^ k)).length c4])));have e8 := qb21;refine vj (τ := [(2, _), (3, _), (7, _), (11, .pointer (some ⟨gb21, 0, none⟩))]) ⟨rfl, rfl, rfl, congrArg some e8, trivial⟩ ?_
  clear AL AF AA LE AO OY e6 e8 k6 LBb8 LBb1;refine zc (srx (za rfl (qb Tryz.underlying42 rfl vh rfl Bb8 rfl (za rfl (qb Tryz.underlying42 rfl vh rfl (HF.on E).here.2 rfl (za rfl (zg en65 rfl ((div_two hM hm0 (by omega) (by omega) A1 A4 c1 c4 _ (HF.on E).here.1.1.1.1.2 (HF.on E).here.1.2).mono ?_))))))));rintro e w22 ⟨A5, c5, B6, c6, r, rfl, o5, hb⟩
  refine ⟨_, rfl, ?_⟩;have XC : ∀ q9, (Mut [(some gb8), (some gb1)]) q9 → q9 < w20.heap.size := (Mut.grow (Mut.grow Mut.none_ (yf Bb1.lt)) (yf Bb8.lt));have SC := Nat.le_trans LW.size E.size;have Ec := Ext.of_below hb No;replace Bb8 := Bb8.extN Ec NotIn.nil;replace Bb1 := Bb1.extN Ec NotIn.nil;replace E := E.trans Ec.no;have hS := SC;replace HF := HF.on E;replace LW := LW.step E XLW
  replace E := erx (Mut [(some gb8), (some gb1)]) w22;replace HF := HF.and (Per.ownX o5 XC);refine mvx rfl (za rfl (zm rfl rfl (za rfl (zm rfl rfl (za rfl (zm rfl rfl (za rfl (qu zbk ?_))))))));intro gb23 w24 Bb23 Eb23 Gb23;have Db23_b8 : Apart (some gb23) (some gb8) := Apart.of_lt (yf Bb8.lt) Gb23;have Db8_b23 := Db23_b8.symm
  have Db23_b1 : Apart (some gb23) (some gb1) := Apart.of_lt (yf Bb1.lt) Gb23;have Db1_b23 := Db23_b1.symm;have Gb23 : _ ≤ gb23 := Nat.le_trans E.size Gb23;have GLb23 := Nat.le_trans LW.size Gb23;replace Bb8 := Bb8.extN Eb23 NotIn.nil;replace Bb1 := Bb1.extN Eb23 NotIn.nil;replace E := E.trans Eb23.no;replace HF := HF.cons (ye Gb23);replace E := E.cons (some gb23)
  replace XLW := Mut.grow XLW (fun k e => Or.inr (Nat.le_trans LW.size ((ye Gb23) k e)));refine za rfl (qu zbk ?_);intro gb25 w26 Bb25 Eb25 Gb25;have Db25_b23 : Apart (some gb25) (some gb23) := Apart.of_lt (yf Bb23.lt) Gb25;have Db23_b25 := Db25_b23.symm;have Db25_b8 : Apart (some gb25) (some gb8) := Apart.of_lt (yf Bb8.lt) Gb25;have Db8_b25 := Db25_b8.symm
  have Db25_b1 : Apart (some gb25) (some gb1) := Apart.of_lt (yf Bb1.lt) Gb25;have Db1_b25 := Db25_b1.symm;have Gb25 : _ ≤ gb25 := Nat.le_trans E.size Gb25;have GLb25 := Nat.le_trans LW.size Gb25;replace Bb23 := Bb23.extN Eb25 NotIn.nil;replace Bb8 := Bb8.extN Eb25 NotIn.nil;replace Bb1 := Bb1.extN Eb25 NotIn.nil;replace E := E.trans Eb25.no;replace HF := HF.cons (ye Gb25)
  replace E := E.cons (some gb25);replace XLW := Mut.grow XLW (fun k e => Or.inr (Nat.le_trans LW.size ((ye Gb25) k e)));refine qf (qj vh rfl rfl Bb23 rfl rfl (Nat.le_of_ble_eq_true rfl) ?_);intro w27 Bx Eb23;replace Bb23 := Bx;replace Bb25 := Bb25.extN Eb23 (NotIn.cons Db25_b23 NotIn.nil);replace Bb8 := Bb8.extN Eb23 (NotIn.cons Db8_b23 NotIn.nil)
  replace Bb1 := Bb1.extN Eb23 (NotIn.cons Db1_b23 NotIn.nil);replace E := E.step1 Eb23 (Mut.tail Mut.head);replace HF := HF.on E;replace LW := LW.step E XLW;have SB : ∀ q9, Mut [(some gb25), (some gb8), (some gb1)] q9 → Mut [(some gb25), (some gb23), (some gb8), (some gb1)] q9 := (Mut.keep (Mut.skip (Mut.keep (Mut.keep Mut.nil_))));replace HF := HF.less SB
  replace XLW := fun k h => XLW k (SB k h);clear SB;replace E := erx (Mut [(some gb25), (some gb8), (some gb1)]) w27;replace HF := HF.and (Per.blkN Bb23 (NotIn.cons Db23_b25 (NotIn.cons Db23_b8 (NotIn.cons Db23_b1 NotIn.nil))));refine qf (qj vh rfl rfl Bb25 rfl rfl (Nat.le_of_ble_eq_true rfl) ?_);intro w28 Bx Eb25;replace Bb25 := Bx
  replace Bb8 := Bb8.extN Eb25 (NotIn.cons Db8_b25 NotIn.nil);replace Bb1 := Bb1.extN Eb25 (NotIn.cons Db1_b25 NotIn.nil);replace E := E.step1 Eb25 Mut.head;replace HF := HF.on E;replace LW := LW.step E XLW;have SB : ∀ q9, Mut [(some gb8), (some gb1)] q9 → Mut [(some gb25), (some gb8), (some gb1)] q9 := (Mut.skip (Mut.keep (Mut.keep Mut.nil_)));replace HF := HF.less SB
  replace XLW := fun k h => XLW k (SB k h);clear SB;replace E := erx (Mut [(some gb8), (some gb1)]) w28;replace HF := HF.and (Per.blkN Bb25 (NotIn.cons Db25_b8 (NotIn.cons Db25_b1 NotIn.nil)));refine anx rfl (srx (za rfl (qb Tryz.underlying42 rfl vh rfl (HF.on E).here.1.2 rfl (qf (qj vh rfl rfl Bb1 rfl rfl (Nat.le_of_ble_eq_true rfl) ?_)))));intro w29 Bx Eb1
  replace Bb1 := Bx;replace Bb8 := Bb8.extN Eb1 (NotIn.cons Db8_b1 NotIn.nil);replace E := E.step1 Eb1 (Mut.tail Mut.head);replace HF := HF.on E;replace LW := LW.step E XLW;have SB : ∀ q9, Mut [(some gb8)] q9 → Mut [(some gb8), (some gb1)] q9 := (Mut.keep (Mut.skip Mut.nil_));replace HF := HF.less SB;replace XLW := fun k h => XLW k (SB k h);clear SB;replace E := erx (Mut [(some gb8)]) w29
  replace HF := HF.and (Per.blkN Bb1 (NotIn.cons Db1_b8 NotIn.nil));refine anx rfl (zt (zr (rs := [.cell 2 42, .tmp 3]) (vs := [_, _]) rfl ⟨⟨_, rfl, zgk Tryz.underlying42 rfl vh (HF.on E).here.2 rfl⟩, rfl, trivial⟩ ?_));exact ⟨A5, c5, rfl, ((HF.on E).here.1.1.1.2).mono hS, (LW.step E XLW).toBelow⟩
theorem whole_fin : Calls Tryz.prog 19 #[.int .u64 ((a : Nat) : Int)] w (vo w (kb a) 0) := by
 by_cases h0 : ve a = 0
 · exact whole_zero w a ha hf h0
 · exact whole_num w a ha hf h0
end
end
noncomputable def cmpB (a : Nat) (i : Int) : Int := if zvv (kb a) i ≠ 0 then zvv (kb a) i else if lostB a then (if ng a then -1 else 1) else 0
theorem cmp_trunc {a q : Nat} (hf : rg a < 9218868437227405312) (h1 : vl q = ve a * 2 ^ 1074) (h2 : q ≤ rg a) : cmpF a (Ieee.double.word (ng a) q) = (if lostB a then (if ng a then -1 else 1) else 0) ∧ gm a (Ieee.double.word (ng a) q) = true := by
 obtain ⟨w1, w2, w3⟩ := jn (ng a) q (by omega);have hn : isN (Ieee.double.word (ng a) q) = false := jz (by rw [w1]; omega);have ho : gm a (Ieee.double.word (ng a) q) = true := by rw [gm, jz hf, hn]; rfl
 refine ⟨?_, ho⟩;have hl : lostB a = decide (q < rg a) := by
  refine (lost_eq ?_).symm;rw [isWh_iff, ← h1];constructor
  · intro h e; have := vl_lt h; omega
  · intro h;rcases Nat.lt_or_ge q (rg a) with h' | h'
    · exact h'
    · exact absurd (congrArg vl (show rg a = q by omega)) h
 rw [cmpF, if_pos ho, hl];obtain ⟨p1, p2⟩ := ydz a;obtain ⟨p3, p4⟩ := ydz (Ieee.double.word (ng a) q);rw [w1, w2] at p3 p4;unfold ordI;cases hs : ng a with
 | true =>
  rw [hs] at p3;rw [p1 hs, p3 rfl];by_cases h : q < rg a
  · rw [decide_eq_true h, if_pos (by omega)]; rfl
  · rw [decide_eq_false h, if_neg (by omega), if_neg (by omega)]; rfl
 | false =>
  rw [hs] at p4;rw [p2 hs, p4 rfl];by_cases h : q < rg a
  · rw [decide_eq_true h, if_neg (by omega), if_pos (by omega)]; rfl
  · rw [decide_eq_false h, if_neg (by omega), if_neg (by omega)]; rfl
theorem f2i_one (s : Bool) : floatToIntVal .f64 (Ieee.double.word s 4607182418800017408) .i64 = some (if s then -1 else 1) := by cases s <;> decide +kernel
def infV (a : Nat) : Int := if ng a then -1 else 1
section
variable (w : World) (a : Nat) (ha : a < 18446744073709551616)
include ha
section
variable (n1 : Bool) (A : Option Addr) (c : Nat) (xs : List Nat) (hx : Nums w A xs) (hl : xs.length ≤ 9223372036854775807)
include hx hl
theorem cmpbig_nan (hn : isN a = true) : Calls Tryz.prog 22 #[.int .u64 ((a : Nat) : Int), .agg #[.bool n1, .slice A xs.length c]] w fun e w' => e = .returned (.tuple #[.int .i64 0, .bool false]) ∧ Below w.heap.size w w' := by
 have _ := And.intro ha (And.intro hx hl);refine zo Tryz.func22 rfl Tryz.ntmps22 rfl ?_;have LW := erx (No) w;have XLW := grx (No) w;have E := erx (No) w;refine srx (za rfl (gl rfl ?_));intro gb1 w2 Bb1 Eb1 Gb1;have Gb1 : _ ≤ gb1 := Nat.le_trans E.size Gb1;have GLb1 := Nat.le_trans LW.size Gb1;replace E := E.trans Eb1.no;replace E := E.cons (some gb1)
 replace XLW := Mut.grow XLW (fun k e => Or.inr (Nat.le_trans LW.size ((ye Gb1) k e)));replace LW := LW.step E XLW;have SB : ∀ q9, No q9 → Mut [(some gb1)] q9 := (Mut.skip Mut.nil_);replace XLW := fun k h => XLW k (SB k h);clear SB;replace E := erx (No) w2
 refine avx rfl (anx rfl (srx (mvx rfl (za rfl (ym (b := a) om rfl (anx rfl (zb (srx (mvx rfl (mvx rfl (za rfl (jm rfl rfl (mvx rfl (zv 17 (.bool true) rfl ((by rw [ji, hn] : (.bool (qy a a != some .eq) : Value) = _)) (za rfl (zu rfl (za rfl (zu rfl (za rfl (zu rfl (za rfl (yk rfl rfl (rnx (zz rfl (srx (avx rfl (anx rfl (zt (zq (zr (rs := [.tmp 4, .tmp 5]) (vs := [_, _]) rfl ⟨rfl, rfl, trivial⟩ ?_))))))))))))))))))))))))))))))
 exact ⟨rfl, (LW.step E XLW).toBelow⟩
theorem cmpbig_bad (hn : isN a = false) (hg : va n1 xs = false) : Calls Tryz.prog 22 #[.int .u64 ((a : Nat) : Int), .agg #[.bool n1, .slice A xs.length c]] w fun e w' => e = .returned (.tuple #[.int .i64 0, .bool false]) ∧ Below w.heap.size w w' := by
 have _ := ha;refine zo Tryz.func22 rfl Tryz.ntmps22 rfl ?_;have HF : Per (No) w (fun _ => True) := Per.true_;have LW := erx (No) w;have XLW := grx (No) w;have E := erx (No) w;replace HF := HF.on E;replace LW := LW.step E XLW;replace E := erx (No) w;replace HF := HF.and (Per.nums0 hx);refine srx (za rfl (gl rfl ?_));intro gb1 w2 Bb1 Eb1 Gb1
 have Gb1 : _ ≤ gb1 := Nat.le_trans E.size Gb1;have GLb1 := Nat.le_trans LW.size Gb1;replace E := E.trans Eb1.no;replace HF := HF.cons (ye Gb1);replace E := E.cons (some gb1);replace XLW := Mut.grow XLW (fun k e => Or.inr (Nat.le_trans LW.size ((ye Gb1) k e)));replace HF := HF.on E;replace LW := LW.step E XLW;have SB : ∀ q9, No q9 → Mut [(some gb1)] q9 := (Mut.skip Mut.nil_)
 replace HF := HF.less SB;replace XLW := fun k h => XLW k (SB k h);clear SB;replace E := erx (No) w2;replace HF := HF.and (Per.blkN Bb1 NotIn.nil)
 refine avx rfl (anx rfl (srx (mvx rfl (za rfl (ym (b := a) om rfl (anx rfl (zb (srx (mvx rfl (mvx rfl (za rfl (jm rfl rfl (mvx rfl (zv 17 (.bool false) rfl ((by rw [ji, hn] : (.bool (qy a a != some .eq) : Value) = _)) (onx rfl (qb Tryz.underlying42 rfl vh rfl (HF.on E).here.2 rfl (onx rfl (zg en54 rfl ((vr n1 c _ A xs hl (HF.on E).here.1.2).mono ?_)))))))))))))))))))
 rintro e w3 ⟨rfl, hb⟩;refine ⟨_, rfl, ?_⟩;replace E := blx E hb;refine zv 19 (.bool false) rfl ((by rw [hg] : (.bool (va n1 xs) : Value) = _)) (onx rfl (jj rfl (za rfl (yi rfl rfl (rnx (zz rfl (srx (avx rfl (anx rfl (zt (zq (zr (rs := [.tmp 4, .tmp 5]) (vs := [_, _]) rfl ⟨rfl, rfl, trivial⟩ ?_))))))))))));exact ⟨rfl, (LW.step E XLW).toBelow⟩
end
section
variable (i : Int) (A : Option Addr) (c : Nat) (hi : i.natAbs < B18 ^ 30) (hx : Nums w A (limbs i)) (hn : isN a = false)
include hi hx hn
theorem cmpbig_inf (hinf : rg a = 9218868437227405312) : Calls Tryz.prog 22 #[.int .u64 ((a : Nat) : Int), .agg #[.bool (decide (i < 0)), .slice A (limbs i).length c]] w fun e w' => e = .returned (.tuple #[.int .i64 (infV a), .bool true]) ∧ Below w.heap.size w w' := by
 refine zo Tryz.func22 rfl Tryz.ntmps22 rfl ?_;have HF : Per (No) w (fun _ => True) := Per.true_;have LW := erx (No) w;have XLW := grx (No) w;have E := erx (No) w;replace HF := HF.on E;replace LW := LW.step E XLW;replace E := erx (No) w;replace HF := HF.and (Per.nums0 hx);refine srx (za rfl (gl rfl ?_));intro gb1 w2 Bb1 Eb1 Gb1;have Gb1 : _ ≤ gb1 := Nat.le_trans E.size Gb1
 have GLb1 := Nat.le_trans LW.size Gb1;replace E := E.trans Eb1.no;replace HF := HF.cons (ye Gb1);replace E := E.cons (some gb1);replace XLW := Mut.grow XLW (fun k e => Or.inr (Nat.le_trans LW.size ((ye Gb1) k e)));replace HF := HF.on E;replace LW := LW.step E XLW;have SB : ∀ q9, No q9 → Mut [(some gb1)] q9 := (Mut.skip Mut.nil_);replace HF := HF.less SB
 replace XLW := fun k h => XLW k (SB k h);clear SB;replace E := erx (No) w2;replace HF := HF.and (Per.blkN Bb1 NotIn.nil)
 refine avx rfl (anx rfl (srx (mvx rfl (za rfl (ym (b := a) om rfl (anx rfl (zb (srx (mvx rfl (mvx rfl (za rfl (jm rfl rfl (mvx rfl (zv 17 (.bool false) rfl ((by rw [ji, hn] : (.bool (qy a a != some .eq) : Value) = _)) (onx rfl (qb Tryz.underlying42 rfl vh rfl (HF.on E).here.2 rfl (onx rfl (zg en54 rfl ((zqk A c _ hi (HF.on E).here.1.2).mono ?_)))))))))))))))))))
 rintro e w3 ⟨rfl, hb⟩;refine ⟨_, rfl, ?_⟩;replace E := blx E hb;refine onx rfl (jj rfl (za rfl (yi rfl rfl (rnx (zj rfl (zf (zc (zb (srx (mvx rfl (za rfl (zg zqv rfl ((jd _ a ha).mono ?_)))))))))))));rintro e w4 ⟨rfl, hb⟩;refine ⟨_, rfl, ?_⟩;replace E := blx E hb
 refine zv 23 (.bool true) rfl ((by rw [decide_eq_true hinf] : (.bool (decide (rg a = 9218868437227405312)) : Value) = _)) (rnx (zz rfl (srx (mvx rfl (za rfl (zg en43 rfl ((copysign_any _ 4607182418800017408 (by decide) a ha).mono ?_)))))));rintro e w5 ⟨rfl, hb⟩;refine ⟨_, rfl, ?_⟩;replace E := blx E hb
 refine zv 25 (.float .f64 (Ieee.double.word (ng a) 4607182418800017408)) rfl ((by rw [show rg 4607182418800017408 = 4607182418800017408 by decide] : (.float .f64 (Ieee.double.word (ng a) (rg 4607182418800017408)) : Value) = _)) (za rfl (ypq (z := infV a) Tryz.underlying3 (by rw [Tryz.underlying78]; rfl) rfl (f2i_one (ng a)) (avx rfl (anx rfl (zt (zq (zr (rs := [.tmp 4, .tmp 5]) (vs := [_, _]) rfl ⟨rfl, rfl, trivial⟩ ?_)))))))
 exact ⟨rfl, (LW.step E XLW).toBelow⟩
theorem cmpbig_fin (hf : rg a < 9218868437227405312) : Calls Tryz.prog 22 #[.int .u64 ((a : Nat) : Int), .agg #[.bool (decide (i < 0)), .slice A (limbs i).length c]] w fun e w' => e = .returned (.tuple #[.int .i64 (cmpB a i), .bool true]) ∧ Below w.heap.size w w' := by
 obtain ⟨q, hq1, hq2, hq3⟩ := zuq hf;obtain ⟨t1, t2⟩ := cmp_trunc hf hq1 hq2;rw [← hq3] at t1 t2;have hbr : ykq (kx .zero a) = kx .zero a := bareN_num (jz (by rw [hq3, (jn (ng a) q (by omega)).1]; omega));refine zo Tryz.func22 rfl Tryz.ntmps22 rfl ?_;have HF : Per (No) w (fun _ => True) := Per.true_;have LW := erx (No) w;have XLW := grx (No) w
 have E := erx (No) w;replace HF := HF.on E;replace LW := LW.step E XLW;replace E := erx (No) w;replace HF := HF.and (Per.nums0 hx);refine srx (za rfl (gl rfl ?_));intro gb1 w2 Bb1 Eb1 Gb1;have Gb1 : _ ≤ gb1 := Nat.le_trans E.size Gb1;have GLb1 := Nat.le_trans LW.size Gb1;replace E := E.trans Eb1.no;replace HF := HF.cons (ye Gb1);replace E := E.cons (some gb1)
 replace XLW := Mut.grow XLW (fun k e => Or.inr (Nat.le_trans LW.size ((ye Gb1) k e)));replace HF := HF.on E;replace LW := LW.step E XLW;have SB : ∀ q9, No q9 → Mut [(some gb1)] q9 := (Mut.skip Mut.nil_);replace HF := HF.less SB;replace XLW := fun k h => XLW k (SB k h);clear SB;replace E := erx (No) w2;replace HF := HF.and (Per.blkN Bb1 NotIn.nil)
 refine avx rfl (anx rfl (srx (mvx rfl (za rfl (ym (b := a) om rfl (anx rfl (zb (srx (mvx rfl (mvx rfl (za rfl (jm rfl rfl (mvx rfl (zv 17 (.bool false) rfl ((by rw [ji, hn] : (.bool (qy a a != some .eq) : Value) = _)) (onx rfl (qb Tryz.underlying42 rfl vh rfl (HF.on E).here.2 rfl (onx rfl (zg en54 rfl ((zqk A c _ hi (HF.on E).here.1.2).mono ?_)))))))))))))))))))
 rintro e w3 ⟨rfl, hb⟩;refine ⟨_, rfl, ?_⟩;replace E := blx E hb;refine onx rfl (jj rfl (za rfl (yi rfl rfl (rnx (zj rfl (zf (zc (zb (srx (mvx rfl (za rfl (zg zqv rfl ((jd _ a ha).mono ?_)))))))))))));rintro e w4 ⟨rfl, hb⟩;refine ⟨_, rfl, ?_⟩;replace E := blx E hb
 refine zv 23 (.bool false) rfl ((by rw [decide_eq_false (by omega)] : (.bool (decide (rg a = 9218868437227405312)) : Value) = _)) (rnx (zj rfl (zf (zc (srx (mvx rfl (za rfl (zg en19 rfl ((whole_fin _ a ha hf).mono ?_)))))))));rintro e w5 ⟨A2, c2, rfl, o2, hb⟩;refine ⟨_, rfl, ?_⟩;have XC : ∀ q9, (No) q9 → q9 < w4.heap.size := Mut.none_;replace E := blx E hb
 replace HF := HF.on E;replace LW := LW.step E XLW;replace E := erx (No) w5;replace HF := HF.and (Per.own o2 XC);refine mvx rfl (za rfl (zm rfl rfl (za rfl (zm rfl rfl (za rfl (qu zbk ?_))))));intro gb6 w7 Bb6 Eb6 Gb6;have Gb6 : _ ≤ gb6 := Nat.le_trans E.size Gb6;have GLb6 := Nat.le_trans LW.size Gb6;replace E := E.trans Eb6.no;replace HF := HF.cons (ye Gb6)
 replace E := E.cons (some gb6);replace XLW := Mut.grow XLW (fun k e => Or.inr (Nat.le_trans LW.size ((ye Gb6) k e)));refine qf (qj vh rfl rfl Bb6 rfl rfl (Nat.le_of_ble_eq_true rfl) ?_);intro w8 Bx Eb6;replace Bb6 := Bx;replace E := E.step1 Eb6 Mut.head;replace HF := HF.on E;replace LW := LW.step E XLW;have SB : ∀ q9, No q9 → Mut [(some gb6)] q9 := (Mut.skip Mut.nil_)
 replace HF := HF.less SB;replace XLW := fun k h => XLW k (SB k h);clear SB;replace E := erx (No) w8;replace HF := HF.and (Per.blkN Bb6 NotIn.nil)
 refine anx rfl (zb (srx (za rfl (qb Tryz.underlying42 rfl vh rfl (HF.on E).here.2 rfl (za rfl (qb Tryz.underlying42 rfl vh rfl (HF.on E).here.1.1.2 rfl (za rfl (zg en68 rfl ((cmpI_ A2 A c2 c _ (ymx hf) hi (HF.on E).here.1.2 (HF.on E).here.1.1.1.2).mono ?_)))))))));rintro e w9 ⟨rfl, hb⟩;refine ⟨_, rfl, ?_⟩;replace E := blx E hb
 refine anx rfl (srx (mvx rfl (za rfl (vw rfl rfl (rnx (yh rfl (fun hc => ?_) (fun hc => ?_)))))))
 ·
  have hc := bne_iff_ne.1 hc;refine srx (mvx rfl (avx rfl (anx rfl (zt (zq (zr (rs := [.tmp 4, .tmp 5]) (vs := [_, _]) rfl ⟨rfl, rfl, trivial⟩ ?_))))));exact ⟨by rw [cmpB, if_pos hc]; rfl, (LW.step E XLW).toBelow⟩
 ·
  have hc : zvv (kb a) i = 0 := by simpa using hc
  refine zf (zc (srx (mvx rfl (mvx rfl (za rfl (zg en60 rfl ((ymq _ a hf).mono ?_)))))));rintro e w10 ⟨rfl, hb⟩;refine ⟨_, rfl, ?_⟩;replace E := blx E hb;refine za rfl (zg en44 rfl ((bare_any _ (kx .zero a)).mono ?_));rintro e w11 ⟨rfl, hb⟩;refine ⟨_, rfl, ?_⟩;replace E := blx E hb
  refine zv 42 (.int .u64 ((kx .zero a : Nat) : Int)) rfl ((by rw [hbr] : (.int .u64 ((ykq (kx .zero a) : Nat) : Int) : Value) = _)) (za rfl (zg en30 rfl ((cmp_any_r _ a (kx .zero a)).mono ?_)));rintro e w12 ⟨rfl, hb⟩;refine ⟨_, rfl, ?_⟩;replace E := blx E hb
  refine mvx rfl (za rfl (zm rfl rfl (za rfl (zm rfl rfl (avx rfl (anx rfl (srx (mvx rfl (avx rfl (anx rfl (zt (zr (rs := [.tmp 4, .tmp 5]) (vs := [_, _]) rfl ⟨rfl, rfl, trivial⟩ ?_))))))))))));exact ⟨by rw [cmpB, if_neg (by rw [hc]; decide), ← t1]; rfl, (LW.step E XLW).toBelow⟩
end
end
def zcz (a : Nat) (n1 : Bool) (xs : List Nat) : Bool := !(isN a) && va n1 xs
noncomputable def yaq (a : Nat) (n1 : Bool) (xs : List Nat) : Int := if zcz a n1 xs then (if rg a = 9218868437227405312 then infV a else cmpB a (num n1 xs)) else 0
section
variable (w : World) (a : Nat) (ha : a < 18446744073709551616) (n1 : Bool) (A : Option Addr) (c : Nat) (xs : List Nat) (hx : Nums w A xs) (hl : xs.length ≤ 9223372036854775807)
include ha hx hl
theorem cmpbig_any : Calls Tryz.prog 22 #[.int .u64 ((a : Nat) : Int), .agg #[.bool n1, .slice A xs.length c]] w fun e w' => e = .returned (.tuple #[.int .i64 (yaq a n1 xs), .bool (zcz a n1 xs)]) ∧ Below w.heap.size w w' := by
 cases hn : isN a with
 | true =>
  have h : zcz a n1 xs = false := by rw [zcz, hn]; rfl
  rw [yaq, h, if_neg (by decide)];exact cmpbig_nan w a ha n1 A c xs hx hl hn
 | false =>
  cases hg : va n1 xs with
  | false =>
   have h : zcz a n1 xs = false := by rw [zcz, hg, Bool.and_false]
   rw [yaq, h, if_neg (by decide)];exact cmpbig_bad w a ha n1 A c xs hx hl hn hg
  | true =>
   have h : zcz a n1 xs = true := by rw [zcz, hn, hg]; rfl
   rw [yaq, h, if_pos rfl];obtain ⟨i, rfl, rfl, hi⟩ := good_is hg;rw [oh];by_cases hinf : rg a = 9218868437227405312
   · rw [if_pos hinf];exact cmpbig_inf w a ha i A c hi hx hn hinf
   · rw [if_neg hinf];have h1 := of_decide_eq_false hn;exact cmpbig_fin w a ha i A c hi hx hn (by omega)
end
theorem lim_posR {j : Int} (h0 : j ≠ 0) : 0 < (limbs j).length := by rw [vi]; exact zvq vf (by omega)
theorem val_dropL {b : Nat} (L : List Nat) (j : Nat) (h : j < L.length) : val b (L.drop j) = L.getD j 0 + b * val b (L.drop (j + 1)) := by
 rw [List.drop_eq_getElem_cons h, val, List.getD_eq_getElem?_getD, List.getElem?_eq_getElem h, Option.getD_some]
def upM (b : Nat) (L : List Nat) (k : Nat) : Nat := val b (L.drop (L.length - k)) % 2147483647
theorem upM_zero (b : Nat) (L : List Nat) : upM b L 0 = 0 := by rw [upM, Nat.sub_zero, List.drop_length]; rfl
theorem upM_lt (b : Nat) (L : List Nat) (k : Nat) : upM b L k < 2147483647 := Nat.mod_lt _ (by decide)
theorem upM_succ {b : Nat} {L : List Nat} {k : Nat} (h : k < L.length) : upM b L (k + 1) = (upM b L k * b + L.getD (L.length - 1 - k) 0) % 2147483647 := by
 have key : ∀ V l : Nat, (V % 2147483647 * b + l) % 2147483647 = (V * b + l) % 2147483647 := fun V l => by rw [← Nat.mod_add_mod, Nat.mod_mul_mod, Nat.mod_add_mod]
 unfold upM;rw [val_dropL L (L.length - (k + 1)) (by omega), show L.length - (k + 1) + 1 = L.length - k by omega, show L.length - (k + 1) = L.length - 1 - k by omega, Nat.add_comm, Nat.mul_comm b];exact (key _ _).symm
theorem upM_limbs (i : Int) : upM B18 (limbs i) (limbs i).length = i.natAbs % 2147483647 := by rw [upM, Nat.sub_self, List.drop_zero, vi, kc vf]
def yuk (i : Int) : Int := if i < 0 then 0 - ((i.natAbs % 2147483647 : Nat) : Int) else ((i.natAbs % 2147483647 : Nat) : Int)
theorem ex_add64 : Ext_ Tryz.prog 72 add64Entry := ⟨_, Tryz.func72, by kernel_rfl, by kernel_rfl, by kernel_rfl, by kernel_rfl⟩
theorem run_add64N (x y : Nat) (w : World) : (add64Entry #[.int .u64 ((x : Nat) : Int), .int .u64 ((y : Nat) : Int), .int .u64 0]).run Tryz.prog w =
 .ok (.tuple #[.int .u64 (((x + y) % 18446744073709551616 : Nat) : Int), .int .u64 (((x + y) / 18446744073709551616 : Nat) : Int)]) w := by
 rw [run_add64 _ _ 0 (by omega) (by omega) (by omega) (by omega), Int.add_zero, ← Int.natCast_add];rfl
theorem hash_round {h l hi lo c s : Nat} (h1 : hi * 18446744073709551616 + lo = h * B18) (h2 : c * 18446744073709551616 + s = lo + l) : ((hi + c) * 18446744073709551616 + s) % 2147483647 = (h * B18 + l) % 2147483647 := by
 have e : (hi + c) * 18446744073709551616 + s = h * B18 + l := by rw [Nat.add_mul, Nat.add_assoc, h2, ← Nat.add_assoc, h1]
 rw [e]
section
variable (i : Int) (A : Option Addr) (c : Nat) (w : World) (hi : i.natAbs < B18 ^ 30) (hx : Nums w A (limbs i))
include hi hx
theorem hashbig_zero (h0 : i = 0) : Calls Tryz.prog 29 #[.agg #[.bool (decide (i < 0)), .slice A (limbs i).length c]] w fun e w' => e = .returned (.int .i64 (yuk i)) ∧ Below w.heap.size w w' := by
 have hl : ((limbs i).length : Int) = 0 := by rw [h0, je]; rfl
 refine zo Tryz.func29 rfl Tryz.ntmps29 rfl ?_;have HF : Per (No) w (fun _ => True) := Per.true_;have LW := erx (No) w;have XLW := grx (No) w;have E := erx (No) w;replace HF := HF.on E;replace LW := LW.step E XLW;replace E := erx (No) w;replace HF := HF.and (Per.nums0 hx);refine srx (za rfl (gl rfl ?_));intro gb1 w2 Bb1 Eb1 Gb1;have Gb1 : _ ≤ gb1 := Nat.le_trans E.size Gb1
 have GLb1 := Nat.le_trans LW.size Gb1;replace E := E.trans Eb1.no;replace HF := HF.cons (ye Gb1);replace E := E.cons (some gb1);replace XLW := Mut.grow XLW (fun k e => Or.inr (Nat.le_trans LW.size ((ye Gb1) k e)));replace HF := HF.on E;replace LW := LW.step E XLW;have SB : ∀ q9, No q9 → Mut [(some gb1)] q9 := (Mut.skip Mut.nil_);replace HF := HF.less SB
 replace XLW := fun k h => XLW k (SB k h);clear SB;replace E := erx (No) w2;replace HF := HF.and (Per.blkN Bb1 NotIn.nil);refine anx rfl (zb (srx (za rfl (qb Tryz.underlying42 rfl vh rfl (HF.on E).here.2 rfl (za rfl (zg en54 rfl ((zqk A c _ hi (HF.on E).here.1.2).mono ?_)))))));rintro e w3 ⟨rfl, hb⟩;refine ⟨_, rfl, ?_⟩;replace E := blx E hb
 refine za rfl (jj rfl (rnx (zj rfl (zf (zc (srx (anx rfl (zb (srx (za rfl (ze Tryz.underlying42 rfl zkz (by decide) rfl (za rfl (zy Tryz.underlying40 rfl rfl (HF.on E).here.2 rfl (za rfl (gx Tryz.underlying40 rfl (za rfl (yd rfl rfl (zp (by omega)) (anx rfl (zw (kf (zb (srx (mvx rfl (za rfl (qz rfl rfl (rnx (yc 16 (.bool false) rfl ((by rw [hl]; rfl : (.bool (decide (0 ≤ (((((limbs i).length : Nat)) : Int) - 1))) : Value) = _)) (zj rfl (yr (zn (zn (ya (zc (zb (srx ?_)))))))))))))))))))))))))))))))))))
 refine za rfl (ze Tryz.underlying42 rfl sz4 (by decide) rfl (za rfl (zy Tryz.underlying4 rfl rfl (HF.on E).here.2 rfl (rnx (yc 40 (.bool false) rfl ((by rw [h0]; rfl : (.bool (decide (i < 0)) : Value) = _)) (zj rfl (zf (zc (srx (mvx rfl (za rfl (yx (z := 0) Tryz.underlying3 Tryz.underlying32 rfl (by kernel_rfl) (anx rfl (zt (zr (rs := [.tmp 2]) (vs := [_]) rfl ⟨rfl, trivial⟩ ?_)))))))))))))))
 exact ⟨by rw [h0]; rfl, (LW.step E XLW).toBelow⟩
theorem hashbig_num (h0 : i ≠ 0) : Calls Tryz.prog 29 #[.agg #[.bool (decide (i < 0)), .slice A (limbs i).length c]] w fun e w' => e = .returned (.int .i64 (yuk i)) ∧ Below w.heap.size w w' := by
 have hl2 := gf hi;obtain ⟨bx, ox, rfl, hbx, hcx⟩ := hx.2 (lim_posR h0);have hsm := ztv i;refine zo Tryz.func29 rfl Tryz.ntmps29 rfl ?_;have HF : Per (No) w (fun _ => True) := Per.true_;have LW := erx (No) w;have XLW := grx (No) w;have E := erx (No) w;replace HF := HF.on E;replace LW := LW.step E XLW;replace E := erx (No) w;replace HF := HF.and (Per.nums0 hx)
 refine srx (za rfl (gl rfl ?_));intro gb1 w2 Bb1 Eb1 Gb1;have Gb1 : _ ≤ gb1 := Nat.le_trans E.size Gb1;have GLb1 := Nat.le_trans LW.size Gb1;replace E := E.trans Eb1.no;replace HF := HF.cons (ye Gb1);replace E := E.cons (some gb1);replace XLW := Mut.grow XLW (fun k e => Or.inr (Nat.le_trans LW.size ((ye Gb1) k e)));replace HF := HF.on E;replace LW := LW.step E XLW
 have SB : ∀ q9, No q9 → Mut [(some gb1)] q9 := (Mut.skip Mut.nil_);replace HF := HF.less SB;replace XLW := fun k h => XLW k (SB k h);clear SB;replace E := erx (No) w2;replace HF := HF.and (Per.blkN Bb1 NotIn.nil)
 refine anx rfl (zb (srx (za rfl (qb Tryz.underlying42 rfl vh rfl (HF.on E).here.2 rfl (za rfl (zg en54 rfl ((zqk (some ⟨bx, ox, none⟩) c _ hi (HF.on E).here.1.2).mono ?_)))))));rintro e w3 ⟨rfl, hb⟩;refine ⟨_, rfl, ?_⟩;replace E := blx E hb
 refine za rfl (jj rfl (rnx (zj rfl (zf (zc (srx (anx rfl (zb (srx (za rfl (ze Tryz.underlying42 rfl zkz (by decide) rfl (za rfl (zy Tryz.underlying40 rfl rfl (HF.on E).here.2 rfl (za rfl (gx Tryz.underlying40 rfl (za rfl (yd rfl rfl (zp (by omega)) (anx rfl (zw ?_)))))))))))))))))));replace HF := HF.on E
 replace LW := LW.step E XLW;replace E := erx (No) w3
 refine jo (ι := Nat) (fun k => [(1, .pointer (some ⟨gb1, 0, none⟩)), (3, .int .u64 ((upM B18 (limbs i) k : Nat) : Int)), (4, .int .i64 (((limbs i).length : Int) - 1 - ((k : Nat) : Int)))]) (fun k w' => Ext (No) w3 w' ∧ (k ≤ (limbs i).length)) (fun k => (limbs i).length - k) 0 ⟨rfl, congrArg (fun z : Nat => some (Value.int .u64 (z : Int))) (upM_zero _ _).symm, congrArg (fun z : Int => some (Value.int .i64 z)) (by omega), trivial⟩ ⟨Ext.refl _ _, Nat.zero_le _⟩ ?_
 rintro k w5 ⟨M4, hk⟩;have XM4 := grx (No) w3;replace E := E.trans M4;replace HF := HF.on E;replace LW := LW.step E XLW;replace E := erx (No) w5;refine zb (srx (mvx rfl (za rfl (qz rfl rfl (rnx (yc 16 (.bool (decide (k < (limbs i).length))) rfl (kg (by omega)) ?_))))));have hup := upM_lt B18 (limbs i) k;refine yh rfl (fun hl => ?_) (fun hl => ?_)
 ·
  have hl := of_decide_eq_true hl;obtain ⟨h, hh⟩ : ∃ h, h = upM B18 (limbs i) k := ⟨_, rfl⟩;obtain ⟨l, hll⟩ : ∃ l, l = (limbs i).getD ((limbs i).length - 1 - k) 0 := ⟨_, rfl⟩;have hlb : l < 1000000000000000000 := by rw [hll]; exact yck (by decide) hsm _
  have hnx : upM B18 (limbs i) (k + 1) = (h * B18 + l) % 2147483647 := by rw [upM_succ hl, ← hh, ← hll]
  rw [← hh] at hup;refine yc 3 (.int .u64 ((h : Nat) : Int)) rfl ((by rw [hh] : (.int .u64 ((upM B18 (limbs i) k : Nat) : Int) : Value) = _)) ?_;obtain ⟨p, hp⟩ : ∃ p, p = h * 1000000000000000000 / 18446744073709551616 := ⟨_, rfl⟩;obtain ⟨q, hq⟩ : ∃ q, q = h * 1000000000000000000 % 18446744073709551616 := ⟨_, rfl⟩;have hpq : p * 18446744073709551616 + q = h * B18 := km hp hq
  have hpb : p < 2147483647 := by rw [hp]; exact Nat.div_lt_of_lt_mul (Nat.lt_of_lt_of_le (Nat.mul_lt_mul_of_pos_right hup (by decide)) (by decide))
  have hqb : q < 18446744073709551616 := xo (by decide) hq;obtain ⟨t, ht⟩ : ∃ t, t = (q + l) / 18446744073709551616 := ⟨_, rfl⟩;obtain ⟨s, hs⟩ : ∃ s, s = (q + l) % 18446744073709551616 := ⟨_, rfl⟩;have hts : t * 18446744073709551616 + s = q + l := km ht hs;have hsb : s < 18446744073709551616 := xo (by decide) hs
  have htb : t < 2 := by rw [ht]; exact Nat.div_lt_of_lt_mul (by omega)
  refine zf (zc (zb (zw (srx (mvx rfl (za rfl (zg en70 rfl ((yhv h 1000000000000000000 (by omega) (by decide) _).mono ?_))))))));rintro e w6 ⟨rfl, hb⟩;refine ⟨_, rfl, ?_⟩;replace E := blx E hb
  refine zv 21 (.tuple #[.int .u64 ((p : Nat) : Int), .int .u64 ((q : Nat) : Int)]) rfl ((by rw [hp, hq] : (.tuple #[.int .u64 ((h * 1000000000000000000 / 18446744073709551616 : Nat) : Int), .int .u64 ((h * 1000000000000000000 % 18446744073709551616 : Nat) : Int)] : Value) = _)) (mvx rfl (za rfl (zm rfl rfl (za rfl (zm rfl rfl (avx rfl (anx rfl (srx (mvx rfl (za rfl (ze Tryz.underlying42 rfl zkz (by decide) rfl (za rfl (zy Tryz.underlying40 rfl rfl (HF.on E).here.2 rfl (mvx rfl (za rfl (yn (j := (limbs i).length - 1 - k) Tryz.underlying40 zfv rfl rfl (by omega) (by omega) ?_))))))))))))))))
  obtain ⟨b9, o9, hA9, _, hc9⟩ := ((HF.on E).here.1.2).2 (lim_posR h0);obtain ⟨rfl, rfl⟩ : b9 = bx ∧ o9 = ox := by simpa using hA9.symm
  refine za rfl (yl Tryz.underlying32 rfl rfl (hc9 ((limbs i).length - 1 - k) (by omega)) (zv 30 (.int .u64 ((l : Nat) : Int)) rfl ((by rw [nth_nat, hll] : (.int .u64 (nth (limbs i) ((limbs i).length - 1 - k)) : Value) = _)) (za rfl (ztx (args := [.int .u64 ((q : Nat) : Int), .int .u64 ((l : Nat) : Int), .int .u64 0]) ex_add64 rfl (run_add64N q l _) (zv 31 (.tuple #[.int .u64 ((s : Nat) : Int), .int .u64 ((t : Nat) : Int)]) rfl ((by rw [hs, ht] : (.tuple #[.int .u64 (((q + l) % 18446744073709551616 : Nat) : Int), .int .u64 (((q + l) / 18446744073709551616 : Nat) : Int)] : Value) = _)) (mvx rfl (za rfl (zm rfl rfl (za rfl (zm rfl rfl (avx rfl (anx rfl (zh (mvx rfl (mvx rfl (za rfl (yb rfl rfl (wrap_u64 (by omega)) (mvx rfl (zv 36 (.int .u64 ((p + t : Nat) : Int)) rfl ((by rw [Int.natCast_add] : (.int .u64 (((p : Nat) : Int) + ((t : Nat) : Int)) : Value) = _)) (za rfl (zg en71 rfl ((yov _ (p + t) s (by omega) hsb).mono ?_))))))))))))))))))))))
  rintro e w7 ⟨rfl, hb⟩;refine ⟨_, rfl, ?_⟩;replace E := blx E hb
  refine zv 38 (.int .u64 ((upM B18 (limbs i) (k + 1) : Nat) : Int)) rfl ((by rw [hash_round hpq hts, ← hnx] : (.int .u64 ((((p + t) * 18446744073709551616 + s) % 2147483647 : Nat) : Int) : Value) = _)) (avx rfl (yg (zl (zc (zh (mvx rfl (za rfl (yd rfl rfl (zp (by omega)) (avx rfl (yg ?_))))))))))
  exact yt (k + 1) (by omega) ⟨rfl, rfl, congrArg (fun z : Int => some (Value.int .i64 z)) (by omega), trivial⟩ ⟨M4.step E XM4, by omega⟩
 ·
  have hl := of_decide_eq_false hl;have hke : k = (limbs i).length := by omega
  have hend : upM B18 (limbs i) k = i.natAbs % 2147483647 := by rw [hke, upM_limbs]
  refine yc 3 (.int .u64 ((i.natAbs % 2147483647 : Nat) : Int)) rfl ((by rw [hend] : (.int .u64 ((upM B18 (limbs i) k : Nat) : Int) : Value) = _)) (yr (zn (zn (ya (zc (zb (srx (za rfl (ze Tryz.underlying42 rfl sz4 (by decide) rfl (za rfl (zy Tryz.underlying4 rfl rfl (HF.on E).here.2 rfl (rnx (yh rfl (fun hn => ?_) (fun hn => ?_))))))))))))))
  ·
   refine srx (mvx rfl (za rfl (yx Tryz.underlying3 Tryz.underlying32 rfl (zp (by omega)) (za rfl (xi rfl (zp (by omega)) (anx rfl (zt (zq (zr (rs := [.tmp 2]) (vs := [_]) rfl ⟨rfl, trivial⟩ ?_)))))))));exact ⟨by rw [yuk, if_pos (of_decide_eq_true hn)]; rfl, (LW.step E XLW).toBelow⟩
  ·
   refine zf (zc (srx (mvx rfl (za rfl (yx Tryz.underlying3 Tryz.underlying32 rfl (zp (by omega)) (anx rfl (zt (zr (rs := [.tmp 2]) (vs := [_]) rfl ⟨rfl, trivial⟩ ?_))))))));exact ⟨by rw [yuk, if_neg (of_decide_eq_false hn)]; rfl, (LW.step E XLW).toBelow⟩
theorem hashbigI : Calls Tryz.prog 29 #[.agg #[.bool (decide (i < 0)), .slice A (limbs i).length c]] w fun e w' => e = .returned (.int .i64 (yuk i)) ∧ Below w.heap.size w w' := by
 by_cases h0 : i = 0
 · exact hashbig_zero i A c w hi hx h0
 · exact hashbig_num i A c w hi hx h0
/-! ### the document's -/
end
/-! ### numbers that are not in form -/
section
variable (n1 : Bool) (A : Option Addr) (c : Nat) (xs : List Nat) (w : World) (hx : Nums w A xs) (hl : xs.length ≤ 9223372036854775807) (hg : va n1 xs = false)
include hx hl hg
theorem hashbig_bad : Calls Tryz.prog 29 #[.agg #[.bool n1, .slice A xs.length c]] w fun e w' => e = .returned (.int .i64 0) ∧ Below w.heap.size w w' := by
 refine zo Tryz.func29 rfl Tryz.ntmps29 rfl ?_;have HF : Per (No) w (fun _ => True) := Per.true_;have LW := erx (No) w;have XLW := grx (No) w;have E := erx (No) w;replace HF := HF.on E;replace LW := LW.step E XLW;replace E := erx (No) w;replace HF := HF.and (Per.nums0 hx);refine srx (za rfl (gl rfl ?_));intro gb1 w2 Bb1 Eb1 Gb1;have Gb1 : _ ≤ gb1 := Nat.le_trans E.size Gb1
 have GLb1 := Nat.le_trans LW.size Gb1;replace E := E.trans Eb1.no;replace HF := HF.cons (ye Gb1);replace E := E.cons (some gb1);replace XLW := Mut.grow XLW (fun k e => Or.inr (Nat.le_trans LW.size ((ye Gb1) k e)));replace HF := HF.on E;replace LW := LW.step E XLW;have SB : ∀ q9, No q9 → Mut [(some gb1)] q9 := (Mut.skip Mut.nil_);replace HF := HF.less SB
 replace XLW := fun k h => XLW k (SB k h);clear SB;replace E := erx (No) w2;replace HF := HF.and (Per.blkN Bb1 NotIn.nil);refine anx rfl (zb (srx (za rfl (qb Tryz.underlying42 rfl vh rfl (HF.on E).here.2 rfl (za rfl (zg en54 rfl ((vr n1 c _ A xs hl (HF.on E).here.1.2).mono ?_)))))));rintro e w3 ⟨rfl, hb⟩;refine ⟨_, rfl, ?_⟩;replace E := blx E hb
 refine zv 9 (.bool false) rfl ((by rw [hg] : (.bool (va n1 xs) : Value) = _)) (za rfl (jj rfl (rnx (zz rfl (srx (anx rfl (zt (zq (zr (rs := [.tmp 2]) (vs := [_]) rfl ⟨rfl, trivial⟩ ?_)))))))));exact ⟨rfl, (LW.step E XLW).toBelow⟩
end
noncomputable def zux (n1 : Bool) (xs : List Nat) : Int := if va n1 xs then yuk (num n1 xs) else 0
section
variable (n1 : Bool) (A : Option Addr) (c : Nat) (xs : List Nat) (w : World) (hx : Nums w A xs) (hl : xs.length ≤ 9223372036854775807)
include hx hl
theorem yuq : Calls Tryz.prog 29 #[.agg #[.bool n1, .slice A xs.length c]] w fun e w' => e = .returned (.int .i64 (zux n1 xs)) ∧ Below w.heap.size w w' := by
 cases hg : va n1 xs with
 | false =>
  rw [zux, if_neg (by rw [hg]; decide)];exact hashbig_bad n1 A c xs w hx hl hg
 | true =>
  rw [zux, if_pos hg];obtain ⟨i, rfl, rfl, hi⟩ := good_is hg;rw [oh];exact hashbigI i A c w hi hx
end
theorem hash_gen {m e W k : Nat} {v : Nat} (hv : m * 2 ^ e = v) (hW : v = W * 2 ^ k) (hk : (k + 11) % 31 = 0) {t : Nat} (ht : (e + 11) % 31 = t % 31) : (m * 2 ^ t) % 2147483647 = W % 2147483647 := by
 have h1 : m * 2 ^ (e + 11) = W * 2 ^ (k + 11) := by rw [Nat.pow_add, Nat.pow_add, ← Nat.mul_assoc, ← Nat.mul_assoc, hv, hW]
 have h2 := pow31_of (m := m) ht;have h3 := pow31_of (m := W) (j := k + 11) (k := 0) (by omega);rw [← h2, h1, h3, Nat.pow_zero, Nat.mul_one]
theorem hash_whole {a : Nat} (hw : isWh (rg a)) : zuz (rg a) = ve a % 2147483647 := by
 unfold zuz;exact hash_gen (v := vl (rg a)) (k := 1074) rfl (Nat.div_mul_cancel hw).symm (by decide) (by omega)
theorem cmpI_zero {i j : Int} (h : zvv i j = 0) : i = j := by
 unfold zvv at h;split at h
 · cases h
 · split at h
   · cases h
   · omega
theorem agree_big {a : Nat} {i : Int} (hf : rg a < 9218868437227405312) (hc : cmpB a i = 0) : kt a = yuk i := by
 unfold cmpB at hc;by_cases h0 : zvv (kb a) i = 0
 · rw [if_neg (fun h => h h0)] at hc;have hi := cmpI_zero h0;cases hl : lostB a with
   | true => rw [hl, if_pos rfl] at hc; split at hc <;> cases hc
   | false =>
    have hw : isWh (rg a) := by
     unfold lostB at hl;exact Classical.byContradiction fun h => @of_decide_eq_false _ (Classical.propDecidable _) hl h
    have hne : ¬ rg a = 9218868437227405312 := by omega
    unfold kt yuk;rw [jz hf, if_neg Bool.false_ne_true, if_neg hne, hash_whole hw, ← hi];unfold kb;cases ng a with
    | true =>
     rw [if_pos rfl, if_pos rfl];rcases Nat.eq_zero_or_pos (ve a) with h | h
     · rw [h]; rfl
     · rw [if_pos (by omega), Int.natAbs_neg, Int.natAbs_natCast]; omega
    | false =>
     rw [if_neg Bool.false_ne_true, if_neg Bool.false_ne_true, if_neg (show ¬ ((ve a : Nat) : Int) < 0 by omega), Int.natAbs_natCast]; omega
 · rw [if_pos h0] at hc; exact absurd hc h0
theorem agree_cmp {a b : Nat} (ho : gm a b = true) (hc : cmpF a b = 0) : kt a = kt b := by
 unfold cmpF at hc;rw [if_pos ho] at hc;have hp : pc a = pc b := by
  unfold ordI at hc;split at hc
  · cases hc
  · split at hc
    · cases hc
    · omega
 unfold gm at ho;cases ha : isN a with
 | true => rw [ha] at ho; cases ho
 | false =>
  cases hb : isN b with
  | true => rw [ha, hb] at ho; cases ho
  | false =>
   unfold kt;rw [ha, hb];unfold pc at hp;have hr : rg a = rg b := by split at hp <;> split at hp <;> omega
   rw [hr];by_cases hz : rg b = 0
   · rw [hz, hashM_zero]; simp
   · have hn : ng a = ng b := by
      cases h1 : ng a <;> cases h2 : ng b <;> rw [h1, h2] at hp
      · rw [if_neg Bool.false_ne_true, if_pos rfl] at hp; omega
      · rw [if_pos rfl, if_neg Bool.false_ne_true] at hp; omega
     rw [hn]
theorem infV_ne (a : Nat) : infV a ≠ 0 := by unfold infV; split <;> decide
theorem agree_any {a : Nat} {n1 : Bool} {xs : List Nat} (ho : zcz a n1 xs = true) (hz : yaq a n1 xs = 0) : kt a = zux n1 xs := by
 unfold yaq at hz;rw [if_pos ho] at hz;unfold zcz at ho;cases hn : isN a with
 | true => rw [hn] at ho; cases ho
 | false =>
  cases hg : va n1 xs with
  | false => rw [hg, Bool.and_false] at ho; cases ho
  | true =>
   by_cases hi : rg a = 9218868437227405312
   · rw [if_pos hi] at hz; exact absurd hz (infV_ne a)
   · rw [if_neg hi] at hz;have h1 := of_decide_eq_false hn;unfold zux;rw [if_pos hg];exact agree_big (by omega) hz
end Go.Proofs.YtjdcjdohghkcgaaGreatDoor

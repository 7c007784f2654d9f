/- Texts of this claim. -/
import Derived.Test.YtebjkmjfcijebaaT15
namespace Go.Proofs.Ytebjkmjfcijebaa
open Go.RowKit
set_option maxRecDepth 100000
theorem lim_posR {j : Int} (h0 : j ≠ 0) : 0 < (limbs j).length := by rw [jc]; exact zwx jb (by omega)
theorem val_dropL {b : Nat} (L : List Nat) (j : Nat) (h : j < L.length) : val b (L.drop j) = L.getD j 0 + b * val b (L.drop (j + 1)) := by
 rw [List.drop_eq_getElem_cons h, val, List.getD_eq_getElem?_getD, List.getElem?_eq_getElem h, Option.getD_some]
def upM (b : Nat) (L : List Nat) (k : Nat) : Nat := val b (L.drop (L.length - k)) % 2147483647
theorem upM_zero (b : Nat) (L : List Nat) : upM b L 0 = 0 := by rw [upM, Nat.sub_zero, List.drop_length]; rfl
theorem upM_lt (b : Nat) (L : List Nat) (k : Nat) : upM b L k < 2147483647 := Nat.mod_lt _ (by decide)
theorem upM_succ {b : Nat} {L : List Nat} {k : Nat} (h : k < L.length) : upM b L (k + 1) = (upM b L k * b + L.getD (L.length - 1 - k) 0) % 2147483647 := by
 have key : ∀ V l : Nat, (V % 2147483647 * b + l) % 2147483647 = (V * b + l) % 2147483647 := fun V l => by rw [← Nat.mod_add_mod, Nat.mod_mul_mod, Nat.mod_add_mod]
 unfold upM;rw [val_dropL L (L.length - (k + 1)) (by omega), show L.length - (k + 1) + 1 = L.length - k by omega, show L.length - (k + 1) = L.length - 1 - k by omega, Nat.add_comm, Nat.mul_comm b];exact (key _ _).symm
theorem upM_limbs (i : Int) : upM B18 (limbs i) (limbs i).length = i.natAbs % 2147483647 := by rw [upM, Nat.sub_self, List.drop_zero, jc, kt jb]
def ysz (i : Int) : Int := if i < 0 then 0 - ((i.natAbs % 2147483647 : Nat) : Int) else ((i.natAbs % 2147483647 : Nat) : Int)
theorem ex_add64 : Ext_ Try.prog 72 add64Entry := ⟨_, Try.func72, by kernel_rfl, by kernel_rfl, by kernel_rfl, by kernel_rfl⟩
theorem run_add64N (x y : Nat) (w : World) : (add64Entry #[.int .u64 ((x : Nat) : Int), .int .u64 ((y : Nat) : Int), .int .u64 0]).run Try.prog w =
 .ok (.tuple #[.int .u64 (((x + y) % 18446744073709551616 : Nat) : Int), .int .u64 (((x + y) / 18446744073709551616 : Nat) : Int)]) w := by
 rw [run_add64 _ _ 0 (by omega) (by omega) (by omega) (by omega), Int.add_zero, ← Int.natCast_add];rfl
theorem hash_round {h l hi lo c s : Nat} (h1 : hi * 18446744073709551616 + lo = h * B18) (h2 : c * 18446744073709551616 + s = lo + l) : ((hi + c) * 18446744073709551616 + s) % 2147483647 = (h * B18 + l) % 2147483647 := by
 have e : (hi + c) * 18446744073709551616 + s = h * B18 + l := by rw [Nat.add_mul, Nat.add_assoc, h2, ← Nat.add_assoc, h1]
 rw [e]
section
variable (i : Int) (A : Option Addr) (c : Nat) (w : World) (hi : i.natAbs < B18 ^ 30) (hx : Nums w A (limbs i))
include hi hx
theorem hashbig_zero (h0 : i = 0) : Calls Try.prog 57 #[.agg #[.bool (decide (i < 0)), .slice A (limbs i).length c]] w fun e w' => e = .returned (.int .i64 (ysz i)) ∧ Below w.heap.size w w' := by
 have hl : ((limbs i).length : Int) = 0 := by rw [h0, jg]; rfl
 refine yb Try.func57 rfl Try.ntmps57 rfl ?_;have HF : Per (No) w (fun _ => True) := Per.true_;have LW := erx (No) w;have XLW := grx (No) w;have E := erx (No) w;replace HF := HF.on E;replace LW := LW.step E XLW;replace E := erx (No) w;replace HF := HF.and (Per.nums0 hx);refine srx (za rfl (yt rfl ?_));intro gb1 w2 Bb1 Eb1 Gb1;have Gb1 : _ ≤ gb1 := Nat.le_trans E.size Gb1
 have GLb1 := Nat.le_trans LW.size Gb1;replace E := E.trans Eb1.no;replace HF := HF.cons (yj Gb1);replace E := E.cons (some gb1);replace XLW := Mut.grow XLW (fun k e => Or.inr (Nat.le_trans LW.size ((yj Gb1) k e)));replace HF := HF.on E;replace LW := LW.step E XLW;have SB : ∀ q9, No q9 → Mut [(some gb1)] q9 := (Mut.skip Mut.nil_);replace HF := HF.less SB
 replace XLW := fun k h => XLW k (SB k h);clear SB;replace E := erx (No) w2;replace HF := HF.and (Per.blkN Bb1 NotIn.nil);refine anx rfl (zl (srx (za rfl (zz Try.underlying40 rfl vk rfl (HF.on E).here.2 rfl (za rfl (zi en39 rfl ((ysk A c _ hi (HF.on E).here.1.2).mono ?_)))))));rintro e w3 ⟨rfl, hb⟩;refine ⟨_, rfl, ?_⟩;replace E := blx E hb
 refine za rfl (qa rfl (rnx (zw rfl (zt (zj (srx (anx rfl (zl (srx (za rfl (zf Try.underlying40 rfl kl (by decide) rfl (za rfl (zk Try.underlying22 rfl rfl (HF.on E).here.2 rfl (za rfl (qe Try.underlying22 rfl (za rfl (vq rfl rfl (zy (by omega)) (anx rfl (yh (ypv (zl (srx (mvx rfl (za rfl (jr rfl rfl (rnx (yd 16 (.bool false) rfl ((by rw [hl]; rfl : (.bool (decide (0 ≤ (((((limbs i).length : Nat)) : Int) - 1))) : Value) = _)) (zw rfl (vo (yf (yf (yx (zj (zl (srx ?_)))))))))))))))))))))))))))))))))))
 refine za rfl (zf Try.underlying40 rfl sz4 (by decide) rfl (za rfl (zk Try.underlying4 rfl rfl (HF.on E).here.2 rfl (rnx (yd 40 (.bool false) rfl ((by rw [h0]; rfl : (.bool (decide (i < 0)) : Value) = _)) (zw rfl (zt (zj (srx (mvx rfl (za rfl (qc (z := 0) Try.underlying3 Try.underlying25 rfl (by kernel_rfl) (anx rfl (zo (zn (rs := [.tmp 2]) (vs := [_]) rfl ⟨rfl, trivial⟩ ?_)))))))))))))))
 exact ⟨by rw [h0]; rfl, (LW.step E XLW).toBelow⟩
theorem hashbig_num (h0 : i ≠ 0) : Calls Try.prog 57 #[.agg #[.bool (decide (i < 0)), .slice A (limbs i).length c]] w fun e w' => e = .returned (.int .i64 (ysz i)) ∧ Below w.heap.size w w' := by
 have hl2 := xl hi;obtain ⟨bx, ox, rfl, hbx, hcx⟩ := hx.2 (lim_posR h0);have hsm := zuv i;refine yb Try.func57 rfl Try.ntmps57 rfl ?_;have HF : Per (No) w (fun _ => True) := Per.true_;have LW := erx (No) w;have XLW := grx (No) w;have E := erx (No) w;replace HF := HF.on E;replace LW := LW.step E XLW;replace E := erx (No) w;replace HF := HF.and (Per.nums0 hx)
 refine srx (za rfl (yt rfl ?_));intro gb1 w2 Bb1 Eb1 Gb1;have Gb1 : _ ≤ gb1 := Nat.le_trans E.size Gb1;have GLb1 := Nat.le_trans LW.size Gb1;replace E := E.trans Eb1.no;replace HF := HF.cons (yj Gb1);replace E := E.cons (some gb1);replace XLW := Mut.grow XLW (fun k e => Or.inr (Nat.le_trans LW.size ((yj Gb1) k e)));replace HF := HF.on E;replace LW := LW.step E XLW
 have SB : ∀ q9, No q9 → Mut [(some gb1)] q9 := (Mut.skip Mut.nil_);replace HF := HF.less SB;replace XLW := fun k h => XLW k (SB k h);clear SB;replace E := erx (No) w2;replace HF := HF.and (Per.blkN Bb1 NotIn.nil)
 refine anx rfl (zl (srx (za rfl (zz Try.underlying40 rfl vk rfl (HF.on E).here.2 rfl (za rfl (zi en39 rfl ((ysk (some ⟨bx, ox, none⟩) c _ hi (HF.on E).here.1.2).mono ?_)))))));rintro e w3 ⟨rfl, hb⟩;refine ⟨_, rfl, ?_⟩;replace E := blx E hb
 refine za rfl (qa rfl (rnx (zw rfl (zt (zj (srx (anx rfl (zl (srx (za rfl (zf Try.underlying40 rfl kl (by decide) rfl (za rfl (zk Try.underlying22 rfl rfl (HF.on E).here.2 rfl (za rfl (qe Try.underlying22 rfl (za rfl (vq rfl rfl (zy (by omega)) (anx rfl (yh ?_)))))))))))))))))));replace HF := HF.on E
 replace LW := LW.step E XLW;replace E := erx (No) w3
 refine jd (ι := Nat) (fun k => [(1, .pointer (some ⟨gb1, 0, none⟩)), (3, .int .u64 ((upM B18 (limbs i) k : Nat) : Int)), (4, .int .i64 (((limbs i).length : Int) - 1 - ((k : Nat) : Int)))]) (fun k w' => Ext (No) w3 w' ∧ (k ≤ (limbs i).length)) (fun k => (limbs i).length - k) 0 ⟨rfl, congrArg (fun z : Nat => some (Value.int .u64 (z : Int))) (upM_zero _ _).symm, congrArg (fun z : Int => some (Value.int .i64 z)) (by omega), trivial⟩ ⟨Ext.refl _ _, Nat.zero_le _⟩ ?_
 rintro k w5 ⟨M4, hk⟩;have XM4 := grx (No) w3;replace E := E.trans M4;replace HF := HF.on E;replace LW := LW.step E XLW;replace E := erx (No) w5;refine zl (srx (mvx rfl (za rfl (jr rfl rfl (rnx (yd 16 (.bool (decide (k < (limbs i).length))) rfl (bool_dec (by omega)) ?_))))));have hup := upM_lt B18 (limbs i) k;refine yv rfl (fun hl => ?_) (fun hl => ?_)
 ·
  have hl := of_decide_eq_true hl;obtain ⟨h, hh⟩ : ∃ h, h = upM B18 (limbs i) k := ⟨_, rfl⟩;obtain ⟨l, hll⟩ : ∃ l, l = (limbs i).getD ((limbs i).length - 1 - k) 0 := ⟨_, rfl⟩;have hlb : l < 1000000000000000000 := by rw [hll]; exact yez (by decide) hsm _
  have hnx : upM B18 (limbs i) (k + 1) = (h * B18 + l) % 2147483647 := by rw [upM_succ hl, ← hh, ← hll]
  rw [← hh] at hup;refine yd 3 (.int .u64 ((h : Nat) : Int)) rfl ((by rw [hh] : (.int .u64 ((upM B18 (limbs i) k : Nat) : Int) : Value) = _)) ?_;obtain ⟨p, hp⟩ : ∃ p, p = h * 1000000000000000000 / 18446744073709551616 := ⟨_, rfl⟩;obtain ⟨q, hq⟩ : ∃ q, q = h * 1000000000000000000 % 18446744073709551616 := ⟨_, rfl⟩;have hpq : p * 18446744073709551616 + q = h * B18 := kw hp hq
  have hpb : p < 2147483647 := by rw [hp]; exact Nat.div_lt_of_lt_mul (Nat.lt_of_lt_of_le (Nat.mul_lt_mul_of_pos_right hup (by decide)) (by decide))
  have hqb : q < 18446744073709551616 := oa (by decide) hq;obtain ⟨t, ht⟩ : ∃ t, t = (q + l) / 18446744073709551616 := ⟨_, rfl⟩;obtain ⟨s, hs⟩ : ∃ s, s = (q + l) % 18446744073709551616 := ⟨_, rfl⟩;have hts : t * 18446744073709551616 + s = q + l := kw ht hs;have hsb : s < 18446744073709551616 := oa (by decide) hs
  have htb : t < 2 := by rw [ht]; exact Nat.div_lt_of_lt_mul (by omega)
  refine zt (zj (zl (yh (srx (mvx rfl (za rfl (zi en70 rfl ((mul64_b h 1000000000000000000 (by omega) (by decide) _).mono ?_))))))));rintro e w6 ⟨rfl, hb⟩;refine ⟨_, rfl, ?_⟩;replace E := blx E hb
  refine zq 21 (.tuple #[.int .u64 ((p : Nat) : Int), .int .u64 ((q : Nat) : Int)]) rfl ((by rw [hp, hq] : (.tuple #[.int .u64 ((h * 1000000000000000000 / 18446744073709551616 : Nat) : Int), .int .u64 ((h * 1000000000000000000 % 18446744073709551616 : Nat) : Int)] : Value) = _)) (mvx rfl (za rfl (zg rfl rfl (za rfl (zg rfl rfl (avx rfl (anx rfl (srx (mvx rfl (za rfl (zf Try.underlying40 rfl kl (by decide) rfl (za rfl (zk Try.underlying22 rfl rfl (HF.on E).here.2 rfl (mvx rfl (za rfl (yc (j := (limbs i).length - 1 - k) Try.underlying22 vc rfl rfl (by omega) (by omega) ?_))))))))))))))))
  obtain ⟨b9, o9, hA9, _, hc9⟩ := ((HF.on E).here.1.2).2 (lim_posR h0);obtain ⟨rfl, rfl⟩ : b9 = bx ∧ o9 = ox := by simpa using hA9.symm
  refine za rfl (qm Try.underlying25 rfl rfl (hc9 ((limbs i).length - 1 - k) (by omega)) (zq 30 (.int .u64 ((l : Nat) : Int)) rfl ((by rw [nth_nat, hll] : (.int .u64 (nth (limbs i) ((limbs i).length - 1 - k)) : Value) = _)) (za rfl (ow_ext (args := [.int .u64 ((q : Nat) : Int), .int .u64 ((l : Nat) : Int), .int .u64 0]) ex_add64 rfl (run_add64N q l _) (zq 31 (.tuple #[.int .u64 ((s : Nat) : Int), .int .u64 ((t : Nat) : Int)]) rfl ((by rw [hs, ht] : (.tuple #[.int .u64 (((q + l) % 18446744073709551616 : Nat) : Int), .int .u64 (((q + l) / 18446744073709551616 : Nat) : Int)] : Value) = _)) (mvx rfl (za rfl (zg rfl rfl (za rfl (zg rfl rfl (avx rfl (anx rfl (yq (mvx rfl (mvx rfl (za rfl (yp rfl rfl (wrap_u64 (by omega)) (mvx rfl (zq 36 (.int .u64 ((p + t : Nat) : Int)) rfl ((by rw [Int.natCast_add] : (.int .u64 (((p : Nat) : Int) + ((t : Nat) : Int)) : Value) = _)) (za rfl (zi en71 rfl ((yox _ (p + t) s (by omega) hsb).mono ?_))))))))))))))))))))))
  rintro e w7 ⟨rfl, hb⟩;refine ⟨_, rfl, ?_⟩;replace E := blx E hb
  refine zq 38 (.int .u64 ((upM B18 (limbs i) (k + 1) : Nat) : Int)) rfl ((by rw [hash_round hpq hts, ← hnx] : (.int .u64 ((((p + t) * 18446744073709551616 + s) % 2147483647 : Nat) : Int) : Value) = _)) (avx rfl (qz (zx (zj (yq (mvx rfl (za rfl (vq rfl rfl (zy (by omega)) (avx rfl (qz ?_))))))))))
  exact ve (k + 1) (by omega) ⟨rfl, rfl, congrArg (fun z : Int => some (Value.int .i64 z)) (by omega), trivial⟩ ⟨M4.step E XM4, by omega⟩
 ·
  have hl := of_decide_eq_false hl;have hke : k = (limbs i).length := by omega
  have hend : upM B18 (limbs i) k = i.natAbs % 2147483647 := by rw [hke, upM_limbs]
  refine yd 3 (.int .u64 ((i.natAbs % 2147483647 : Nat) : Int)) rfl ((by rw [hend] : (.int .u64 ((upM B18 (limbs i) k : Nat) : Int) : Value) = _)) (vo (yf (yf (yx (zj (zl (srx (za rfl (zf Try.underlying40 rfl sz4 (by decide) rfl (za rfl (zk Try.underlying4 rfl rfl (HF.on E).here.2 rfl (rnx (yv rfl (fun hn => ?_) (fun hn => ?_))))))))))))))
  ·
   refine srx (mvx rfl (za rfl (qc Try.underlying3 Try.underlying25 rfl (zy (by omega)) (za rfl (ow_neg rfl (zy (by omega)) (anx rfl (zo (zh (zn (rs := [.tmp 2]) (vs := [_]) rfl ⟨rfl, trivial⟩ ?_)))))))));exact ⟨by rw [ysz, if_pos (of_decide_eq_true hn)]; rfl, (LW.step E XLW).toBelow⟩
  ·
   refine zt (zj (srx (mvx rfl (za rfl (qc Try.underlying3 Try.underlying25 rfl (zy (by omega)) (anx rfl (zo (zn (rs := [.tmp 2]) (vs := [_]) rfl ⟨rfl, trivial⟩ ?_))))))));exact ⟨by rw [ysz, if_neg (of_decide_eq_false hn)]; rfl, (LW.step E XLW).toBelow⟩
theorem hashbigI : Calls Try.prog 57 #[.agg #[.bool (decide (i < 0)), .slice A (limbs i).length c]] w fun e w' => e = .returned (.int .i64 (ysz i)) ∧ Below w.heap.size w w' := by
 by_cases h0 : i = 0
 · exact hashbig_zero i A c w hi hx h0
 · exact hashbig_num i A c w hi hx h0
/-! ### the document's -/
end
/-! ### numbers that are not in form -/
section
variable (n1 : Bool) (A : Option Addr) (c : Nat) (xs : List Nat) (w : World) (hx : Nums w A xs) (hl : xs.length ≤ 9223372036854775807) (hg : qr n1 xs = false)
include hx hl hg
theorem hashbig_bad : Calls Try.prog 57 #[.agg #[.bool n1, .slice A xs.length c]] w fun e w' => e = .returned (.int .i64 0) ∧ Below w.heap.size w w' := by
 refine yb Try.func57 rfl Try.ntmps57 rfl ?_;have HF : Per (No) w (fun _ => True) := Per.true_;have LW := erx (No) w;have XLW := grx (No) w;have E := erx (No) w;replace HF := HF.on E;replace LW := LW.step E XLW;replace E := erx (No) w;replace HF := HF.and (Per.nums0 hx);refine srx (za rfl (yt rfl ?_));intro gb1 w2 Bb1 Eb1 Gb1;have Gb1 : _ ≤ gb1 := Nat.le_trans E.size Gb1
 have GLb1 := Nat.le_trans LW.size Gb1;replace E := E.trans Eb1.no;replace HF := HF.cons (yj Gb1);replace E := E.cons (some gb1);replace XLW := Mut.grow XLW (fun k e => Or.inr (Nat.le_trans LW.size ((yj Gb1) k e)));replace HF := HF.on E;replace LW := LW.step E XLW;have SB : ∀ q9, No q9 → Mut [(some gb1)] q9 := (Mut.skip Mut.nil_);replace HF := HF.less SB
 replace XLW := fun k h => XLW k (SB k h);clear SB;replace E := erx (No) w2;replace HF := HF.and (Per.blkN Bb1 NotIn.nil);refine anx rfl (zl (srx (za rfl (zz Try.underlying40 rfl vk rfl (HF.on E).here.2 rfl (za rfl (zi en39 rfl ((vv n1 c _ A xs hl (HF.on E).here.1.2).mono ?_)))))));rintro e w3 ⟨rfl, hb⟩;refine ⟨_, rfl, ?_⟩;replace E := blx E hb
 refine zq 9 (.bool false) rfl ((by rw [hg] : (.bool (qr n1 xs) : Value) = _)) (za rfl (qa rfl (rnx (ye rfl (srx (anx rfl (zo (zh (zn (rs := [.tmp 2]) (vs := [_]) rfl ⟨rfl, trivial⟩ ?_)))))))));exact ⟨rfl, (LW.step E XLW).toBelow⟩
end
noncomputable def ysx (n1 : Bool) (xs : List Nat) : Int := if qr n1 xs then ysz (num n1 xs) else 0
section
variable (n1 : Bool) (A : Option Addr) (c : Nat) (xs : List Nat) (w : World) (hx : Nums w A xs) (hl : xs.length ≤ 9223372036854775807)
include hx hl
theorem hashbig_any : Calls Try.prog 57 #[.agg #[.bool n1, .slice A xs.length c]] w fun e w' => e = .returned (.int .i64 (ysx n1 xs)) ∧ Below w.heap.size w w' := by
 cases hg : qr n1 xs with
 | false =>
  rw [ysx, if_neg (by rw [hg]; decide)];exact hashbig_bad n1 A c xs w hx hl hg
 | true =>
  rw [ysx, if_pos hg];obtain ⟨i, rfl, rfl, hi⟩ := good_is hg;rw [kp];exact hashbigI i A c w hi hx
end
theorem hash_gen {m e W k : Nat} {v : Nat} (hv : m * 2 ^ e = v) (hW : v = W * 2 ^ k) (hk : (k + 11) % 31 = 0) {t : Nat} (ht : (e + 11) % 31 = t % 31) : (m * 2 ^ t) % 2147483647 = W % 2147483647 := by
 have h1 : m * 2 ^ (e + 11) = W * 2 ^ (k + 11) := by rw [Nat.pow_add, Nat.pow_add, ← Nat.mul_assoc, ← Nat.mul_assoc, hv, hW]
 have h2 := pow31_of (m := m) ht;have h3 := pow31_of (m := W) (j := k + 11) (k := 0) (by omega);rw [← h2, h1, h3, Nat.pow_zero, Nat.mul_one]
theorem hash_whole {a : Nat} (hw : isWh (rg a)) : zvz (rg a) = vh a % 2147483647 := by
 unfold zvz;exact hash_gen (v := vl (rg a)) (k := 1074) rfl (Nat.div_mul_cancel hw).symm (by decide) (by omega)
theorem yqx {i j : Int} (h : zdk i j = 0) : i = j := by
 unfold zdk at h;split at h
 · cases h
 · split at h
   · cases h
   · omega
theorem agree_big {a : Nat} {i : Int} (hf : rg a < 9218868437227405312) (hc : cmpB a i = 0) : od a = ysz i := by
 unfold cmpB at hc;by_cases h0 : zdk (km a) i = 0
 · rw [if_neg (fun h => h h0)] at hc;have hi := yqx h0;cases hl : yjq a with
   | true => rw [hl, if_pos rfl] at hc; split at hc <;> cases hc
   | false =>
    have hw : isWh (rg a) := by
     unfold yjq at hl;exact Classical.byContradiction fun h => @of_decide_eq_false _ (Classical.propDecidable _) hl h
    have hne : ¬ rg a = 9218868437227405312 := by omega
    unfold od ysz;rw [gi hf, if_neg Bool.false_ne_true, if_neg hne, hash_whole hw, ← hi];unfold km;cases ng a with
    | true =>
     rw [if_pos rfl, if_pos rfl];rcases Nat.eq_zero_or_pos (vh a) with h | h
     · rw [h]; rfl
     · rw [if_pos (by omega), Int.natAbs_neg, Int.natAbs_natCast]; omega
    | false =>
     rw [if_neg Bool.false_ne_true, if_neg Bool.false_ne_true, if_neg (show ¬ ((vh a : Nat) : Int) < 0 by omega), Int.natAbs_natCast]; omega
 · rw [if_pos h0] at hc; exact absurd hc h0
theorem agree_cmp {a b : Nat} (ho : gn a b = true) (hc : zwz a b = 0) : od a = od b := by
 unfold zwz at hc;rw [if_pos ho] at hc;have hp : pc a = pc b := by
  unfold ordI at hc;split at hc
  · cases hc
  · split at hc
    · cases hc
    · omega
 unfold gn at ho;cases ha : isN a with
 | true => rw [ha] at ho; cases ho
 | false =>
  cases hb : isN b with
  | true => rw [ha, hb] at ho; cases ho
  | false =>
   unfold od;rw [ha, hb];unfold pc at hp;have hr : rg a = rg b := by split at hp <;> split at hp <;> omega
   rw [hr];by_cases hz : rg b = 0
   · rw [hz, hashM_zero]; simp
   · have hn : ng a = ng b := by
      cases h1 : ng a <;> cases h2 : ng b <;> rw [h1, h2] at hp
      · rw [if_neg Bool.false_ne_true, if_pos rfl] at hp; omega
      · rw [if_pos rfl, if_neg Bool.false_ne_true] at hp; omega
     rw [hn]
theorem infV_ne (a : Nat) : infV a ≠ 0 := by unfold infV; split <;> decide
theorem agree_any {a : Nat} {n1 : Bool} {xs : List Nat} (ho : ke a n1 xs = true) (hz : ow a n1 xs = 0) : od a = ysx n1 xs := by
 unfold ow at hz;rw [if_pos ho] at hz;unfold ke at ho;cases hn : isN a with
 | true => rw [hn] at ho; cases ho
 | false =>
  cases hg : qr n1 xs with
  | false => rw [hg, Bool.and_false] at ho; cases ho
  | true =>
   by_cases hi : rg a = 9218868437227405312
   · rw [if_pos hi] at hz; exact absurd hz (infV_ne a)
   · rw [if_neg hi] at hz;have h1 := of_decide_eq_false hn;unfold ysx;rw [if_pos hg];exact agree_big (by omega) hz
end Go.Proofs.Ytebjkmjfcijebaa

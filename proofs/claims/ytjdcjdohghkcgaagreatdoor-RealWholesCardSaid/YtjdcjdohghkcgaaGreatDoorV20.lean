/- Texts of this claim. -/
import Derived.Test.YtjdcjdohghkcgaaGreatDoorV19
import Derived.Lib.ItoaNum
namespace Go.Proofs.YtjdcjdohghkcgaaGreatDoor
open Go.RowKit
set_option maxRecDepth 100000
def zdq (ds : List Nat) (k : Nat) : List Value := (List.range k).map fun j => .int .u8 (48 + nth ds (ds.length - 1 - j))
theorem shown_succ (ds : List Nat) (k : Nat) : zdq ds k ++ [.int .u8 (48 + nth ds (ds.length - 1 - k))] = zdq ds (k + 1) := by simp [zdq, List.range_succ]
theorem yvk (i : Int) (k : Nat) : 0 ≤ nth (tens i) k ∧ nth (tens i) k ≤ 9 := by rw [zdk]; omega
theorem ten_digits {n : Nat} (hn : n ≠ 0) : (digs 10 n).length = Lib.nDigits n := by
 induction n using ykk (b := 10) (by decide) with
 | h0 => exact absurd rfl hn
 | hs n h0 ih =>
  rw [km (by decide) h0];by_cases h : n < 10
  · rw [Nat.div_eq_of_lt h, Lib.nDigits_small h]; rfl
  · rw [Lib.nDigits_big h, List.length_cons, ih (by omega)]
theorem ten_len {i : Int} (h : i ≠ 0) : (tens i).length = Lib.nDigits i.natAbs := by rw [gj]; exact ten_digits (by omega)
theorem shown_all {i : Int} (h : i ≠ 0) : zdq (tens i) (tens i).length = (Lib.decDigits i.natAbs).map fun b => .int .u8 (b.toNat : Int) := by
 have hl : (tens i).length = Lib.nDigits i.natAbs := by rw [gj]; exact ten_digits (by omega)
 rw [Lib.decDigits_eq, zdq, hl, List.map_map];apply List.map_congr_left
 intro j _;simp only [Function.comp_apply, zdk, Lib.dg]
 have h9 : i.natAbs / 10 ^ (Lib.nDigits i.natAbs - 1 - j) % 10 < 10 := Nat.mod_lt _ (by decide);generalize i.natAbs / 10 ^ (Lib.nDigits i.natAbs - 1 - j) % 10 = u at h9 ⊢
 have e : (UInt8.ofNat (48 + u)).toNat = 48 + u := by simp; omega
 rw [e];simp
section
variable (i : Int) (A : Option Addr) (c : Nat) (w : World) (hi : i.natAbs < B18 ^ 30) (hx : Nums8 w A (tens i))
include hi hx
theorem rshow_zero (h0 : i = 0) : Calls Tryz.prog 56 #[.agg #[.bool (decide (i < 0)), .slice A (tens i).length c]] w fun e w' => e = .returned (.string ⟨(Lib.itoa i).toArray⟩) ∧ Below w.heap.size w w' := by
 have _ := And.intro hi hx;have hl : ((tens i).length : Int) = 0 := by rw [h0, ynq]; rfl
 refine zp Tryz.func56 rfl Tryz.ntmps56 rfl ?_;have HF : Per (No) w (fun _ => True) := Per.true_;have LW := erx (No) w;have XLW := grx (No) w;have E := erx (No) w;refine srx (za rfl (kd rfl ?_));intro gb1 w2 Bb1 Eb1 Gb1;have Gb1 : _ ≤ gb1 := Nat.le_trans E.size Gb1;have GLb1 := Nat.le_trans LW.size Gb1;replace E := E.trans Eb1.no;replace HF := HF.cons (ya Gb1)
 replace E := E.cons (some gb1);replace XLW := Mut.grow XLW (fun k e => Or.inr (Nat.le_trans LW.size ((ya Gb1) k e)));replace HF := HF.on E;replace LW := LW.step E XLW;have SB : ∀ q9, No q9 → Mut [(some gb1)] q9 := (Mut.skip Mut.nil_);replace HF := HF.less SB;replace XLW := fun k h => XLW k (SB k h);clear SB;replace E := erx (No) w2;replace HF := HF.and (Per.blkN Bb1 NotIn.nil)
 refine anx rfl rfl (zb (srx (za rfl (zc Tryz.underlying99 rfl sz97 (by decide) rfl (za rfl (zx Tryz.underlying97 rfl rfl (HF.on E).here.2 rfl (za rfl (jm Tryz.underlying97 rfl (za rfl (zw rfl rfl (rnx (yf 8 (.bool true) rfl ((by rw [hl]; rfl : (.bool (((((tens i).length : Nat)) : Int) == 0) : Value) = _)) (yb rfl (srx (anx rfl rfl (zu (zq ?_)))))))))))))))))
 have e : Lib.itoa 0 = [48] := by rw [Lib.itoa, if_neg (by decide), Lib.decDigits]; rfl
 refine zt (rs := [.tmp 2]) (vs := [_]) rfl ⟨rfl, trivial⟩ ?_;exact ⟨by rw [h0, e]; rfl, (LW.step E XLW).toBelow⟩
theorem rshow_neg (hn : i < 0) : Calls Tryz.prog 56 #[.agg #[.bool (decide (i < 0)), .slice A (tens i).length c]] w fun e w' => e = .returned (.string ⟨(Lib.itoa i).toArray⟩) ∧ Below w.heap.size w w' := by
 have h0 : i ≠ 0 := by omega
 have hit : Lib.itoa i = 45 :: Lib.decDigits i.natAbs := by rw [Lib.itoa, if_pos hn]
 have hl : ((tens i).length : Int) ≠ 0 := by have := zfv (j := i) (by omega); omega
 have hl2 := zfk hi;have hdi : decide (i < 0) = true := decide_eq_true hn;obtain ⟨bx, ox, rfl, hbx, hcx⟩ := hx.2 (zfv (by omega));refine zp Tryz.func56 rfl Tryz.ntmps56 rfl ?_;have HF : Per (No) w (fun _ => True) := Per.true_;have LW := erx (No) w;have XLW := grx (No) w;have E := erx (No) w;replace HF := HF.on E;replace LW := LW.step E XLW;replace E := erx (No) w
 replace HF := HF.and (Per.nums80 hx);refine srx (za rfl (kd rfl ?_));intro gb1 w2 Bb1 Eb1 Gb1;have Gb1 : _ ≤ gb1 := Nat.le_trans E.size Gb1;have GLb1 := Nat.le_trans LW.size Gb1;replace E := E.trans Eb1.no;replace HF := HF.cons (ya Gb1);replace E := E.cons (some gb1);replace XLW := Mut.grow XLW (fun k e => Or.inr (Nat.le_trans LW.size ((ya Gb1) k e)));replace HF := HF.on E
 replace LW := LW.step E XLW;have SB : ∀ q9, No q9 → Mut [(some gb1)] q9 := (Mut.skip Mut.nil_);replace HF := HF.less SB;replace XLW := fun k h => XLW k (SB k h);clear SB;replace E := erx (No) w2;replace HF := HF.and (Per.blkN Bb1 NotIn.nil)
 refine anx rfl rfl (zb (srx (za rfl (zc Tryz.underlying99 rfl sz97 (by decide) rfl (za rfl (zx Tryz.underlying97 rfl rfl (HF.on E).here.2 rfl (za rfl (jm Tryz.underlying97 rfl (za rfl (zw rfl rfl (rnx (yf 8 (.bool false) rfl ((by rw [beq_eq_false_iff_ne.2 hl] : (.bool (((((tens i).length : Nat)) : Int) == 0) : Value) = _)) (zl rfl (zf (zd (srx (anx rfl rfl (zb (srx (za rfl (zc Tryz.underlying99 rfl sz4 (by decide) rfl (za rfl (zx Tryz.underlying4 rfl rfl (HF.on E).here.2 rfl (rnx (yf 10 (.bool true) rfl ((by rw [hdi] : (.bool (decide (i < 0)) : Value) = _)) ?_)))))))))))))))))))))))))
 have Ob : World.ownsRow w2 w.heap.size 5 1 (.slice none 0 0) 0 ([]) := owns_nil;replace HF := HF.cons (nil_no);replace E := E.cons ((Value.slice none 0 0).ownBlock);replace XLW := Mut.grow XLW (fun k e => Or.inr (Nat.le_trans LW.size ((nil_no) k e)))
 refine yb rfl (ze (mvx rfl rfl (za rfl (qw (cs := #[.int .u8 45]) Tryz.underlying97 sz5 zr5 (by decide) rfl (by rw [vu]; rfl) ?_))));intro gb3 w4 Bb3 Eb3 Gb3;have Db3_b : Apart (some gb3) ((Value.slice none 0 0).ownBlock) := Apart.of_lt (vq Ob) Gb3;have Db_b3 := Db3_b.symm;have Gb3 : _ ≤ gb3 := Nat.le_trans E.size Gb3;have GLb3 := Nat.le_trans LW.size Gb3
 replace Ob := qj Ob Eb3 NotIn.nil;replace E := E.trans Eb3.no;replace HF := HF.cons (ya Gb3);replace E := E.cons (some gb3);replace XLW := Mut.grow XLW (fun k e => Or.inr (Nat.le_trans LW.size ((ya Gb3) k e)));replace HF := HF.on E;replace LW := LW.step E XLW
 have SB : ∀ q9, Mut [((Value.slice none 0 0).ownBlock)] q9 → Mut [(some gb3), ((Value.slice none 0 0).ownBlock)] q9 := (Mut.skip (Mut.keep Mut.nil_));replace HF := HF.less SB;replace XLW := fun k h => XLW k (SB k h);clear SB;replace E := erx (Mut [((Value.slice none 0 0).ownBlock)]) w4;replace HF := HF.and (Per.blkN Bb3 (NotIn.cons Db3_b NotIn.nil))
 refine za rfl (jn (news := [.int .u8 45]) Tryz.underlying97 zoq rfl (by decide) rfl Ob rfl (jk (HF.on E).here.2 ((HF.on E).here.2).lt rfl) (by simp [Value.oneCell']) (by unfold maxLen; omega) (by omega) (by exact Nat.le_trans LW.size E.size) ?_);intro v0 w5 On En KN;obtain ⟨A0, c0, rfl⟩ := vt On
 replace KN : ∀ q9, ((Value.slice A0 1 c0).ownBlock) = some q9 → ((Value.slice none 0 0).ownBlock) = some q9 ∨ w4.heap.size ≤ q9 := KN;have HY : Gro (Mut [((Value.slice A0 1 c0).ownBlock)]) (Mut [((Value.slice none 0 0).ownBlock)]) w4 := (Mut.grow Mut.none_ (fun k e => (KN k e).elim (fun e => Or.inl (Mut.head k e)) (fun h => Or.inr (Nat.le_trans E.size h))));replace E := E.step1 En Mut.head
 replace HF := HF.turn E HY;have XT := fun q9 (h : (Mut [((Value.slice A0 1 c0).ownBlock)]) q9) => (HY q9 h).elim (XLW q9) (fun h => Or.inr (Nat.le_trans LW.size h));replace LW := LW.step E XLW;replace XLW := XT;replace E := erx (Mut [((Value.slice A0 1 c0).ownBlock)]) w5;clear HY;replace Ob : World.ownsRow w5 w.heap.size 5 1 (.slice A0 1 c0) 1 ([.int .u8 45]) := by
  have e : (([]) : List Value) ++ ([.int .u8 45] : List Value) = [.int .u8 45] := rfl;rw [← e];exact On
 clear On KN En
 refine anx rfl rfl (zb (srx (za rfl (zc Tryz.underlying99 rfl sz97 (by decide) rfl (za rfl (zx Tryz.underlying97 rfl rfl (HF.on E).here.1.2 rfl (za rfl (jm Tryz.underlying97 rfl (za rfl (ye rfl rfl (zo (by omega)) (anx rfl rfl (zr (yf 4 (.int .i64 (((tens i).length : Int) - 1 - ((0 : Nat) : Int))) rfl ((by simp : (.int .i64 (((((tens i).length : Nat)) : Int) - 1) : Value) = _)) ?_)))))))))))))
 replace HF := HF.on E;replace LW := LW.step E XLW;replace E := erx (Mut [((Value.slice A0 1 c0).ownBlock)]) w5
 refine jd (ι := Nat × Option Addr × Nat) (fun (k, A1, c1) => [(1, .pointer (some ⟨gb1, 0, none⟩)), (3, .slice A1 (1 + k) c1), (4, .int .i64 (((tens i).length : Int) - 1 - (k : Int)))]) (fun (k, A1, c1) w' => Ext (Mut [((Value.slice A0 1 c0).ownBlock)]) w5 w' ∧ World.ownsRow w' w.heap.size 5 1 (.slice A1 (1 + k) c1) (1 + k) ([.int .u8 45] ++ zdq (tens i) k) ∧ (∀ q9, ((Value.slice A1 (1 + k) c1).ownBlock) = some q9 → ((Value.slice A0 1 c0).ownBlock) = some q9 ∨ w5.heap.size ≤ q9) ∧ (k ≤ (tens i).length)) (fun (k, A1, c1) => (tens i).length - k) (0, A0, c0) ⟨rfl, rfl, rfl, trivial⟩ ⟨Ext.refl _ _, (by exact Ob), (fun _ e => Or.inl e), Nat.zero_le _⟩ ?_
 have LTb := (vq Ob);clear Ob;rintro ⟨k, A1, c1⟩ w7 ⟨M6, Ob, KbM6, hk⟩;have XM6 : Gro (Mut [((Value.slice A1 (1 + k) c1).ownBlock)]) (Mut [((Value.slice A0 1 c0).ownBlock)]) w5 := (Mut.grow Mut.none_ (fun k e => (KbM6 k e).elim (fun e => Or.inl (Mut.head k e)) Or.inr));replace E := E.trans M6;replace HF := HF.turn E XM6;have ZLW := LW.size
 have XT := fun q9 (h : (Mut [((Value.slice A1 (1 + k) c1).ownBlock)]) q9) => (XM6 q9 h).elim (XLW q9) (fun h => Or.inr (Nat.le_trans LW.size h));replace LW := LW.step E XLW;replace XLW := XT;clear ZLW;replace E := erx (Mut [((Value.slice A1 (1 + k) c1).ownBlock)]) w7;clear LTb;refine zb (srx (mvx rfl rfl (za rfl (va rfl rfl (rnx (yh rfl (fun q => ?_) (fun q => ?_)))))))
 ·
  have q := of_decide_eq_true q;refine zf (zd (zb (zr (ze (mvx rfl rfl (za rfl (zc Tryz.underlying99 rfl sz97 (by decide) rfl (za rfl (zx Tryz.underlying97 rfl rfl (HF.on E).here.1.2 rfl (mvx rfl rfl (za rfl (yn (j := (tens i).length - 1 - k) Tryz.underlying97 sz5 rfl rfl (by omega) (by omega) ?_))))))))))))
  have hin := yvk i ((tens i).length - 1 - k);obtain ⟨b9, o9, hA9, _, hc9⟩ := ((HF.on E).here.1.1.2).2 (zfv h0);obtain ⟨rfl, rfl⟩ : b9 = bx ∧ o9 = ox := by simpa using hA9.symm
  refine za rfl (yl Tryz.underlying5 rfl rfl (hc9 ((tens i).length - 1 - k) (by omega)) (za rfl (yd rfl rfl (xr (by omega)) (za rfl (qw (cs := #[.int .u8 (48 + (nth (tens i) ((tens i).length - 1 - k)))]) Tryz.underlying97 sz5 zr5 (by decide) rfl (by rw [vu]; rfl) ?_)))));intro gb8 w9 Bb8 Eb8 Gb8
  have Db8_b : Apart (some gb8) ((Value.slice A1 (1 + k) c1).ownBlock) := Apart.of_lt (vq Ob) Gb8;have Db_b8 := Db8_b.symm;have Gb8 : _ ≤ gb8 := Nat.le_trans E.size Gb8;have GLb8 := Nat.le_trans LW.size Gb8;replace Ob := qj Ob Eb8 NotIn.nil;replace E := E.trans Eb8.no;replace HF := HF.cons (ya Gb8);replace E := E.cons (some gb8)
  replace XLW := Mut.grow XLW (fun k e => Or.inr (Nat.le_trans LW.size ((ya Gb8) k e)));replace XM6 := Mut.grow XM6 (fun k e => Or.inr (Nat.le_trans M6.size ((ya Gb8) k e)));replace HF := HF.on E;replace LW := LW.step E XLW;replace M6 := M6.step E XM6
  have SB : ∀ q9, Mut [((Value.slice A1 (1 + k) c1).ownBlock)] q9 → Mut [(some gb8), ((Value.slice A1 (1 + k) c1).ownBlock)] q9 := (Mut.skip (Mut.keep Mut.nil_));replace HF := HF.less SB;replace XLW := fun k h => XLW k (SB k h);replace XM6 := fun k h => XM6 k (SB k h);clear SB;replace E := erx (Mut [((Value.slice A1 (1 + k) c1).ownBlock)]) w9
  replace HF := HF.and (Per.blkN Bb8 (NotIn.cons Db8_b NotIn.nil));refine za rfl (jn (news := [.int .u8 (48 + (nth (tens i) ((tens i).length - 1 - k)))]) Tryz.underlying97 zoq rfl (by decide) rfl Ob rfl (jk (HF.on E).here.2 ((HF.on E).here.2).lt rfl) (by simp [Value.oneCell']) (by unfold maxLen; omega) (by omega) (by exact Nat.le_trans LW.size E.size) ?_);intro v0 w10 On En KN
  obtain ⟨A2, c2, rfl⟩ := vt On;replace KN : ∀ q9, ((Value.slice A2 (1 + (k + 1)) c2).ownBlock) = some q9 → ((Value.slice A1 (1 + k) c1).ownBlock) = some q9 ∨ w9.heap.size ≤ q9 := KN
  have HY : Gro (Mut [((Value.slice A2 (1 + (k + 1)) c2).ownBlock)]) (Mut [((Value.slice A1 (1 + k) c1).ownBlock)]) w9 := (Mut.grow Mut.none_ (fun k e => (KN k e).elim (fun e => Or.inl (Mut.head k e)) (fun h => Or.inr (Nat.le_trans E.size h))))
  replace KbM6 : ∀ q9, ((Value.slice A2 (1 + (k + 1)) c2).ownBlock) = some q9 → ((Value.slice A0 1 c0).ownBlock) = some q9 ∨ w5.heap.size ≤ q9 := fun k e => (KN k e).elim (KbM6 k) (fun h => Or.inr (Nat.le_trans M6.size (Nat.le_trans E.size h)));replace E := E.step1 En Mut.head
  have XT := fun q9 (h : (Mut [((Value.slice A2 (1 + (k + 1)) c2).ownBlock)]) q9) => (HY q9 h).elim (XLW q9) (fun h => Or.inr (Nat.le_trans LW.size h));have XT := fun q9 (h : (Mut [((Value.slice A2 (1 + (k + 1)) c2).ownBlock)]) q9) => (HY q9 h).elim (XM6 q9) (fun h => Or.inr (Nat.le_trans M6.size h));replace M6 := M6.step E XM6;replace XM6 := XT
  replace E := erx (Mut [((Value.slice A2 (1 + (k + 1)) c2).ownBlock)]) w10;clear HY;replace Ob : World.ownsRow w10 w.heap.size 5 1 (.slice A2 (1 + (k + 1)) c2) (1 + (k + 1)) ([.int .u8 45] ++ zdq (tens i) (k + 1)) := by
   have e : (([.int .u8 45] ++ zdq (tens i) k) : List Value) ++ ([.int .u8 (48 + (nth (tens i) ((tens i).length - 1 - k)))] : List Value) = [.int .u8 45] ++ zdq (tens i) (k + 1) := by rw [List.append_assoc, shown_succ]
   rw [← e];exact On
  clear On KN En
  refine avx rfl rfl (yg (zj (zd (ze (mvx rfl rfl (za rfl (ye rfl rfl (zo (by omega)) (avx rfl rfl (yg (yv 4 (.int .i64 (((tens i).length : Int) - 1 - ((k + 1 : Nat) : Int))) rfl ((by rw [show ((tens i).length : Int) - 1 - (k : Int) - 1 = ((tens i).length : Int) - 1 - ((k + 1 : Nat) : Int) by omega] : (.int .i64 ((((tens i).length : Int) - 1 - (k : Int)) - 1) : Value) = _)) ?_))))))))))
  exact yq (k + 1, A2, c2) (by show (tens i).length - (k + 1) < (tens i).length - k; omega) ⟨rfl, rfl, rfl, trivial⟩ ⟨M6.step E XM6, (by exact Ob), KbM6, (by omega : k + 1 ≤ (tens i).length)⟩
 ·
  have q := of_decide_eq_false q;obtain rfl : k = (tens i).length := by omega
  have hl9 : (45 :: Lib.decDigits i.natAbs : List UInt8).length = 1 + (tens i).length := by simp [Lib.decDigits_length, ten_len h0]; try omega
  have hxs : [.int .u8 45] ++ zdq (tens i) (tens i).length = (45 :: Lib.decDigits i.natAbs : List UInt8).map fun b => .int .u8 (b.toNat : Int) := by rw [shown_all h0]; rfl
  refine yr (zm (zm (zy (zd (srx (mvx rfl rfl (za rfl (ks (l := 45 :: Lib.decDigits i.natAbs) Tryz.underlying97 Tryz.underlying5 Tryz.underlying9 (congrArg some (congrArg (fun n ↦ Value.slice A1 n c1) hl9.symm)) (zbq Ob hxs) (anx rfl rfl (zu (zt (rs := [.tmp 2]) (vs := [_]) rfl ⟨rfl, trivial⟩ ?_)))))))))))
  exact ⟨by rw [hit]; rfl, (LW.step E XLW).toBelow⟩
theorem rshow_pos (hn : 0 < i) : Calls Tryz.prog 56 #[.agg #[.bool (decide (i < 0)), .slice A (tens i).length c]] w fun e w' => e = .returned (.string ⟨(Lib.itoa i).toArray⟩) ∧ Below w.heap.size w w' := by
 have h0 : i ≠ 0 := by omega
 have hit : Lib.itoa i = Lib.decDigits i.natAbs := by rw [Lib.itoa, if_neg (by omega), show i.toNat = i.natAbs by omega]
 have hl : ((tens i).length : Int) ≠ 0 := by have := zfv (j := i) (by omega); omega
 have hl2 := zfk hi;have hdi : decide (i < 0) = false := decide_eq_false (by omega);obtain ⟨bx, ox, rfl, hbx, hcx⟩ := hx.2 (zfv (by omega));refine zp Tryz.func56 rfl Tryz.ntmps56 rfl ?_;have HF : Per (No) w (fun _ => True) := Per.true_;have LW := erx (No) w;have XLW := grx (No) w;have E := erx (No) w;replace HF := HF.on E;replace LW := LW.step E XLW;replace E := erx (No) w
 replace HF := HF.and (Per.nums80 hx);refine srx (za rfl (kd rfl ?_));intro gb1 w2 Bb1 Eb1 Gb1;have Gb1 : _ ≤ gb1 := Nat.le_trans E.size Gb1;have GLb1 := Nat.le_trans LW.size Gb1;replace E := E.trans Eb1.no;replace HF := HF.cons (ya Gb1);replace E := E.cons (some gb1);replace XLW := Mut.grow XLW (fun k e => Or.inr (Nat.le_trans LW.size ((ya Gb1) k e)));replace HF := HF.on E
 replace LW := LW.step E XLW;have SB : ∀ q9, No q9 → Mut [(some gb1)] q9 := (Mut.skip Mut.nil_);replace HF := HF.less SB;replace XLW := fun k h => XLW k (SB k h);clear SB;replace E := erx (No) w2;replace HF := HF.and (Per.blkN Bb1 NotIn.nil)
 refine anx rfl rfl (zb (srx (za rfl (zc Tryz.underlying99 rfl sz97 (by decide) rfl (za rfl (zx Tryz.underlying97 rfl rfl (HF.on E).here.2 rfl (za rfl (jm Tryz.underlying97 rfl (za rfl (zw rfl rfl (rnx (yf 8 (.bool false) rfl ((by rw [beq_eq_false_iff_ne.2 hl] : (.bool (((((tens i).length : Nat)) : Int) == 0) : Value) = _)) (zl rfl (zf (zd (srx (anx rfl rfl (zb (srx (za rfl (zc Tryz.underlying99 rfl sz4 (by decide) rfl (za rfl (zx Tryz.underlying4 rfl rfl (HF.on E).here.2 rfl (rnx (yf 10 (.bool false) rfl ((by rw [hdi] : (.bool (decide (i < 0)) : Value) = _)) ?_)))))))))))))))))))))))))
 have Ob : World.ownsRow w2 w.heap.size 5 1 (.slice none 0 0) 0 ([]) := owns_nil;replace HF := HF.cons (nil_no);replace E := E.cons ((Value.slice none 0 0).ownBlock);replace XLW := Mut.grow XLW (fun k e => Or.inr (Nat.le_trans LW.size ((nil_no) k e)))
 refine zl rfl (zf (zd (zb (srx (za rfl (zc Tryz.underlying99 rfl sz97 (by decide) rfl (za rfl (zx Tryz.underlying97 rfl rfl (HF.on E).here.2 rfl (za rfl (jm Tryz.underlying97 rfl (za rfl (ye rfl rfl (zo (by omega)) (anx rfl rfl (zr (yf 4 (.int .i64 (((tens i).length : Int) - 1 - ((0 : Nat) : Int))) rfl ((by simp : (.int .i64 (((((tens i).length : Nat)) : Int) - 1) : Value) = _)) ?_)))))))))))))))
 replace HF := HF.on E;replace LW := LW.step E XLW;replace E := erx (Mut [((Value.slice none 0 0).ownBlock)]) w2
 refine jd (ι := Nat × Option Addr × Nat) (fun (k, A1, c1) => [(1, .pointer (some ⟨gb1, 0, none⟩)), (3, .slice A1 (0 + k) c1), (4, .int .i64 (((tens i).length : Int) - 1 - (k : Int)))]) (fun (k, A1, c1) w' => Ext (Mut [((Value.slice none 0 0).ownBlock)]) w2 w' ∧ World.ownsRow w' w.heap.size 5 1 (.slice A1 (0 + k) c1) (0 + k) ([] ++ zdq (tens i) k) ∧ (∀ q9, ((Value.slice A1 (0 + k) c1).ownBlock) = some q9 → ((Value.slice none 0 0).ownBlock) = some q9 ∨ w2.heap.size ≤ q9) ∧ (k ≤ (tens i).length)) (fun (k, A1, c1) => (tens i).length - k) (0, none, 0) ⟨rfl, rfl, rfl, trivial⟩ ⟨Ext.refl _ _, (by exact Ob), (fun _ e => Or.inl e), Nat.zero_le _⟩ ?_
 have LTb := (vq Ob);clear Ob;rintro ⟨k, A1, c1⟩ w4 ⟨M3, Ob, KbM3, hk⟩;have XM3 : Gro (Mut [((Value.slice A1 (0 + k) c1).ownBlock)]) (Mut [((Value.slice none 0 0).ownBlock)]) w2 := (Mut.grow Mut.none_ (fun k e => (KbM3 k e).elim (fun e => Or.inl (Mut.head k e)) Or.inr));replace E := E.trans M3;replace HF := HF.turn E XM3;have ZLW := LW.size
 have XT := fun q9 (h : (Mut [((Value.slice A1 (0 + k) c1).ownBlock)]) q9) => (XM3 q9 h).elim (XLW q9) (fun h => Or.inr (Nat.le_trans LW.size h));replace LW := LW.step E XLW;replace XLW := XT;clear ZLW;replace E := erx (Mut [((Value.slice A1 (0 + k) c1).ownBlock)]) w4;clear LTb;refine zb (srx (mvx rfl rfl (za rfl (va rfl rfl (rnx (yh rfl (fun q => ?_) (fun q => ?_)))))))
 ·
  have q := of_decide_eq_true q;refine zf (zd (zb (zr (ze (mvx rfl rfl (za rfl (zc Tryz.underlying99 rfl sz97 (by decide) rfl (za rfl (zx Tryz.underlying97 rfl rfl (HF.on E).here.2 rfl (mvx rfl rfl (za rfl (yn (j := (tens i).length - 1 - k) Tryz.underlying97 sz5 rfl rfl (by omega) (by omega) ?_))))))))))))
  have hin := yvk i ((tens i).length - 1 - k);obtain ⟨b9, o9, hA9, _, hc9⟩ := ((HF.on E).here.1.2).2 (zfv h0);obtain ⟨rfl, rfl⟩ : b9 = bx ∧ o9 = ox := by simpa using hA9.symm
  refine za rfl (yl Tryz.underlying5 rfl rfl (hc9 ((tens i).length - 1 - k) (by omega)) (za rfl (yd rfl rfl (xr (by omega)) (za rfl (qw (cs := #[.int .u8 (48 + (nth (tens i) ((tens i).length - 1 - k)))]) Tryz.underlying97 sz5 zr5 (by decide) rfl (by rw [vu]; rfl) ?_)))));intro gb5 w6 Bb5 Eb5 Gb5
  have Db5_b : Apart (some gb5) ((Value.slice A1 (0 + k) c1).ownBlock) := Apart.of_lt (vq Ob) Gb5;have Db_b5 := Db5_b.symm;have Gb5 : _ ≤ gb5 := Nat.le_trans E.size Gb5;have GLb5 := Nat.le_trans LW.size Gb5;replace Ob := qj Ob Eb5 NotIn.nil;replace E := E.trans Eb5.no;replace HF := HF.cons (ya Gb5);replace E := E.cons (some gb5)
  replace XLW := Mut.grow XLW (fun k e => Or.inr (Nat.le_trans LW.size ((ya Gb5) k e)));replace XM3 := Mut.grow XM3 (fun k e => Or.inr (Nat.le_trans M3.size ((ya Gb5) k e)));replace HF := HF.on E;replace LW := LW.step E XLW;replace M3 := M3.step E XM3
  have SB : ∀ q9, Mut [((Value.slice A1 (0 + k) c1).ownBlock)] q9 → Mut [(some gb5), ((Value.slice A1 (0 + k) c1).ownBlock)] q9 := (Mut.skip (Mut.keep Mut.nil_));replace HF := HF.less SB;replace XLW := fun k h => XLW k (SB k h);replace XM3 := fun k h => XM3 k (SB k h);clear SB;replace E := erx (Mut [((Value.slice A1 (0 + k) c1).ownBlock)]) w6
  replace HF := HF.and (Per.blkN Bb5 (NotIn.cons Db5_b NotIn.nil));refine za rfl (jn (news := [.int .u8 (48 + (nth (tens i) ((tens i).length - 1 - k)))]) Tryz.underlying97 zoq rfl (by decide) rfl Ob rfl (jk (HF.on E).here.2 ((HF.on E).here.2).lt rfl) (by simp [Value.oneCell']) (by unfold maxLen; omega) (by omega) (by exact Nat.le_trans LW.size E.size) ?_);intro v0 w7 On En KN
  obtain ⟨A2, c2, rfl⟩ := vt On;replace KN : ∀ q9, ((Value.slice A2 (0 + (k + 1)) c2).ownBlock) = some q9 → ((Value.slice A1 (0 + k) c1).ownBlock) = some q9 ∨ w6.heap.size ≤ q9 := KN
  have HY : Gro (Mut [((Value.slice A2 (0 + (k + 1)) c2).ownBlock)]) (Mut [((Value.slice A1 (0 + k) c1).ownBlock)]) w6 := (Mut.grow Mut.none_ (fun k e => (KN k e).elim (fun e => Or.inl (Mut.head k e)) (fun h => Or.inr (Nat.le_trans E.size h))))
  replace KbM3 : ∀ q9, ((Value.slice A2 (0 + (k + 1)) c2).ownBlock) = some q9 → ((Value.slice none 0 0).ownBlock) = some q9 ∨ w2.heap.size ≤ q9 := fun k e => (KN k e).elim (KbM3 k) (fun h => Or.inr (Nat.le_trans M3.size (Nat.le_trans E.size h)));replace E := E.step1 En Mut.head
  have XT := fun q9 (h : (Mut [((Value.slice A2 (0 + (k + 1)) c2).ownBlock)]) q9) => (HY q9 h).elim (XLW q9) (fun h => Or.inr (Nat.le_trans LW.size h));have XT := fun q9 (h : (Mut [((Value.slice A2 (0 + (k + 1)) c2).ownBlock)]) q9) => (HY q9 h).elim (XM3 q9) (fun h => Or.inr (Nat.le_trans M3.size h));replace M3 := M3.step E XM3;replace XM3 := XT
  replace E := erx (Mut [((Value.slice A2 (0 + (k + 1)) c2).ownBlock)]) w7;clear HY;replace Ob : World.ownsRow w7 w.heap.size 5 1 (.slice A2 (0 + (k + 1)) c2) (0 + (k + 1)) ([] ++ zdq (tens i) (k + 1)) := by
   have e : (([] ++ zdq (tens i) k) : List Value) ++ ([.int .u8 (48 + (nth (tens i) ((tens i).length - 1 - k)))] : List Value) = [] ++ zdq (tens i) (k + 1) := by rw [List.append_assoc, shown_succ]
   rw [← e];exact On
  clear On KN En
  refine avx rfl rfl (yg (zj (zd (ze (mvx rfl rfl (za rfl (ye rfl rfl (zo (by omega)) (avx rfl rfl (yg (yv 4 (.int .i64 (((tens i).length : Int) - 1 - ((k + 1 : Nat) : Int))) rfl ((by rw [show ((tens i).length : Int) - 1 - (k : Int) - 1 = ((tens i).length : Int) - 1 - ((k + 1 : Nat) : Int) by omega] : (.int .i64 ((((tens i).length : Int) - 1 - (k : Int)) - 1) : Value) = _)) ?_))))))))))
  exact yq (k + 1, A2, c2) (by show (tens i).length - (k + 1) < (tens i).length - k; omega) ⟨rfl, rfl, rfl, trivial⟩ ⟨M3.step E XM3, (by exact Ob), KbM3, (by omega : k + 1 ≤ (tens i).length)⟩
 ·
  have q := of_decide_eq_false q;obtain rfl : k = (tens i).length := by omega
  have hl9 : (Lib.decDigits i.natAbs : List UInt8).length = 0 + (tens i).length := by simp [Lib.decDigits_length, ten_len h0]; try omega
  have hxs : [] ++ zdq (tens i) (tens i).length = (Lib.decDigits i.natAbs : List UInt8).map fun b => .int .u8 (b.toNat : Int) := by rw [shown_all h0]; rfl
  refine yr (zm (zm (zy (zd (srx (mvx rfl rfl (za rfl (ks (l := Lib.decDigits i.natAbs) Tryz.underlying97 Tryz.underlying5 Tryz.underlying9 (congrArg some (congrArg (fun n ↦ Value.slice A1 n c1) hl9.symm)) (zbq Ob hxs) (anx rfl rfl (zu (zt (rs := [.tmp 2]) (vs := [_]) rfl ⟨rfl, trivial⟩ ?_)))))))))))
  exact ⟨by rw [hit]; rfl, (LW.step E XLW).toBelow⟩
theorem rshow_any : Calls Tryz.prog 56 #[.agg #[.bool (decide (i < 0)), .slice A (tens i).length c]] w fun e w' => e = .returned (.string ⟨(Lib.itoa i).toArray⟩) ∧ Below w.heap.size w w' := by
 rcases Int.lt_trichotomy i 0 with h | h | h
 · exact rshow_neg i A c w hi hx h
 · exact rshow_zero i A c w hi hx h
 · exact rshow_pos i A c w hi hx h
end
end Go.Proofs.YtjdcjdohghkcgaaGreatDoor
namespace Go.Proofs.YtjdcjdohghkcgaaGreatDoor
theorem zkv {n : Nat} (h : 10 ≤ n) : Lib.decDigits n = Lib.decDigits (n / 10) ++ [UInt8.ofNat (48 + n % 10)] := by
 rw [Lib.decDigits, dif_neg (by omega)]
theorem zpz {n : Nat} (h : n < 10) : Lib.decDigits n = [UInt8.ofNat (48 + n)] := Lib.decDigits_one h
def padk (k l : Nat) : List UInt8 := List.replicate (k - Lib.nDigits l) 48 ++ Lib.decDigits l
theorem padk_push {k l : Nat} (hk : 1 ≤ k) : padk (k + 1) l = padk k (l / 10) ++ [UInt8.ofNat (48 + l % 10)] := by
 unfold padk;rcases Nat.lt_or_ge l 10 with h | h
 · rw [Nat.div_eq_of_lt h, Nat.mod_eq_of_lt h, Lib.nDigits_small h, Lib.nDigits_small (by decide : 0 < 10), zpz h, zpz (by decide : 0 < 10)];obtain ⟨j, rfl⟩ : ∃ j, k = j + 1 := ⟨k - 1, by omega⟩;rw [show j + 1 + 1 - 1 = j + 1 by omega, show j + 1 - 1 = j by omega, List.replicate_succ'];rfl
 · rw [Lib.nDigits_big (by omega), zkv h, ← List.append_assoc, show k + 1 - (Lib.nDigits (l / 10) + 1) = k - Lib.nDigits (l / 10) by omega]
theorem dec_join {a : Nat} (ha : 0 < a) : ∀ (k l : Nat), l < 10 ^ (k + 1) → Lib.decDigits (a * 10 ^ (k + 1) + l) = Lib.decDigits a ++ padk (k + 1) l
 | 0, l, hl => by
  have h9 : l < 10 := by simpa using hl
  rw [zkv (by omega), show (a * 10 ^ (0 + 1) + l) / 10 = a by omega, show (a * 10 ^ (0 + 1) + l) % 10 = l by omega, padk, Lib.nDigits_small h9, zpz h9];rfl
 | k + 1, l, hl => by
  have e : a * 10 ^ (k + 1 + 1) + l = 10 * (a * 10 ^ (k + 1)) + l := by rw [Nat.pow_succ 10 (k + 1), ← Nat.mul_assoc, Nat.mul_comm _ 10]
  have h0 : 0 < a * 10 ^ (k + 1) := Nat.mul_pos ha (Nat.pow_pos (by decide));have key : ∀ X l : Nat, (10 * X + l) / 10 = X + l / 10 ∧ (10 * X + l) % 10 = l % 10 ∧ (0 < X → 10 ≤ 10 * X + l) := by omega
  have hd : (a * 10 ^ (k + 1 + 1) + l) / 10 = a * 10 ^ (k + 1) + l / 10 := by rw [e, (key _ _).1]
  have hm : (a * 10 ^ (k + 1 + 1) + l) % 10 = l % 10 := by rw [e, (key _ _).2.1]
  have hl2 : l / 10 < 10 ^ (k + 1) := by rw [Nat.pow_succ 10 (k + 1)] at hl; omega
  rw [zkv (by rw [e]; exact (key _ _).2.2 h0), hd, hm, dec_join ha k (l / 10) hl2, padk_push (k := k + 1) (l := l) (by omega), List.append_assoc]
theorem dec_join18 {a l : Nat} (ha : 0 < a) (hl : l < B18) : Lib.decDigits (a * B18 + l) = Lib.decDigits a ++ (List.replicate (18 - Lib.nDigits l) 48 ++ Lib.decDigits l) :=
 dec_join ha 17 l (by simpa [B18] using hl)
theorem yez {l : Nat} (hl : l < B18) : Lib.nDigits l ≤ 18 := by
 rcases Nat.lt_or_ge l 10 with h | h
 · rw [Lib.nDigits_small h]; omega
 · rcases Nat.lt_or_ge 18 (Lib.nDigits l) with h1 | h1
   · exfalso
     have h2 : ∀ (k u : Nat), k + 1 < Lib.nDigits u → 10 ^ (k + 1) ≤ u := by
      intro k;induction k with
      | zero =>
       intro u hu;rcases Nat.lt_or_ge u 10 with h | h
       · rw [Lib.nDigits_small h] at hu; omega
       · simpa using h
      | succ k ih =>
       intro u hu;rcases Nat.lt_or_ge u 10 with h | h
       · rw [Lib.nDigits_small h] at hu; omega
       · rw [Lib.nDigits_big (by omega)] at hu;have := ih (u / 10) (by omega);rw [Nat.pow_succ 10 (k + 1)]; omega
     have h3 := h2 17 l h1;have : (10 : Nat) ^ (17 + 1) = B18 := by decide
     omega
   · exact h1
def je (i : Int) (k : Nat) : List UInt8 := (if i < 0 then [45] else []) ++ (if k = 0 then [] else Lib.decDigits (i.natAbs / B18 ^ ((limbs i).length - k)))
theorem limb_at (i : Int) {k : Nat} : (limbs i).getD k 0 = i.natAbs / B18 ^ k % B18 := by
 rw [vm, yjz (by unfold B18; omega) (gn vi _), gr vi]
theorem nth_limb (i : Int) (k : Nat) : nth (limbs i) k = ((i.natAbs / B18 ^ k % B18 : Nat) : Int) := by
 unfold nth; rw [limb_at]
theorem limbs_top {i : Int} {k : Nat} (hk : k < (limbs i).length) : 0 < i.natAbs / B18 ^ k := by
 rcases Nat.eq_zero_or_pos (i.natAbs / B18 ^ k) with h | h
 · exfalso
   have h0 : 0 < B18 ^ k := Nat.pow_pos (by unfold B18; omega);have h1 : i.natAbs < B18 ^ k := by
    rcases Nat.lt_or_ge i.natAbs (B18 ^ k) with h1 | h1
    · exact h1
    · have := Nat.div_pos h1 h0; omega
   have := (qx vi i.natAbs k).2 h1;rw [← vm] at this;omega
 · exact h
theorem zrq (i : Int) : je i 0 = if i < 0 then [45] else [] := by simp [je]
theorem ycv {i : Int} (h : 0 < (limbs i).length) : je i 0 ++ Lib.decDigits (i.natAbs / B18 ^ ((limbs i).length - 1 - 0) % B18) = je i 1 := by
 have h1 : i.natAbs < B18 ^ (limbs i).length := (qx vi i.natAbs _).1 (by rw [← vm]; exact Nat.le_refl _);have h2 : i.natAbs / B18 ^ ((limbs i).length - 1) < B18 := by
  rw [Nat.div_lt_iff_lt_mul (Nat.pow_pos (by unfold B18; omega)), ← Nat.pow_succ', Nat.succ_eq_add_one, show (limbs i).length - 1 + 1 = (limbs i).length by omega]; exact h1
 rw [Nat.sub_zero, Nat.mod_eq_of_lt h2];simp [je]
theorem zrk {i : Int} {k : Nat} (hk0 : 0 < k) (hk : k < (limbs i).length) :
 je i k ++ (List.replicate (18 - Lib.nDigits (i.natAbs / B18 ^ ((limbs i).length - 1 - k) % B18)) 48 ++ Lib.decDigits (i.natAbs / B18 ^ ((limbs i).length - 1 - k) % B18)) = je i (k + 1) := by
 have e : i.natAbs / B18 ^ ((limbs i).length - k) = i.natAbs / B18 ^ ((limbs i).length - 1 - k) / B18 := by
  rw [Nat.div_div_eq_div_mul, ← Nat.pow_succ, Nat.succ_eq_add_one, show (limbs i).length - 1 - k + 1 = (limbs i).length - k by omega]
 have hp := limbs_top (i := i) (k := (limbs i).length - k) (by omega);have hj := dec_join18 (a := i.natAbs / B18 ^ ((limbs i).length - k)) (l := i.natAbs / B18 ^ ((limbs i).length - 1 - k) % B18) hp (Nat.mod_lt _ (by unfold B18; omega))
 rw [je, je, if_neg (show ¬ k = 0 by omega), if_neg (show ¬ k + 1 = 0 by omega), List.append_assoc, ← hj, e, Nat.mul_comm, Nat.div_add_mod, show (limbs i).length - (k + 1) = (limbs i).length - 1 - k by omega]
theorem texted_all {i : Int} (h : 0 < (limbs i).length) : je i (limbs i).length = Lib.itoa i := by
 rw [je, if_neg (show ¬ (limbs i).length = 0 by omega), Nat.sub_self, Nat.pow_zero, Nat.div_one, Lib.itoa];split
 · rfl
 · rw [show i.toNat = i.natAbs by omega]; rfl
theorem texted_len {i : Int} {k : Nat} (hk : k ≤ (limbs i).length) (hl : (limbs i).length ≤ 30) : (je i k).length ≤ 1 + 18 * k := by
 have h1 : ∀ k, k ≤ (limbs i).length → (je i k).length ≤ 1 + 18 * k := by
  intro k;induction k with
  | zero => intro _; rw [zrq]; split <;> simp
  | succ k ih =>
   intro hk1;have h2 := ih (by omega);have h3 : i.natAbs / B18 ^ ((limbs i).length - 1 - k) % B18 < B18 := Nat.mod_lt _ (by unfold B18; omega);have h4 := yez h3;rcases Nat.eq_zero_or_pos k with rfl | h0
   · rw [← ycv (by omega), List.length_append, Lib.decDigits_length];rw [Nat.sub_zero] at h4 ⊢;omega
   · rw [← zrk h0 (by omega), List.length_append, List.length_append, List.length_replicate, Lib.decDigits_length];omega
 exact h1 k hk
/-! ### the number that digits spell -/
def strip : List UInt8 → List UInt8
 | [] => []
 | b :: r => if b = 48 then strip r else b :: r
end Go.Proofs.YtjdcjdohghkcgaaGreatDoor
namespace Go.Proofs.YtjdcjdohghkcgaaGreatDoor
open Go.RowKit
set_option maxRecDepth 100000
theorem byte_of (r : Nat) (h : r < 10) : 48 ≤ (UInt8.ofNat (48 + r)).toNat ∧ (UInt8.ofNat (48 + r)).toNat ≤ 57 := by
 have e : (UInt8.ofNat (48 + r)).toNat = (48 + r) % 256 := rfl;rw [e];omega
theorem dec_all : ∀ n : Nat, ∀ c ∈ Lib.decDigits n, 48 ≤ c.toNat ∧ c.toNat ≤ 57 := by
 intro n;induction n using Nat.strongRecOn with
 | _ n ih =>
  by_cases h : 10 ≤ n
  · rw [zkv h];intro c hc;rcases List.mem_append.1 hc with h1 | h1
    · exact ih (n / 10) (by omega) c h1
    · obtain rfl := List.mem_singleton.1 h1;exact byte_of _ (by omega)
  · rw [zpz (by omega)];intro c hc;obtain rfl := List.mem_singleton.1 hc;exact byte_of _ (by omega)
theorem dec_pos (n : Nat) : 0 < (Lib.decDigits n).length := by
 by_cases h : 10 ≤ n
 · rw [zkv h, List.length_append]; show 0 < _ + 1; omega
 · rw [zpz (by omega)]; exact Nat.one_pos
theorem dec_len : ∀ (k n : Nat), n < 10 ^ (k + 1) → (Lib.decDigits n).length ≤ k + 1
 | 0, n, h => by rw [zpz (by simpa using h)]; exact Nat.le_refl _
 | k + 1, n, h => by
  by_cases h1 : 10 ≤ n
  · rw [zkv h1, List.length_append];have := dec_len k (n / 10) ((Nat.div_lt_iff_lt_mul (by decide)).2 (by rwa [Nat.pow_succ] at h));show _ + 1 ≤ _; omega
  · rw [zpz (by omega)]; show 1 ≤ _; omega
def itS (i : Int) : ByteArray := ⟨(Lib.itoa i).toArray⟩
def itF (i : Int) : Nat := if i < 0 then 1 else 0
theorem itS_at (i : Int) (j : Nat) : bAt (itS i) j = (((Lib.itoa i)[j]?).map (·.toNat)).getD 0 := by
 unfold bAt itS;rw [List.getElem?_toArray]
theorem itS_size (i : Int) : (itS i).size = (Lib.itoa i).length := by
 show (Lib.itoa i).toArray.size = _
 rw [List.size_toArray]
theorem it_neg {i : Int} (h : i < 0) : Lib.itoa i = 45 :: Lib.decDigits i.natAbs := by rw [Lib.itoa, if_pos h]
theorem it_pos {i : Int} (h : ¬ i < 0) : Lib.itoa i = Lib.decDigits i.toNat := by rw [Lib.itoa, if_neg h]
theorem it_sgn (i : Int) : SgnAt (itS i) (itF i) (decide (i < 0)) := by
 by_cases h : i < 0
 · refine .inr ⟨decide_eq_true h, by unfold itF; rw [if_pos h], ?_⟩;rw [itS_at, it_neg h]; rfl
 · exact .inl ⟨decide_eq_false h, by unfold itF; rw [if_neg h]⟩
theorem it_nm (i : Int) : Nm (itS i) (itF i) (itS i).size (itS i).size 0 := by
 have key : itF i < (itS i).size ∧ ∀ j, itF i ≤ j → j < (itS i).size → 48 ≤ bAt (itS i) j ∧ bAt (itS i) j ≤ 57 := by
  rw [itS_size];by_cases h : i < 0
  · have hf : itF i = 1 := by unfold itF; rw [if_pos h]
    have hp := dec_pos i.natAbs;rw [hf, it_neg h];refine ⟨by show 1 < _ + 1; omega, fun j hj hl => ?_⟩;have hl : j < (Lib.decDigits i.natAbs).length + 1 := hl;rw [itS_at, it_neg h];obtain ⟨k, rfl⟩ : ∃ k, j = k + 1 := ⟨j - 1, by omega⟩;rw [List.getElem?_cons_succ, List.getElem?_eq_getElem (by omega)];exact dec_all _ _ (List.getElem_mem _)
  · have hf : itF i = 0 := by unfold itF; rw [if_neg h]
    have hp := dec_pos i.toNat;rw [hf, it_pos h];refine ⟨hp, fun j hj hl => ?_⟩;rw [itS_at, it_pos h, List.getElem?_eq_getElem hl];exact dec_all _ _ (List.getElem_mem _)
 refine ⟨key.1, Nat.le_refl _, Nat.le_refl _, key.2, fun h => absurd h (Nat.lt_irrefl _), fun j h1 h2 => absurd h1 (Nat.not_lt.2 (Nat.le_of_lt h2)), fun h => absurd h (Nat.lt_irrefl _)⟩
theorem it_size {i : Int} (h : i.natAbs < B18 ^ 30) : (itS i).size < 100000 := by
 have e : B18 ^ 30 = 10 ^ (539 + 1) := by unfold B18; decide +kernel
 rw [e] at h;rw [itS_size];by_cases h0 : i < 0
 · rw [it_neg h0];have := dec_len 539 i.natAbs h;show _ + 1 < 100000
   omega
 · rw [it_pos h0];have := dec_len 539 i.toNat (by rw [show i.toNat = i.natAbs by omega]; exact h);omega
noncomputable def ofN (i : Int) : Nat := atV (itS i) (itF i) (decide (i < 0))
noncomputable def ofV (i : Int) : Nat := if rg (ofN i) = 9218868437227405312 then 0 else ofN i
noncomputable def ofE (i : Int) : Int := if rg (ofN i) = 9218868437227405312 then 7 else 0
theorem ofN_sgn (i : Int) : Sgn (decide (i < 0)) (ofN i) := atV_sgn _ (it_nm i)
theorem ofN_bare (i : Int) : bareN (ofN i) = ofN i := by unfold bareN; rw [(ofN_sgn i).num, if_neg (by decide)]
def Tab (w : World) : Prop := ∀ b, Below w.heap.size w b → Lib.TabIs Tryz.prog b "internal/strconv.uint64pow10" .u64 Lib.pow10Tab
theorem Tab.below {w w' : World} (h : Tab w) (hb : Below w.heap.size w w') : Tab w' := fun b hb' => h b (hb.trans (hb'.mono hb.size))
theorem ko (l : List UInt8) : (⟨l.toArray⟩ : ByteArray).size = l.length := by simp [ByteArray.size]
theorem ysv (a b : List UInt8) : (⟨a.toArray⟩ : ByteArray) ++ ⟨b.toArray⟩ = ⟨(a ++ b).toArray⟩ := by
 apply ByteArray.ext
 rw [ByteArray.data_append];simp
theorem ba_cut (a : List UInt8) (l h : Nat) : (⟨a.toArray⟩ : ByteArray).extract l h = ⟨((a.take h).drop l).toArray⟩ := by
 apply ByteArray.ext
 rw [ByteArray.data_extract];apply Array.ext'
 simp [List.extract, List.drop_take]
theorem yvv {n : Nat} : (⟨#[48, 48, 48, 48, 48, 48, 48, 48, 48, 48, 48, 48, 48, 48, 48, 48, 48, 48]⟩ : ByteArray).extract n 18 = ⟨(List.replicate (18 - n) (48 : UInt8)).toArray⟩ := by
 have h := ba_cut (List.replicate 18 48) n 18;rw [List.take_of_length_le (by simp), List.drop_replicate] at h;exact h
theorem fmtU (u : Nat) (hu64 : u < 18446744073709551616) (w : World) (ht : Tab w) : Calls Tryz.prog 93 #[.int .u64 u, .int .i64 10] w fun e w' => e = .returned (.string ⟨(Lib.decDigits u).toArray⟩) ∧ Below w.heap.size w w' := by
 refine zp Tryz.func93 rfl Tryz.ntmps93 rfl ?_;have LW := erx (No) w;have XLW := grx (No) w;have E := erx (No) w;refine srx (anx rfl rfl (srx (mvx rfl rfl (mvx rfl rfl (za rfl (zg en128 rfl ((fmt_any u hu64 _ (ht.below (LW.step E XLW).toBelow)).mono ?_)))))));rintro e w1 ⟨rfl, hb⟩;refine ⟨_, rfl, ?_⟩;have Ec := Ext.of_below hb No;replace E := E.trans Ec.no
 refine anx rfl rfl (zu (zt (rs := [.tmp 4]) (vs := [_]) rfl ⟨rfl, trivial⟩ ?_));exact ⟨rfl, (LW.step E XLW).toBelow⟩
section
variable (i : Int) (A : Option Addr) (c : Nat) (w : World) (hi : i.natAbs < B18 ^ 30) (hx : Nums w A (limbs i)) (ht : Tab w)
include hi hx ht
theorem text_zero (h0 : i = 0) : Calls Tryz.prog 55 #[.agg #[.bool (decide (i < 0)), .slice A (limbs i).length c]] w fun e w' => e = .returned (.string ⟨(Lib.itoa i).toArray⟩) ∧ Below w.heap.size w w' := by
 have _ := ht;have hl : ((limbs i).length : Int) = 0 := by rw [h0, jo]; rfl
 refine zp Tryz.func55 rfl Tryz.ntmps55 rfl ?_;have HF : Per (No) w (fun _ => True) := Per.true_;have LW := erx (No) w;have XLW := grx (No) w;have E := erx (No) w;replace HF := HF.on E;replace LW := LW.step E XLW;replace E := erx (No) w;replace HF := HF.and (Per.nums0 hx);refine srx (za rfl (kd rfl ?_));intro gb1 w2 Bb1 Eb1 Gb1;have Gb1 : _ ≤ gb1 := Nat.le_trans E.size Gb1
 have GLb1 := Nat.le_trans LW.size Gb1;replace E := E.trans Eb1.no;replace HF := HF.cons (ya Gb1);replace E := E.cons (some gb1);replace XLW := Mut.grow XLW (fun k e => Or.inr (Nat.le_trans LW.size ((ya Gb1) k e)));replace HF := HF.on E;replace LW := LW.step E XLW;have SB : ∀ q9, No q9 → Mut [(some gb1)] q9 := (Mut.skip Mut.nil_);replace HF := HF.less SB
 replace XLW := fun k h => XLW k (SB k h);clear SB;replace E := erx (No) w2;replace HF := HF.and (Per.blkN Bb1 NotIn.nil);refine anx rfl rfl (zb (srx (za rfl (yw Tryz.underlying42 rfl ve rfl (HF.on E).here.2 rfl (za rfl (zg en54 rfl ((ywv A c _ hi (HF.on E).here.1.2).mono ?_)))))));rintro e w3 ⟨rfl, hb⟩;refine ⟨_, rfl, ?_⟩;have Ec := Ext.of_below hb No
 replace E := E.trans Ec.no
 refine za rfl (gg rfl (rnx (zl rfl (zf (zd (zb (srx (za rfl (zc Tryz.underlying42 rfl zsz (by decide) rfl (za rfl (zx Tryz.underlying40 rfl rfl (HF.on E).here.2 rfl (za rfl (jm Tryz.underlying40 rfl (za rfl (zw rfl rfl (rnx (yf 12 (.bool true) rfl ((by rw [hl]; rfl : (.bool (((((limbs i).length : Nat)) : Int) == 0) : Value) = _)) (yb rfl (srx (anx rfl rfl (zu (zq ?_))))))))))))))))))))))
 have e : Lib.itoa 0 = [48] := by rw [Lib.itoa, if_neg (by decide), Lib.decDigits]; rfl
 refine zt (rs := [.tmp 2]) (vs := [_]) rfl ⟨rfl, trivial⟩ ?_;exact ⟨by rw [h0, e]; rfl, (LW.step E XLW).toBelow⟩
theorem text_neg (hn : i < 0) : Calls Tryz.prog 55 #[.agg #[.bool (decide (i < 0)), .slice A (limbs i).length c]] w fun e w' => e = .returned (.string ⟨(Lib.itoa i).toArray⟩) ∧ Below w.heap.size w w' := by
 have hpos := yiv (j := i) (by omega);have hl : ((limbs i).length : Int) ≠ 0 := by omega
 have hl2 := kh hi;have hdi : decide (i < 0) = true := decide_eq_true hn;obtain ⟨bx, ox, rfl, hbx, hcx⟩ := hx.2 hpos;refine zp Tryz.func55 rfl Tryz.ntmps55 rfl ?_;have HF : Per (No) w (fun _ => True) := Per.true_;have LW := erx (No) w;have XLW := grx (No) w;have E := erx (No) w;replace HF := HF.on E;replace LW := LW.step E XLW;replace E := erx (No) w
 replace HF := HF.and (Per.nums0 hx);refine srx (za rfl (kd rfl ?_));intro gb1 w2 Bb1 Eb1 Gb1;have Gb1 : _ ≤ gb1 := Nat.le_trans E.size Gb1;have GLb1 := Nat.le_trans LW.size Gb1;replace E := E.trans Eb1.no;replace HF := HF.cons (ya Gb1);replace E := E.cons (some gb1);replace XLW := Mut.grow XLW (fun k e => Or.inr (Nat.le_trans LW.size ((ya Gb1) k e)));replace HF := HF.on E
 replace LW := LW.step E XLW;have SB : ∀ q9, No q9 → Mut [(some gb1)] q9 := (Mut.skip Mut.nil_);replace HF := HF.less SB;replace XLW := fun k h => XLW k (SB k h);clear SB;replace E := erx (No) w2;replace HF := HF.and (Per.blkN Bb1 NotIn.nil)
 refine anx rfl rfl (zb (srx (za rfl (yw Tryz.underlying42 rfl ve rfl (HF.on E).here.2 rfl (za rfl (zg en54 rfl ((ywv _ c _ hi (HF.on E).here.1.2).mono ?_)))))));rintro e w3 ⟨rfl, hb⟩;refine ⟨_, rfl, ?_⟩;have Ec := Ext.of_below hb No;replace E := E.trans Ec.no
 refine za rfl (gg rfl (rnx (zl rfl (zf (zd (zb (srx (za rfl (zc Tryz.underlying42 rfl zsz (by decide) rfl (za rfl (zx Tryz.underlying40 rfl rfl (HF.on E).here.2 rfl (za rfl (jm Tryz.underlying40 rfl (za rfl (zw rfl rfl (rnx (yf 12 (.bool false) rfl ((by rw [beq_eq_false_iff_ne.2 hl] : (.bool (((((limbs i).length : Nat)) : Int) == 0) : Value) = _)) (zl rfl (zf (zd (srx (anx rfl rfl (zb (srx (za rfl (zc Tryz.underlying42 rfl sz4 (by decide) rfl (za rfl (zx Tryz.underlying4 rfl rfl (HF.on E).here.2 rfl (rnx (yf 14 (.bool true) rfl ((by rw [hdi] : (.bool (decide (i < 0)) : Value) = _)) (yb rfl (ze (anx rfl rfl (zb (srx ?_)))))))))))))))))))))))))))))))))))
 refine za rfl (zc Tryz.underlying42 rfl zsz (by decide) rfl (za rfl (zx Tryz.underlying40 rfl rfl (HF.on E).here.2 rfl (za rfl (jm Tryz.underlying40 rfl (za rfl (ye rfl rfl (zo (by omega)) (anx rfl rfl (zr (yf 3 (.string ⟨(je i 0).toArray⟩) rfl ((by rw [zrq, if_pos hn] : (.string ⟨#[45]⟩ : Value) = _)) (yf 4 (.int .i64 (((limbs i).length : Int) - 1 - ((0 : Nat) : Int))) rfl ((by simp : (.int .i64 (((((limbs i).length : Nat)) : Int) - 1) : Value) = _)) ?_)))))))))))
 replace HF := HF.on E;replace LW := LW.step E XLW;replace E := erx (No) w3;refine jd (ι := Nat) (fun k => [(1, .pointer (some ⟨gb1, 0, none⟩)), (3, .string ⟨(je i k).toArray⟩), (4, .int .i64 (((limbs i).length : Int) - 1 - (k : Int)))]) (fun k w' => Ext (No) w3 w' ∧ (k ≤ (limbs i).length)) (fun k => (limbs i).length - k) 0 ⟨rfl, rfl, rfl, trivial⟩ ⟨Ext.refl _ _, Nat.zero_le _⟩ ?_
 rintro k w5 ⟨M4, hk⟩;have XM4 := grx (No) w3;replace E := E.trans M4;replace HF := HF.on E;replace LW := LW.step E XLW;replace E := erx (No) w5;refine zb (srx (mvx rfl rfl (za rfl (va rfl rfl (rnx (yh rfl (fun q => ?_) (fun q => ?_)))))))
 ·
  have q := of_decide_eq_true q;obtain ⟨m, hm⟩ : ∃ m, m = i.natAbs / B18 ^ ((limbs i).length - 1 - k) % B18 := ⟨_, rfl⟩;have hm18 : m < B18 := by rw [hm]; exact Nat.mod_lt _ (by unfold B18; omega)
  have hm64 : m < 18446744073709551616 := by unfold B18 at hm18; omega
  have hnd := yez hm18;have hlt := texted_len (i := i) hk hl2;have hdl := Lib.decDigits_length m
  refine zf (zd (zb (zr (srx (za rfl (zc Tryz.underlying42 rfl zsz (by decide) rfl (za rfl (zx Tryz.underlying40 rfl rfl (HF.on E).here.2 rfl (mvx rfl rfl (za rfl (yn (j := (limbs i).length - 1 - k) Tryz.underlying40 zik rfl rfl (by omega) (by omega) ?_)))))))))));obtain ⟨b9, o9, hA9, _, hc9⟩ := ((HF.on E).here.1.2).2 hpos
  obtain ⟨rfl, rfl⟩ : b9 = bx ∧ o9 = ox := by simpa using hA9.symm
  have hc8 := hc9 ((limbs i).length - 1 - k) (by omega);rw [nth_limb, ← hm] at hc8;refine za rfl (yl Tryz.underlying32 rfl rfl hc8 (za rfl (zg en93 rfl ((fmtU m hm64 _ (ht.below (LW.step E XLW).toBelow)).mono ?_))));rintro e w6 ⟨rfl, hb⟩;refine ⟨_, rfl, ?_⟩;have Ec := Ext.of_below hb No;replace E := E.trans Ec.no
  refine anx rfl rfl (zb (srx (mvx rfl rfl (za rfl (zc Tryz.underlying42 rfl zsz (by decide) rfl (za rfl (zx Tryz.underlying40 rfl rfl (HF.on E).here.2 rfl (za rfl (jm Tryz.underlying40 rfl (za rfl (ye rfl rfl (zo (by omega)) (za rfl (yo rfl rfl (rnx (yh rfl (fun h2 => ?_) (fun h2 => ?_))))))))))))))))
  ·
   have h2 := of_decide_eq_true h2;have hk0 : 0 < k := by omega
   refine ze (mvx rfl rfl (za rfl (qq Tryz.underlying9 rfl (zz 36 (.int .i64 ((Lib.nDigits m : Nat) : Int)) rfl (by rw [ko, hdl]) (za rfl (kk (l := Lib.nDigits m) (h := 18) Tryz.underlying9 rfl ⟨_, rfl⟩ rfl hnd (Nat.le_refl _) (zz 37 (.string ⟨(List.replicate (18 - Lib.nDigits m) (48 : UInt8)).toArray⟩) rfl ((by rw [yvv] : (.string ((⟨#[48, 48, 48, 48, 48, 48, 48, 48, 48, 48, 48, 48, 48, 48, 48, 48, 48, 48]⟩ : ByteArray).extract (Lib.nDigits m) 18) : Value) = _)) (mvx rfl rfl (za rfl (zgv rfl rfl (by rw [ko, ko, List.length_replicate, hdl]; omega) (zz 39 (.string ⟨(List.replicate (18 - Lib.nDigits m) (48 : UInt8) ++ Lib.decDigits m).toArray⟩) rfl ((by rw [ysv] : (.string (⟨(List.replicate (18 - Lib.nDigits m) (48 : UInt8)).toArray⟩ ++ ⟨(Lib.decDigits m).toArray⟩) : Value) = _)) (anx rfl rfl (ze (mvx rfl rfl (mvx rfl rfl (za rfl (zgv rfl rfl (by rw [ko, ko, List.length_append, List.length_replicate, hdl]; omega) (zz 42 (.string ⟨(je i (k + 1)).toArray⟩) rfl ((by rw [ysv, hm, zrk hk0 (by omega)] : (.string (⟨(je i k).toArray⟩ ++ ⟨(List.replicate (18 - Lib.nDigits m) (48 : UInt8) ++ Lib.decDigits m).toArray⟩) : Value) = _)) (avx rfl rfl (yg (zj (zd (ze (mvx rfl rfl (za rfl (ye rfl rfl (zo (by omega)) (avx rfl rfl (yg (yv 4 (.int .i64 (((limbs i).length : Int) - 1 - ((k + 1 : Nat) : Int))) rfl ((by rw [show ((limbs i).length : Int) - 1 - (k : Int) - 1 = ((limbs i).length : Int) - 1 - ((k + 1 : Nat) : Int) by omega] : (.int .i64 ((((limbs i).length : Int) - 1 - (k : Int)) - 1) : Value) = _)) ?_)))))))))))))))))))))))))))))
   exact yq (k + 1) (by show (limbs i).length - (k + 1) < (limbs i).length - k; omega) ⟨rfl, rfl, rfl, trivial⟩ ⟨M4.step E XM4, (by omega : k + 1 ≤ (limbs i).length)⟩
  ·
   have h2 := of_decide_eq_false h2;have hk0 : k = 0 := by omega
   have hone : je i k ++ Lib.decDigits m = je i (k + 1) := by rw [hm, hk0]; exact ycv hpos
   refine zf (zd (ze (mvx rfl rfl (mvx rfl rfl (za rfl (zgv rfl rfl (by rw [ko, ko, hdl]; omega) (zz 42 (.string ⟨(je i (k + 1)).toArray⟩) rfl ((by rw [ysv, hone] : (.string (⟨(je i k).toArray⟩ ++ ⟨(Lib.decDigits m).toArray⟩) : Value) = _)) (avx rfl rfl (yg (zj (zd (ze (mvx rfl rfl (za rfl (ye rfl rfl (zo (by omega)) (avx rfl rfl (yg (yv 4 (.int .i64 (((limbs i).length : Int) - 1 - ((k + 1 : Nat) : Int))) rfl ((by rw [show ((limbs i).length : Int) - 1 - (k : Int) - 1 = ((limbs i).length : Int) - 1 - ((k + 1 : Nat) : Int) by omega] : (.int .i64 ((((limbs i).length : Int) - 1 - (k : Int)) - 1) : Value) = _)) ?_))))))))))))))))))
   exact yq (k + 1) (by show (limbs i).length - (k + 1) < (limbs i).length - k; omega) ⟨rfl, rfl, rfl, trivial⟩ ⟨M4.step E XM4, (by omega : k + 1 ≤ (limbs i).length)⟩
 ·
  have q := of_decide_eq_false q;obtain rfl : k = (limbs i).length := by omega
  refine yr (zm (zm (zy (zd (srx (mvx rfl rfl (anx rfl rfl (zu (zt (rs := [.tmp 2]) (vs := [_]) rfl ⟨rfl, trivial⟩ ?_)))))))));exact ⟨by rw [texted_all hpos]; rfl, (LW.step E XLW).toBelow⟩
theorem text_pos (hn : 0 < i) : Calls Tryz.prog 55 #[.agg #[.bool (decide (i < 0)), .slice A (limbs i).length c]] w fun e w' => e = .returned (.string ⟨(Lib.itoa i).toArray⟩) ∧ Below w.heap.size w w' := by
 have hpos := yiv (j := i) (by omega);have hl : ((limbs i).length : Int) ≠ 0 := by omega
 have hl2 := kh hi;have hdi : decide (i < 0) = false := decide_eq_false (by omega);obtain ⟨bx, ox, rfl, hbx, hcx⟩ := hx.2 hpos;refine zp Tryz.func55 rfl Tryz.ntmps55 rfl ?_;have HF : Per (No) w (fun _ => True) := Per.true_;have LW := erx (No) w;have XLW := grx (No) w;have E := erx (No) w;replace HF := HF.on E;replace LW := LW.step E XLW;replace E := erx (No) w
 replace HF := HF.and (Per.nums0 hx);refine srx (za rfl (kd rfl ?_));intro gb1 w2 Bb1 Eb1 Gb1;have Gb1 : _ ≤ gb1 := Nat.le_trans E.size Gb1;have GLb1 := Nat.le_trans LW.size Gb1;replace E := E.trans Eb1.no;replace HF := HF.cons (ya Gb1);replace E := E.cons (some gb1);replace XLW := Mut.grow XLW (fun k e => Or.inr (Nat.le_trans LW.size ((ya Gb1) k e)));replace HF := HF.on E
 replace LW := LW.step E XLW;have SB : ∀ q9, No q9 → Mut [(some gb1)] q9 := (Mut.skip Mut.nil_);replace HF := HF.less SB;replace XLW := fun k h => XLW k (SB k h);clear SB;replace E := erx (No) w2;replace HF := HF.and (Per.blkN Bb1 NotIn.nil)
 refine anx rfl rfl (zb (srx (za rfl (yw Tryz.underlying42 rfl ve rfl (HF.on E).here.2 rfl (za rfl (zg en54 rfl ((ywv _ c _ hi (HF.on E).here.1.2).mono ?_)))))));rintro e w3 ⟨rfl, hb⟩;refine ⟨_, rfl, ?_⟩;have Ec := Ext.of_below hb No;replace E := E.trans Ec.no
 refine za rfl (gg rfl (rnx (zl rfl (zf (zd (zb (srx (za rfl (zc Tryz.underlying42 rfl zsz (by decide) rfl (za rfl (zx Tryz.underlying40 rfl rfl (HF.on E).here.2 rfl (za rfl (jm Tryz.underlying40 rfl (za rfl (zw rfl rfl (rnx (yf 12 (.bool false) rfl ((by rw [beq_eq_false_iff_ne.2 hl] : (.bool (((((limbs i).length : Nat)) : Int) == 0) : Value) = _)) (zl rfl (zf (zd (srx (anx rfl rfl (zb (srx (za rfl (zc Tryz.underlying42 rfl sz4 (by decide) rfl (za rfl (zx Tryz.underlying4 rfl rfl (HF.on E).here.2 rfl (rnx (yf 14 (.bool false) rfl ((by rw [hdi] : (.bool (decide (i < 0)) : Value) = _)) (zl rfl (zf (zd (zb (srx (za rfl (zc Tryz.underlying42 rfl zsz (by decide) rfl (za rfl (zx Tryz.underlying40 rfl rfl (HF.on E).here.2 rfl ?_)))))))))))))))))))))))))))))))))))))))
 refine za rfl (jm Tryz.underlying40 rfl (za rfl (ye rfl rfl (zo (by omega)) (anx rfl rfl (zr (yf 3 (.string ⟨(je i 0).toArray⟩) rfl ((by rw [zrq, if_neg (by omega)] : (.string ⟨#[]⟩ : Value) = _)) (yf 4 (.int .i64 (((limbs i).length : Int) - 1 - ((0 : Nat) : Int))) rfl ((by simp : (.int .i64 (((((limbs i).length : Nat)) : Int) - 1) : Value) = _)) ?_)))))))
 replace HF := HF.on E;replace LW := LW.step E XLW;replace E := erx (No) w3;refine jd (ι := Nat) (fun k => [(1, .pointer (some ⟨gb1, 0, none⟩)), (3, .string ⟨(je i k).toArray⟩), (4, .int .i64 (((limbs i).length : Int) - 1 - (k : Int)))]) (fun k w' => Ext (No) w3 w' ∧ (k ≤ (limbs i).length)) (fun k => (limbs i).length - k) 0 ⟨rfl, rfl, rfl, trivial⟩ ⟨Ext.refl _ _, Nat.zero_le _⟩ ?_
 rintro k w5 ⟨M4, hk⟩;have XM4 := grx (No) w3;replace E := E.trans M4;replace HF := HF.on E;replace LW := LW.step E XLW;replace E := erx (No) w5;refine zb (srx (mvx rfl rfl (za rfl (va rfl rfl (rnx (yh rfl (fun q => ?_) (fun q => ?_)))))))
 ·
  have q := of_decide_eq_true q;obtain ⟨m, hm⟩ : ∃ m, m = i.natAbs / B18 ^ ((limbs i).length - 1 - k) % B18 := ⟨_, rfl⟩;have hm18 : m < B18 := by rw [hm]; exact Nat.mod_lt _ (by unfold B18; omega)
  have hm64 : m < 18446744073709551616 := by unfold B18 at hm18; omega
  have hnd := yez hm18;have hlt := texted_len (i := i) hk hl2;have hdl := Lib.decDigits_length m
  refine zf (zd (zb (zr (srx (za rfl (zc Tryz.underlying42 rfl zsz (by decide) rfl (za rfl (zx Tryz.underlying40 rfl rfl (HF.on E).here.2 rfl (mvx rfl rfl (za rfl (yn (j := (limbs i).length - 1 - k) Tryz.underlying40 zik rfl rfl (by omega) (by omega) ?_)))))))))));obtain ⟨b9, o9, hA9, _, hc9⟩ := ((HF.on E).here.1.2).2 hpos
  obtain ⟨rfl, rfl⟩ : b9 = bx ∧ o9 = ox := by simpa using hA9.symm
  have hc8 := hc9 ((limbs i).length - 1 - k) (by omega);rw [nth_limb, ← hm] at hc8;refine za rfl (yl Tryz.underlying32 rfl rfl hc8 (za rfl (zg en93 rfl ((fmtU m hm64 _ (ht.below (LW.step E XLW).toBelow)).mono ?_))));rintro e w6 ⟨rfl, hb⟩;refine ⟨_, rfl, ?_⟩;have Ec := Ext.of_below hb No;replace E := E.trans Ec.no
  refine anx rfl rfl (zb (srx (mvx rfl rfl (za rfl (zc Tryz.underlying42 rfl zsz (by decide) rfl (za rfl (zx Tryz.underlying40 rfl rfl (HF.on E).here.2 rfl (za rfl (jm Tryz.underlying40 rfl (za rfl (ye rfl rfl (zo (by omega)) (za rfl (yo rfl rfl (rnx (yh rfl (fun h2 => ?_) (fun h2 => ?_))))))))))))))))
  ·
   have h2 := of_decide_eq_true h2;have hk0 : 0 < k := by omega
   refine ze (mvx rfl rfl (za rfl (qq Tryz.underlying9 rfl (zz 36 (.int .i64 ((Lib.nDigits m : Nat) : Int)) rfl (by rw [ko, hdl]) (za rfl (kk (l := Lib.nDigits m) (h := 18) Tryz.underlying9 rfl ⟨_, rfl⟩ rfl hnd (Nat.le_refl _) (zz 37 (.string ⟨(List.replicate (18 - Lib.nDigits m) (48 : UInt8)).toArray⟩) rfl ((by rw [yvv] : (.string ((⟨#[48, 48, 48, 48, 48, 48, 48, 48, 48, 48, 48, 48, 48, 48, 48, 48, 48, 48]⟩ : ByteArray).extract (Lib.nDigits m) 18) : Value) = _)) (mvx rfl rfl (za rfl (zgv rfl rfl (by rw [ko, ko, List.length_replicate, hdl]; omega) (zz 39 (.string ⟨(List.replicate (18 - Lib.nDigits m) (48 : UInt8) ++ Lib.decDigits m).toArray⟩) rfl ((by rw [ysv] : (.string (⟨(List.replicate (18 - Lib.nDigits m) (48 : UInt8)).toArray⟩ ++ ⟨(Lib.decDigits m).toArray⟩) : Value) = _)) (anx rfl rfl (ze (mvx rfl rfl (mvx rfl rfl (za rfl (zgv rfl rfl (by rw [ko, ko, List.length_append, List.length_replicate, hdl]; omega) (zz 42 (.string ⟨(je i (k + 1)).toArray⟩) rfl ((by rw [ysv, hm, zrk hk0 (by omega)] : (.string (⟨(je i k).toArray⟩ ++ ⟨(List.replicate (18 - Lib.nDigits m) (48 : UInt8) ++ Lib.decDigits m).toArray⟩) : Value) = _)) (avx rfl rfl (yg (zj (zd (ze (mvx rfl rfl (za rfl (ye rfl rfl (zo (by omega)) (avx rfl rfl (yg (yv 4 (.int .i64 (((limbs i).length : Int) - 1 - ((k + 1 : Nat) : Int))) rfl ((by rw [show ((limbs i).length : Int) - 1 - (k : Int) - 1 = ((limbs i).length : Int) - 1 - ((k + 1 : Nat) : Int) by omega] : (.int .i64 ((((limbs i).length : Int) - 1 - (k : Int)) - 1) : Value) = _)) ?_)))))))))))))))))))))))))))))
   exact yq (k + 1) (by show (limbs i).length - (k + 1) < (limbs i).length - k; omega) ⟨rfl, rfl, rfl, trivial⟩ ⟨M4.step E XM4, (by omega : k + 1 ≤ (limbs i).length)⟩
  ·
   have h2 := of_decide_eq_false h2;have hk0 : k = 0 := by omega
   have hone : je i k ++ Lib.decDigits m = je i (k + 1) := by rw [hm, hk0]; exact ycv hpos
   refine zf (zd (ze (mvx rfl rfl (mvx rfl rfl (za rfl (zgv rfl rfl (by rw [ko, ko, hdl]; omega) (zz 42 (.string ⟨(je i (k + 1)).toArray⟩) rfl ((by rw [ysv, hone] : (.string (⟨(je i k).toArray⟩ ++ ⟨(Lib.decDigits m).toArray⟩) : Value) = _)) (avx rfl rfl (yg (zj (zd (ze (mvx rfl rfl (za rfl (ye rfl rfl (zo (by omega)) (avx rfl rfl (yg (yv 4 (.int .i64 (((limbs i).length : Int) - 1 - ((k + 1 : Nat) : Int))) rfl ((by rw [show ((limbs i).length : Int) - 1 - (k : Int) - 1 = ((limbs i).length : Int) - 1 - ((k + 1 : Nat) : Int) by omega] : (.int .i64 ((((limbs i).length : Int) - 1 - (k : Int)) - 1) : Value) = _)) ?_))))))))))))))))))
   exact yq (k + 1) (by show (limbs i).length - (k + 1) < (limbs i).length - k; omega) ⟨rfl, rfl, rfl, trivial⟩ ⟨M4.step E XM4, (by omega : k + 1 ≤ (limbs i).length)⟩
 ·
  have q := of_decide_eq_false q;obtain rfl : k = (limbs i).length := by omega
  refine yr (zm (zm (zy (zd (srx (mvx rfl rfl (anx rfl rfl (zu (zt (rs := [.tmp 2]) (vs := [_]) rfl ⟨rfl, trivial⟩ ?_)))))))));exact ⟨by rw [texted_all hpos]; rfl, (LW.step E XLW).toBelow⟩
theorem textI : Calls Tryz.prog 55 #[.agg #[.bool (decide (i < 0)), .slice A (limbs i).length c]] w fun e w' => e = .returned (.string ⟨(Lib.itoa i).toArray⟩) ∧ Below w.heap.size w w' := by
 rcases Int.lt_trichotomy i 0 with h | h | h
 · exact text_neg i A c w hi hx ht h
 · exact text_zero i A c w hi hx ht h
 · exact text_pos i A c w hi hx ht h
end
end Go.Proofs.YtjdcjdohghkcgaaGreatDoor
namespace Go.Proofs.YtjdcjdohghkcgaaGreatDoor
open Go.RowKit
set_option maxRecDepth 100000
attribute [local irreducible] OW RS
section
variable (w : World) {bp op cp bf of cf bl ol cl : Nat}
theorem of_bad (n1 : Bool) (A : Option Addr) (c : Nat) (xs : List Nat) (hl : xs.length ≤ 9223372036854775807) (hx : Nums w A xs) (hg : vr n1 xs = false) : Calls Tryz.prog 17 #[.agg #[.bool n1, .slice A xs.length c]] w fun e w' => e = .returned (.tuple #[.int .u64 0, .int .i64 3]) ∧ Below w.heap.size w w' := by
 refine zp Tryz.func17 rfl Tryz.ntmps17 rfl ?_;have HF : Per (No) w (fun _ => True) := Per.true_;have LW := erx (No) w;have XLW := grx (No) w;have E := erx (No) w;replace HF := HF.on E;replace LW := LW.step E XLW;replace E := erx (No) w;replace HF := HF.and (Per.nums0 hx);refine srx (za rfl (kd rfl ?_));intro gb1 w2 Bb1 Eb1 Gb1;have Gb1 : _ ≤ gb1 := Nat.le_trans E.size Gb1
 have GLb1 := Nat.le_trans LW.size Gb1;replace E := E.trans Eb1.no;replace HF := HF.cons (ya Gb1);replace E := E.cons (some gb1);replace XLW := Mut.grow XLW (fun k e => Or.inr (Nat.le_trans LW.size ((ya Gb1) k e)));replace HF := HF.on E;replace LW := LW.step E XLW;have SB : ∀ q9, No q9 → Mut [(some gb1)] q9 := (Mut.skip Mut.nil_);replace HF := HF.less SB
 replace XLW := fun k h => XLW k (SB k h);clear SB;replace E := erx (No) w2;replace HF := HF.and (Per.blkN Bb1 NotIn.nil);refine avx rfl rfl (anx rfl rfl (zb (srx (za rfl (yw Tryz.underlying42 rfl ve rfl (HF.on E).here.2 rfl (za rfl (zg en54 rfl ((zav _ c _ A xs hl (HF.on E).here.1.2).mono ?_))))))));rintro e w3 ⟨rfl, hb⟩;refine ⟨_, rfl, ?_⟩
 have Ec := Ext.of_below hb No;replace E := E.trans Ec.no;refine zz 7 (.bool false) rfl ((by rw [hg] : (.bool (vr n1 xs) : Value) = _)) (za rfl (gg rfl (rnx (yb rfl (srx (avx rfl rfl (anx rfl rfl (zu (zq (zt (rs := [.tmp 2, .tmp 3]) (vs := [_, _]) rfl ⟨rfl, rfl, trivial⟩ ?_))))))))));exact ⟨rfl, (LW.step E XLW).toBelow⟩
theorem of_good (i : Int) (A : Option Addr) (c : Nat) (hi : i.natAbs < B18 ^ 30) (hx : Nums w A (limbs i)) (hD : ∀ b, Below w.heap.size w b → TabD b) (hT : Tabs bp op cp bf of cf bl ol cl w) (hE : ∃ te pe, w.cell? ⟨4, 0, none⟩ = some (.iface te pe)) : Calls Tryz.prog 17 #[.agg #[.bool (decide (i < 0)), .slice A (limbs i).length c]] w fun e w' => e = .returned (.tuple #[.int .u64 ((ofV i : Nat) : Int), .int .i64 (ofE i)]) ∧ Below w.heap.size w w' := by
 obtain ⟨te, pe, hE⟩ := hE;refine zp Tryz.func17 rfl Tryz.ntmps17 rfl ?_;have HF : Per (No) w (fun _ => True) := Per.true_;have LW := erx (No) w;have XLW := grx (No) w;have E := erx (No) w;replace HF := HF.on E;replace LW := LW.step E XLW;replace E := erx (No) w;replace HF := HF.and (Per.nums0 hx);replace HF := HF.on E;replace LW := LW.step E XLW;replace E := erx (No) w
 replace HF := HF.and (Per.tabs hT (fun _ h => h.elim));replace HF := HF.on E;replace LW := LW.step E XLW;replace E := erx (No) w;replace HF := HF.and (Per.cellA hE (fun _ h => h.elim));refine srx (za rfl (kd rfl ?_));intro gb1 w2 Bb1 Eb1 Gb1;have Gb1 : _ ≤ gb1 := Nat.le_trans E.size Gb1;have GLb1 := Nat.le_trans LW.size Gb1;replace E := E.trans Eb1.no;replace HF := HF.cons (ya Gb1)
 replace E := E.cons (some gb1);replace XLW := Mut.grow XLW (fun k e => Or.inr (Nat.le_trans LW.size ((ya Gb1) k e)));replace HF := HF.on E;replace LW := LW.step E XLW;have SB : ∀ q9, No q9 → Mut [(some gb1)] q9 := (Mut.skip Mut.nil_);replace HF := HF.less SB;replace XLW := fun k h => XLW k (SB k h);clear SB;replace E := erx (No) w2;replace HF := HF.and (Per.blkN Bb1 NotIn.nil)
 refine avx rfl rfl (anx rfl rfl (zb (srx (za rfl (yw Tryz.underlying42 rfl ve rfl (HF.on E).here.2 rfl (za rfl (zg en54 rfl ((ywv _ c _ hi (HF.on E).here.1.1.1.2).mono ?_))))))));rintro e w3 ⟨rfl, hb⟩;refine ⟨_, rfl, ?_⟩;have Ec := Ext.of_below hb No;replace E := E.trans Ec.no
 refine za rfl (gg rfl (rnx (zl rfl (zf (zd (srx (za rfl (yw Tryz.underlying42 rfl ve rfl (HF.on E).here.2 rfl (za rfl (zg en55 rfl ((textI i A c _ hi (HF.on E).here.1.1.1.2 (later hD (LW.step E XLW).toBelow)).mono ?_)))))))))));rintro e w4 ⟨rfl, hb⟩;refine ⟨_, rfl, ?_⟩;have Ec := Ext.of_below hb No;replace E := E.trans Ec.no
 refine za rfl (zg en42 rfl ((parsef_any _ (itS i) (itF i) (decide (i < 0)) (it_sgn i) (it_nm i) (it_size hi) (HF.on E).here.1.1.2 ⟨te, pe, (HF.on E).here.1.2⟩).mono ?_));rintro e w5 ⟨⟨er, rfl⟩, hb⟩;refine ⟨_, rfl, ?_⟩;have Ec := Ext.of_below hb No;replace E := E.trans Ec.no
 refine mvx rfl rfl (za rfl (zn rfl rfl (za rfl (zn rfl rfl (avx rfl rfl (anx rfl rfl (zb (srx (mvx rfl rfl (za rfl (zg en49 rfl ((xj _ (ofN i) (ofN_sgn i).lt).mono ?_))))))))))));rintro e w6 ⟨rfl, hb⟩;refine ⟨_, rfl, ?_⟩;have Ec := Ext.of_below hb No;replace E := E.trans Ec.no;refine rnx (yh rfl (fun h => ?_) (fun h => ?_))
 ·
  have h := of_decide_eq_true h;refine srx (avx rfl rfl (anx rfl rfl (zu (zq (zt (rs := [.tmp 2, .tmp 3]) (vs := [_, _]) rfl ⟨rfl, rfl, trivial⟩ ?_)))));exact ⟨by unfold ofV ofE; rw [if_pos h, if_pos h]; rfl, (LW.step E XLW).toBelow⟩
 ·
  have h := of_decide_eq_false h;refine zf (zd (srx (mvx rfl rfl (za rfl (zg en44 rfl ((bare_any _ (ofN i)).mono ?_))))));rintro e w7 ⟨rfl, hb⟩;refine ⟨_, rfl, ?_⟩;have Ec := Ext.of_below hb No;replace E := E.trans Ec.no;refine avx rfl rfl (anx rfl rfl (zu (zt (rs := [.tmp 2, .tmp 3]) (vs := [_, _]) rfl ⟨rfl, rfl, trivial⟩ ?_)))
  exact ⟨by unfold ofV ofE; rw [if_neg h, if_neg h, ofN_bare]; rfl, (LW.step E XLW).toBelow⟩
theorem of_bad_r (n1 : Bool) (A : Option Addr) (c : Nat) (xs : List Nat) (hl : xs.length ≤ 9223372036854775807) (hx : Nums w A xs) (hg : vr n1 xs = false) : Calls Tryz.prog 18 #[.agg #[.bool n1, .slice A xs.length c]] w fun e w' => e = .returned (.tuple #[.int .u64 0, .int .i64 3]) ∧ Below w.heap.size w w' := by
 refine zp Tryz.func18 rfl Tryz.ntmps18 rfl ?_;have HF : Per (No) w (fun _ => True) := Per.true_;have LW := erx (No) w;have XLW := grx (No) w;have E := erx (No) w;replace HF := HF.on E;replace LW := LW.step E XLW;replace E := erx (No) w;replace HF := HF.and (Per.nums0 hx);refine srx (za rfl (kd rfl ?_));intro gb1 w2 Bb1 Eb1 Gb1;have Gb1 : _ ≤ gb1 := Nat.le_trans E.size Gb1
 have GLb1 := Nat.le_trans LW.size Gb1;replace E := E.trans Eb1.no;replace HF := HF.cons (ya Gb1);replace E := E.cons (some gb1);replace XLW := Mut.grow XLW (fun k e => Or.inr (Nat.le_trans LW.size ((ya Gb1) k e)));replace HF := HF.on E;replace LW := LW.step E XLW;have SB : ∀ q9, No q9 → Mut [(some gb1)] q9 := (Mut.skip Mut.nil_);replace HF := HF.less SB
 replace XLW := fun k h => XLW k (SB k h);clear SB;replace E := erx (No) w2;replace HF := HF.and (Per.blkN Bb1 NotIn.nil);refine avx rfl rfl (anx rfl rfl (zb (srx (za rfl (yw Tryz.underlying42 rfl ve rfl (HF.on E).here.2 rfl (za rfl (zg en27 rfl ((rgood_any _ c _ A xs hl (HF.on E).here.1.2).mono ?_))))))));rintro e w3 ⟨rfl, hb⟩;refine ⟨_, rfl, ?_⟩
 have Ec := Ext.of_below hb No;replace E := E.trans Ec.no;refine zz 8 (.bool false) rfl ((by rw [hg] : (.bool (vr n1 xs) : Value) = _)) (za rfl (gg rfl (rnx (yb rfl (srx (avx rfl rfl (anx rfl rfl (zu (zq (zt (rs := [.tmp 2, .tmp 3]) (vs := [_, _]) rfl ⟨rfl, rfl, trivial⟩ ?_))))))))));exact ⟨rfl, (LW.step E XLW).toBelow⟩
theorem of_good_r (i : Int) (A : Option Addr) (c : Nat) (hi : i.natAbs < B18 ^ 30) (hx : Nums w A (limbs i)) (hT : Tabs bp op cp bf of cf bl ol cl w) (hE : ∃ te pe, w.cell? ⟨4, 0, none⟩ = some (.iface te pe)) : Calls Tryz.prog 18 #[.agg #[.bool (decide (i < 0)), .slice A (limbs i).length c]] w fun e w' => e = .returned (.tuple #[.int .u64 ((ofV i : Nat) : Int), .int .i64 (ofE i)]) ∧ Below w.heap.size w w' := by
 obtain ⟨te, pe, hE⟩ := hE;refine zp Tryz.func18 rfl Tryz.ntmps18 rfl ?_;have HF : Per (No) w (fun _ => True) := Per.true_;have LW := erx (No) w;have XLW := grx (No) w;have E := erx (No) w;replace HF := HF.on E;replace LW := LW.step E XLW;replace E := erx (No) w;replace HF := HF.and (Per.nums0 hx);replace HF := HF.on E;replace LW := LW.step E XLW;replace E := erx (No) w
 replace HF := HF.and (Per.tabs hT (fun _ h => h.elim));replace HF := HF.on E;replace LW := LW.step E XLW;replace E := erx (No) w;replace HF := HF.and (Per.cellA hE (fun _ h => h.elim));refine srx (za rfl (kd rfl ?_));intro gb1 w2 Bb1 Eb1 Gb1;have Gb1 : _ ≤ gb1 := Nat.le_trans E.size Gb1;have GLb1 := Nat.le_trans LW.size Gb1;replace E := E.trans Eb1.no;replace HF := HF.cons (ya Gb1)
 replace E := E.cons (some gb1);replace XLW := Mut.grow XLW (fun k e => Or.inr (Nat.le_trans LW.size ((ya Gb1) k e)));replace HF := HF.on E;replace LW := LW.step E XLW;have SB : ∀ q9, No q9 → Mut [(some gb1)] q9 := (Mut.skip Mut.nil_);replace HF := HF.less SB;replace XLW := fun k h => XLW k (SB k h);clear SB;replace E := erx (No) w2;replace HF := HF.and (Per.blkN Bb1 NotIn.nil)
 refine avx rfl rfl (anx rfl rfl (zb (srx (za rfl (yw Tryz.underlying42 rfl ve rfl (HF.on E).here.2 rfl (za rfl (zg en27 rfl ((rgoodI _ c _ hi (HF.on E).here.1.1.1.2).mono ?_))))))));rintro e w3 ⟨rfl, hb⟩;refine ⟨_, rfl, ?_⟩;have Ec := Ext.of_below hb No;replace E := E.trans Ec.no
 refine za rfl (gg rfl (rnx (zl rfl (zf (zd (srx (za rfl (yw Tryz.underlying42 rfl ve rfl (HF.on E).here.2 rfl (za rfl (zg en57 rfl ((rofI _ c _ hi (HF.on E).here.1.1.1.2).mono ?_)))))))))));rintro e w4 ⟨A2, c2, rfl, o2, hb⟩;refine ⟨_, rfl, ?_⟩;have XC : ∀ q9, (No) q9 → q9 < w3.heap.size := Mut.none_;have Ec := Ext.of_below hb No
 replace E := E.trans Ec.no;replace HF := HF.on E;replace LW := LW.step E XLW;replace E := erx (No) w4;replace HF := HF.and (Per.own8X o2 XC);refine za rfl (zg en56 rfl ((rshow_any i A2 c2 _ hi (HF.on E).here.2).mono ?_));rintro e w5 ⟨rfl, hb⟩;refine ⟨_, rfl, ?_⟩;have Ec := Ext.of_below hb No;replace E := E.trans Ec.no
 refine za rfl (zg en42 rfl ((parsef_any _ (itS i) (itF i) (decide (i < 0)) (it_sgn i) (it_nm i) (it_size hi) (HF.on E).here.1.1.1.2 ⟨te, pe, (HF.on E).here.1.1.2⟩).mono ?_));rintro e w6 ⟨⟨er, rfl⟩, hb⟩;refine ⟨_, rfl, ?_⟩;have Ec := Ext.of_below hb No;replace E := E.trans Ec.no
 refine mvx rfl rfl (za rfl (zn rfl rfl (za rfl (zn rfl rfl (avx rfl rfl (anx rfl rfl (srx (mvx rfl rfl (za rfl (ke ex46 rfl (anx rfl rfl (zb (srx (mvx rfl rfl (za rfl (zg en58 rfl ((isinf_any _ (ofN i) (ofN_sgn i).lt).mono ?_)))))))))))))))));rintro e w7 ⟨rfl, hb⟩;refine ⟨_, rfl, ?_⟩;have Ec := Ext.of_below hb No;replace E := E.trans Ec.no
 refine rnx (yh rfl (fun h => ?_) (fun h => ?_))
 ·
  have h := of_decide_eq_true h;refine srx (avx rfl rfl (anx rfl rfl (zu (zq (zt (rs := [.tmp 2, .tmp 3]) (vs := [_, _]) rfl ⟨rfl, rfl, trivial⟩ ?_)))));exact ⟨by unfold ofV ofE; rw [if_pos h, if_pos h]; rfl, (LW.step E XLW).toBelow⟩
 ·
  have h := of_decide_eq_false h;refine zf (zd (srx (mvx rfl rfl (avx rfl rfl (anx rfl rfl (zu (zt (rs := [.tmp 2, .tmp 3]) (vs := [_, _]) rfl ⟨rfl, rfl, trivial⟩ ?_)))))));exact ⟨by unfold ofV ofE; rw [if_neg h, if_neg h]; rfl, (LW.step E XLW).toBelow⟩
noncomputable def wV (a : Nat) : Int := if isN a then 0 else if rg a = 9218868437227405312 then 0 else js a
noncomputable def wE (a : Nat) : Int := if isN a then 1 else if rg a = 9218868437227405312 then 7 else 0
theorem wV_lt (a : Nat) : (wV a).natAbs < B18 ^ 30 := by
 have h0 : (0 : Int).natAbs < B18 ^ 30 := by show 0 < B18 ^ 30; exact Nat.pow_pos (by unfold B18; decide)
 unfold wV;split
 · exact h0
 · rename_i h
   split
   · exact h0
   · rename_i h2
     have h3 := of_decide_eq_false (Bool.eq_false_iff.2 h);exact zjq (by omega)
theorem yfz {W w' : World} {f : Int} (hb : Below W.heap.size W w') : vh W 0 f (.returned (.tuple #[.agg #[.bool false, .slice none 0 0], .int .i64 f])) w' :=
 ⟨none, 0, by rw [jo]; rfl, by rw [jo]; exact Own.nil _ _, hb⟩
theorem whole_any (a : Nat) (ha : a < 18446744073709551616) : Calls Tryz.prog 19 #[.int .u64 ((a : Nat) : Int)] w (vh w (wV a) (wE a)) := by
 by_cases hn : isN a = true
 · unfold wV wE;rw [if_pos hn, if_pos hn];exact (whole_nan w a ha hn).mono (fun e w' ⟨he, hb⟩ => he ▸ yfz hb)
 · unfold wV wE;rw [if_neg hn, if_neg hn];by_cases hi : rg a = 9218868437227405312
   · rw [if_pos hi, if_pos hi];exact (whole_inf w a ha hi).mono (fun e w' ⟨he, hb⟩ => he ▸ yfz hb)
   · rw [if_neg hi, if_neg hi];have h3 := of_decide_eq_false (Bool.eq_false_iff.2 hn);exact whole_fin w a ha (by omega)
theorem whole_any_r (a : Nat) (ha : a < 18446744073709551616) : Calls Tryz.prog 20 #[.int .u64 ((a : Nat) : Int)] w (vh w (wV a) (wE a)) := by
 refine zp Tryz.func20 rfl Tryz.ntmps20 rfl ?_;have HF : Per (No) w (fun _ => True) := Per.true_;have LW := erx (No) w;have XLW := grx (No) w;have E := erx (No) w;refine srx (za rfl (qf od ?_));intro gb1 w2 Bb1 Eb1 Gb1;have Gb1 : _ ≤ gb1 := Nat.le_trans E.size Gb1;have GLb1 := Nat.le_trans LW.size Gb1;replace E := E.trans Eb1.no;replace HF := HF.cons (ya Gb1)
 replace E := E.cons (some gb1);replace XLW := Mut.grow XLW (fun k e => Or.inr (Nat.le_trans LW.size ((ya Gb1) k e)));refine anx rfl rfl (zb (srx (mvx rfl rfl (za rfl (zg en16 rfl ((isnan_any _ a ha).mono ?_))))));rintro e w3 ⟨rfl, hb⟩;refine ⟨_, rfl, ?_⟩;have Ec := Ext.of_below hb No;replace Bb1 := Bb1.extN Ec NotIn.nil;replace E := E.trans Ec.no
 refine rnx (yh rfl (fun hn => ?_) (fun hn => ?_))
 ·
  refine srx (za rfl (ztq (cs := #[.bool false, .slice none 0 0]) pl42 od rfl rfl (yp (ym ve rfl rfl Bb1 rfl rfl (Nat.le_of_ble_eq_true rfl) ?_))));intro w4 Bx Eb1;replace Bb1 := Bx;replace E := E.step1 Eb1 Mut.head
  refine anx rfl rfl (zu (zq (zt (rs := [.cell 2 42, .tmp 3]) (vs := [_, _]) rfl ⟨⟨_, rfl, gk Tryz.underlying42 rfl ve Bb1 rfl⟩, rfl, trivial⟩ ?_)));exact by unfold wV wE; rw [if_pos hn, if_pos hn]; exact yfz (LW.step E XLW).toBelow
 ·
  have hn' : ¬ isN a = true := by rw [hn]; decide
  refine zf (zd (zb (srx (mvx rfl rfl (za rfl (zg en58 rfl ((isinf_any _ a ha).mono ?_)))))));rintro e w5 ⟨rfl, hb⟩;refine ⟨_, rfl, ?_⟩;have Ec := Ext.of_below hb No;replace Bb1 := Bb1.extN Ec NotIn.nil;replace E := E.trans Ec.no;refine rnx (yh rfl (fun hi => ?_) (fun hi => ?_))
  ·
   have hi := of_decide_eq_true hi;refine srx (za rfl (ztq (cs := #[.bool false, .slice none 0 0]) pl42 od rfl rfl (yp (ym ve rfl rfl Bb1 rfl rfl (Nat.le_of_ble_eq_true rfl) ?_))));intro w6 Bx Eb1;replace Bb1 := Bx;replace E := E.step1 Eb1 Mut.head
   refine anx rfl rfl (zu (zq (zt (rs := [.cell 2 42, .tmp 3]) (vs := [_, _]) rfl ⟨⟨_, rfl, gk Tryz.underlying42 rfl ve Bb1 rfl⟩, rfl, trivial⟩ ?_)));exact by unfold wV wE; rw [if_neg hn', if_neg hn', if_pos hi, if_pos hi]; exact yfz (LW.step E XLW).toBelow
  ·
   have hi := of_decide_eq_false hi;have h3 := of_decide_eq_false hn;have hf : rg a < 9218868437227405312 := by omega
   have e1 : wV a = js a := by unfold wV; rw [if_neg hn', if_neg hi]
   have e2 : wE a = 0 := by unfold wE; rw [if_neg hn', if_neg hi]
   refine zf (zd (srx (mvx rfl rfl (za rfl (zg en66 rfl ((cut_any _ a ha hf).mono ?_))))));rintro e w7 ⟨A1, c1_, rfl, n1_, g1_, hb⟩;refine ⟨_, rfl, ?_⟩;have XC : ∀ q9, (Mut [(some gb1)]) q9 → q9 < w5.heap.size := (Mut.grow Mut.none_ (yc Bb1.lt));have Ec := Ext.of_below hb No;replace Bb1 := Bb1.extN Ec NotIn.nil;replace E := E.trans Ec.no;replace HF := HF.on E
   replace LW := LW.step E XLW;replace E := erx (Mut [(some gb1)]) w7;replace HF := HF.and (Per.nums8N n1_ (fun q hq h => by have h1 := XC _ h; have h2 := g1_ q hq; omega));refine mvx rfl rfl (za rfl (zn rfl rfl (za rfl (zn rfl rfl (za rfl (qf zr99 ?_))))));intro gb8 w9 Bb8 Eb8 Gb8;have Db8_b1 : Apart (some gb8) (some gb1) := Apart.of_lt (yc Bb1.lt) Gb8
   have Db1_b8 := Db8_b1.symm;have Gb8 : _ ≤ gb8 := Nat.le_trans E.size Gb8;have GLb8 := Nat.le_trans LW.size Gb8;replace Bb1 := Bb1.extN Eb8 NotIn.nil;replace E := E.trans Eb8.no;replace HF := HF.cons (ya Gb8);replace E := E.cons (some gb8);replace XLW := Mut.grow XLW (fun k e => Or.inr (Nat.le_trans LW.size ((ya Gb8) k e)))
   refine yp (ym oz rfl rfl Bb8 rfl rfl (Nat.le_of_ble_eq_true rfl) ?_);intro w10 Bx Eb8;replace Bb8 := Bx;replace Bb1 := Bb1.extN Eb8 (NotIn.cons Db1_b8 NotIn.nil);replace E := E.step1 Eb8 Mut.head;replace HF := HF.on E;replace LW := LW.step E XLW;have SB : ∀ q9, Mut [(some gb1)] q9 → Mut [(some gb8), (some gb1)] q9 := (Mut.skip (Mut.keep Mut.nil_));replace HF := HF.less SB
   replace XLW := fun k h => XLW k (SB k h);clear SB;replace E := erx (Mut [(some gb1)]) w10;replace HF := HF.and (Per.blkN Bb8 (NotIn.cons Db8_b1 NotIn.nil))
   refine anx rfl rfl (srx (za rfl (yw Tryz.underlying99 rfl oz rfl (HF.on E).here.2 rfl (za rfl (zg en67 rfl ((rto_any A1 c1_ (js a) _ (HF.on E).here.1.2 (Nat.le_trans (zfk (zjq hf)) (by decide))).mono ?_))))));rintro e w11 ⟨A2, c2, rfl, o2, hb⟩;refine ⟨_, rfl, ?_⟩
   have XC : ∀ q9, (Mut [(some gb1)]) q9 → q9 < w10.heap.size := (Mut.grow Mut.none_ (yc Bb1.lt));have SC := Nat.le_trans LW.size E.size;have Ec := Ext.of_below hb No;replace Bb1 := Bb1.extN Ec NotIn.nil;replace E := E.trans Ec.no;have hS := SC;replace HF := HF.on E;replace LW := LW.step E XLW;replace E := erx (Mut [(some gb1)]) w11;replace HF := HF.and (Per.ownX o2 XC)
   refine yp (ym ve rfl rfl Bb1 rfl rfl (Nat.le_of_ble_eq_true rfl) ?_);intro w12 Bx Eb1;replace Bb1 := Bx;replace E := E.step1 Eb1 Mut.head;replace HF := HF.on E;replace LW := LW.step E XLW;have SB : ∀ q9, No q9 → Mut [(some gb1)] q9 := (Mut.skip Mut.nil_);replace HF := HF.less SB;replace XLW := fun k h => XLW k (SB k h);clear SB;replace E := erx (No) w12
   replace HF := HF.and (Per.blkN Bb1 NotIn.nil);refine anx rfl rfl (zu (zt (rs := [.cell 2 42, .tmp 3]) (vs := [_, _]) rfl ⟨⟨_, rfl, gk Tryz.underlying42 rfl ve (HF.on E).here.2 rfl⟩, rfl, trivial⟩ ?_));exact ⟨A2, c2, by rw [e1, e2]; rfl, by rw [e1]; exact ((HF.on E).here.1.2).mono hS, (LW.step E XLW).toBelow⟩
theorem ofx_any (n1 : Bool) (A : Option Addr) (c : Nat) (xs : List Nat) (hl : xs.length ≤ 9223372036854775807) (hx : Nums w A xs) (V : Nat) (F : Int) (hV : V = (if vr n1 xs then ofV (num n1 xs) else 0)) (hF : F = (if vr n1 xs then ofE (num n1 xs) else 3)) (hD : ∀ b, Below w.heap.size w b → TabD b) (hT : Tabs bp op cp bf of cf bl ol cl w) (hE : ∃ te pe, w.cell? ⟨4, 0, none⟩ = some (.iface te pe)) : Calls Tryz.prog 17 #[.agg #[.bool n1, .slice A xs.length c]] w fun e w' => e = .returned (.tuple #[.int .u64 ((V : Nat) : Int), .int .i64 F]) ∧ Below w.heap.size w w' := by
 subst hV; subst hF;cases hg : vr n1 xs with
 | false => exact of_bad w n1 A c xs hl hx hg
 | true =>
  obtain ⟨i, rfl, rfl, hi⟩ := good_is hg;rw [if_pos rfl, if_pos rfl, zkx];exact of_good w i A c hi hx hD hT hE
theorem ofx_any_r (n1 : Bool) (A : Option Addr) (c : Nat) (xs : List Nat) (hl : xs.length ≤ 9223372036854775807) (hx : Nums w A xs) (V : Nat) (F : Int) (hV : V = (if vr n1 xs then ofV (num n1 xs) else 0)) (hF : F = (if vr n1 xs then ofE (num n1 xs) else 3)) (hT : Tabs bp op cp bf of cf bl ol cl w) (hE : ∃ te pe, w.cell? ⟨4, 0, none⟩ = some (.iface te pe)) : Calls Tryz.prog 18 #[.agg #[.bool n1, .slice A xs.length c]] w fun e w' => e = .returned (.tuple #[.int .u64 ((V : Nat) : Int), .int .i64 F]) ∧ Below w.heap.size w w' := by
 subst hV; subst hF;cases hg : vr n1 xs with
 | false => exact of_bad_r w n1 A c xs hl hx hg
 | true =>
  obtain ⟨i, rfl, rfl, hi⟩ := good_is hg;rw [if_pos rfl, if_pos rfl, zkx];exact of_good_r w i A c hi hx hT hE
theorem wholes_law (a : Nat) (n1 : Bool) (A : Option Addr) (c : Nat) (xs : List Nat) (ha : a < 18446744073709551616) (hx : Nums w A xs) (hl : xs.length ≤ 9223372036854775807) (hT : ∀ b, Below w.heap.size w b → Ten b) (hD : ∀ b, Below w.heap.size w b → TabD b) (hTab : Tabs bp op cp bf of cf bl ol cl w) (hE : ∃ te pe, w.cell? ⟨4, 0, none⟩ = some (.iface te pe)) : Calls Tryz.prog 6 #[.int .u64 ((a : Nat) : Int), .agg #[.bool n1, .slice A xs.length c]] w fun e w' => e = .returned (.bool true) ∧ Below w.heap.size w w' := by
 obtain ⟨te, pe, hE⟩ := hE;obtain ⟨V, hV⟩ : ∃ V, V = (if vr n1 xs then ofV (num n1 xs) else 0) := ⟨_, rfl⟩;obtain ⟨F, hF⟩ : ∃ F, F = (if vr n1 xs then ofE (num n1 xs) else 3) := ⟨_, rfl⟩;refine zp Tryz.func6 rfl Tryz.ntmps6 rfl ?_;have HF : Per (No) w (fun _ => True) := Per.true_;have LW := erx (No) w;have XLW := grx (No) w;have E := erx (No) w;replace HF := HF.on E
 replace LW := LW.step E XLW;replace E := erx (No) w;replace HF := HF.and (Per.nums0 hx);replace HF := HF.on E;replace LW := LW.step E XLW;replace E := erx (No) w;replace HF := HF.and (Per.tabs hTab (fun _ h => h.elim));replace HF := HF.on E;replace LW := LW.step E XLW;replace E := erx (No) w;replace HF := HF.and (Per.cellA hE (fun _ h => h.elim));refine srx (za rfl (kd rfl ?_))
 intro gb1 w2 Bb1 Eb1 Gb1;have Gb1 : _ ≤ gb1 := Nat.le_trans E.size Gb1;have GLb1 := Nat.le_trans LW.size Gb1;replace E := E.trans Eb1.no;replace HF := HF.cons (ya Gb1);replace E := E.cons (some gb1);replace XLW := Mut.grow XLW (fun k e => Or.inr (Nat.le_trans LW.size ((ya Gb1) k e)));replace HF := HF.on E;replace LW := LW.step E XLW
 have SB : ∀ q9, No q9 → Mut [(some gb1)] q9 := (Mut.skip Mut.nil_);replace HF := HF.less SB;replace XLW := fun k h => XLW k (SB k h);clear SB;replace E := erx (No) w2;replace HF := HF.and (Per.blkN Bb1 NotIn.nil)
 refine anx rfl rfl (srx (za rfl (yw Tryz.underlying42 rfl ve rfl (HF.on E).here.2 rfl (za rfl (zg en17 rfl ((ofx_any _ n1 A c xs hl (HF.on E).here.1.1.1.2 V F hV hF (later hD (LW.step E XLW).toBelow) (HF.on E).here.1.1.2 ⟨te, pe, (HF.on E).here.1.2⟩).mono ?_))))));rintro e w3 ⟨rfl, hb⟩;refine ⟨_, rfl, ?_⟩;have Ec := Ext.of_below hb No;replace E := E.trans Ec.no
 refine mvx rfl rfl (za rfl (zn rfl rfl (za rfl (zn rfl rfl (avx rfl rfl (anx rfl rfl (srx (za rfl (yw Tryz.underlying42 rfl ve rfl (HF.on E).here.2 rfl (za rfl (zg en18 rfl ((ofx_any_r _ n1 A c xs hl (HF.on E).here.1.1.1.2 V F hV hF (HF.on E).here.1.1.2 ⟨te, pe, (HF.on E).here.1.2⟩).mono ?_))))))))))));rintro e w4 ⟨rfl, hb⟩;refine ⟨_, rfl, ?_⟩
 have Ec := Ext.of_below hb No;replace E := E.trans Ec.no;refine mvx rfl rfl (za rfl (zn rfl rfl (za rfl (zn rfl rfl (avx rfl rfl (anx rfl rfl (zb (srx (za rfl (zg en14 rfl ((known_any _ (later hT (LW.step E XLW).toBelow) (later hD (LW.step E XLW).toBelow)).mono ?_)))))))))));rintro e w5 ⟨rfl, hb⟩;refine ⟨_, rfl, ?_⟩;have Ec := Ext.of_below hb No
 replace E := E.trans Ec.no
 refine za rfl (gg rfl (mvx rfl rfl (onx rfl rfl (zk rfl (onx rfl rfl (zk rfl (onx rfl rfl (jl rfl rfl (za rfl (yi rfl rfl (mvx rfl rfl (zz 28 (.bool false) rfl ((by simp : (.bool (((V : Nat) : Int) != ((V : Nat) : Int)) : Value) = _)) (onx rfl rfl (zk rfl (onx rfl rfl (zk rfl (onx rfl rfl (jl rfl rfl (za rfl (yi rfl rfl (rnx (yf 32 (.bool false) rfl ((by simp : (.bool (F != F) : Value) = _)) (zl rfl (zf (zd (srx (mvx rfl rfl (za rfl (zg en19 rfl ((whole_any _ a ha).mono ?_))))))))))))))))))))))))))))))
 rintro e w6 ⟨A2, c2, rfl, o2, hb⟩;refine ⟨_, rfl, ?_⟩;have XC : ∀ q9, (No) q9 → q9 < w5.heap.size := Mut.none_;have Ec := Ext.of_below hb No;replace E := E.trans Ec.no;replace HF := HF.on E;replace LW := LW.step E XLW;replace E := erx (No) w6;replace HF := HF.and (Per.own o2 XC);refine mvx rfl rfl (za rfl (zn rfl rfl (za rfl (zn rfl rfl (za rfl (qf od ?_))))))
 intro gb7 w8 Bb7 Eb7 Gb7;have Gb7 : _ ≤ gb7 := Nat.le_trans E.size Gb7;have GLb7 := Nat.le_trans LW.size Gb7;replace E := E.trans Eb7.no;replace HF := HF.cons (ya Gb7);replace E := E.cons (some gb7);replace XLW := Mut.grow XLW (fun k e => Or.inr (Nat.le_trans LW.size ((ya Gb7) k e)));refine yp (ym ve rfl rfl Bb7 rfl rfl (Nat.le_of_ble_eq_true rfl) ?_);intro w9 Bx Eb7
 replace Bb7 := Bx;replace E := E.step1 Eb7 Mut.head;replace HF := HF.on E;replace LW := LW.step E XLW;have SB : ∀ q9, No q9 → Mut [(some gb7)] q9 := (Mut.skip Mut.nil_);replace HF := HF.less SB;replace XLW := fun k h => XLW k (SB k h);clear SB;replace E := erx (No) w9;replace HF := HF.and (Per.blkN Bb7 NotIn.nil)
 refine anx rfl rfl (srx (mvx rfl rfl (za rfl (zg en20 rfl ((whole_any_r _ a ha).mono ?_)))));rintro e w10 ⟨A3, c3, rfl, o3, hb⟩;refine ⟨_, rfl, ?_⟩;have XC : ∀ q9, (No) q9 → q9 < w9.heap.size := Mut.none_;have Ec := Ext.of_below hb No;replace E := E.trans Ec.no;replace HF := HF.on E;replace LW := LW.step E XLW;replace E := erx (No) w10;replace HF := HF.and (Per.own o3 XC)
 refine mvx rfl rfl (za rfl (zn rfl rfl (za rfl (zn rfl rfl (za rfl (qf od ?_))))));intro gb11 w12 Bb11 Eb11 Gb11;have Gb11 : _ ≤ gb11 := Nat.le_trans E.size Gb11;have GLb11 := Nat.le_trans LW.size Gb11;replace E := E.trans Eb11.no;replace HF := HF.cons (ya Gb11);replace E := E.cons (some gb11)
 replace XLW := Mut.grow XLW (fun k e => Or.inr (Nat.le_trans LW.size ((ya Gb11) k e)));refine yp (ym ve rfl rfl Bb11 rfl rfl (Nat.le_of_ble_eq_true rfl) ?_);intro w13 Bx Eb11;replace Bb11 := Bx;replace E := E.step1 Eb11 Mut.head;replace HF := HF.on E;replace LW := LW.step E XLW;have SB : ∀ q9, No q9 → Mut [(some gb11)] q9 := (Mut.skip Mut.nil_);replace HF := HF.less SB
 replace XLW := fun k h => XLW k (SB k h);clear SB;replace E := erx (No) w13;replace HF := HF.and (Per.blkN Bb11 NotIn.nil)
 refine anx rfl rfl (srx (za rfl (yw Tryz.underlying42 rfl ve rfl (HF.on E).here.1.1.2 rfl (za rfl (yw Tryz.underlying42 rfl ve rfl (HF.on E).here.2 rfl (za rfl (zg en21 rfl ((sameI A2 A3 c2 c3 _ (wV_lt a) (wV_lt a) (HF.on E).here.1.1.1.2 (HF.on E).here.1.2 rfl).mono ?_))))))));rintro e w14 ⟨rfl, hb⟩;refine ⟨_, rfl, ?_⟩;have Ec := Ext.of_below hb No
 replace E := E.trans Ec.no;refine mvx rfl rfl (onx rfl rfl (zk rfl (onx rfl rfl (zk rfl (onx rfl rfl (zw rfl rfl (zz 49 (.bool true) rfl (by simp : (.bool ((wE a) == (wE a)) : Value) = _) (za rfl (yk rfl rfl (anx rfl rfl (zu (zt (rs := [.tmp 4]) (vs := [_]) rfl ⟨rfl, trivial⟩ ?_))))))))))));exact ⟨by simp; rfl, (LW.step E XLW).toBelow⟩
end
end Go.Proofs.YtjdcjdohghkcgaaGreatDoor

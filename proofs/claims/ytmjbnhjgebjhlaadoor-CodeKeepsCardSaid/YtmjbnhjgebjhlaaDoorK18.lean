/- Texts of this claim. -/
import Derived.Test.YtmjbnhjgebjhlaaDoorK17
namespace Go.Proofs.YtmjbnhjgebjhlaaDoor
open Go.RowKit
set_option maxRecDepth 100000
attribute [local irreducible] OW RS flN uD uA uB uT uL rL rK rLo rHi
section
variable (w : World) (A : Option Addr) (n cp : Nat) (fs : List LFn) (hfs : FsA n w A fs) (p : Pl) (f : LFn) (i : LIns) (B : Option Addr) (c : Nat) (hl : IntsA n w B i.l)
include hfs hl
theorem rightL_any (hk : (flN i.op).testBit 9 = true → 0 ≤ i.k ∧ i.k < (fs.length : Int)) : Calls Tryd.prog 19 #[.agg #[.slice A fs.length cp], fnV p f, .agg #[.int .i64 i.op, .int .i64 i.d, .int .i64 i.a, .int .i64 i.b, .int .i64 i.t, .int .i64 i.k, .slice B i.l.length c], .int .i64 ((flN i.op : Nat) : Int)] w fun e w' => e = .returned (.bool (lOK fs f i)) ∧ Below w.heap.size w w' := by
 have hll := hl.len;have hlf := hfs.len;refine yl Tryd.func19 rfl Tryd.ntmps19 rfl ?_;have HF : Per (No) w (fun _ => True) := Per.true_;have LW := erx (No) w;have XLW := grx (No) w;have E := erx (No) w;replace HF := HF.on E;replace LW := LW.step E XLW;replace E := erx (No) w;replace HF := HF.and (Per.ints hl (fun _ h => h.elim));replace HF := HF.on E;replace LW := LW.step E XLW
 replace E := erx (No) w;replace HF := HF.and (Per.fsA hfs (fun _ h => h.elim));refine srx (za rfl (jy rfl ?_));intro gb1 w2 Bb1 Eb1 Gb1;have Gb1 : _ ≤ gb1 := Nat.le_trans E.size Gb1;have GLb1 := Nat.le_trans LW.size Gb1;replace E := E.trans Eb1.no;replace HF := HF.cons (yb Gb1);replace E := E.cons (some gb1)
 replace XLW := Mut.grow XLW (fun k e => Or.inr (Nat.le_trans LW.size ((yb Gb1) k e)));replace HF := HF.on E;replace LW := LW.step E XLW;have SB : ∀ q9, No q9 → Mut [(some gb1)] q9 := (Mut.skip Mut.nil_);replace HF := HF.less SB;replace XLW := fun k h => XLW k (SB k h);clear SB;replace E := erx (No) w2;replace HF := HF.and (Per.blkN Bb1 NotIn.nil);refine za rfl (jy rfl ?_)
 intro gb3 w4 Bb3 Eb3 Gb3;have Gb3 : _ ≤ gb3 := Nat.le_trans E.size Gb3;have GLb3 := Nat.le_trans LW.size Gb3;replace E := E.trans Eb3.no;replace HF := HF.cons (yb Gb3);replace E := E.cons (some gb3);replace XLW := Mut.grow XLW (fun k e => Or.inr (Nat.le_trans LW.size ((yb Gb3) k e)));replace HF := HF.on E;replace LW := LW.step E XLW
 have SB : ∀ q9, No q9 → Mut [(some gb3)] q9 := (Mut.skip Mut.nil_);replace HF := HF.less SB;replace XLW := fun k h => XLW k (SB k h);clear SB;replace E := erx (No) w4;replace HF := HF.and (Per.blkN Bb3 NotIn.nil);refine za rfl (jy rfl ?_);intro gb5 w6 Bb5 Eb5 Gb5;have Gb5 : _ ≤ gb5 := Nat.le_trans E.size Gb5;have GLb5 := Nat.le_trans LW.size Gb5;replace E := E.trans Eb5.no
 replace HF := HF.cons (yb Gb5);replace E := E.cons (some gb5);replace XLW := Mut.grow XLW (fun k e => Or.inr (Nat.le_trans LW.size ((yb Gb5) k e)));replace HF := HF.on E;replace LW := LW.step E XLW;have SB : ∀ q9, No q9 → Mut [(some gb5)] q9 := (Mut.skip Mut.nil_);replace HF := HF.less SB;replace XLW := fun k h => XLW k (SB k h);clear SB;replace E := erx (No) w6
 replace HF := HF.and (Per.blkN Bb5 NotIn.nil);refine anx rfl (zf (srx (za rfl (zb Tryd.underlying40 rfl xy (by decide) rfl (za rfl (zl Tryd.underlying38 rfl rfl (HF.on E).here.2 rfl (za rfl (vi Tryd.underlying38 rfl (mvx rfl (rnx (zx ?_)))))))))));replace HF := HF.on E;replace LW := LW.step E XLW;replace E := erx (No) w6
 refine qk (ι := Nat) (fun k => [(3, .int .i64 ((flN i.op : Nat) : Int)), (4, .pointer (some ⟨gb1, 0, none⟩)), (5, .pointer (some ⟨gb3, 0, none⟩)), (6, .pointer (some ⟨gb5, 0, none⟩)), (13, .slice B i.l.length c), (14, .int .i64 ((i.l.length : Nat) : Int)), (15, .int .i64 ((k : Nat) : Int))]) (fun k w' => Ext (No) w6 w' ∧ (k ≤ i.l.length ∧ (i.l.take k).all (fun r => inI r f.regs) = true)) (fun k => i.l.length - k) 0 ⟨rfl, rfl, rfl, rfl, rfl, rfl, rfl, trivial⟩ ⟨Ext.refl _ _, ⟨Nat.zero_le _, by rw [List.take_zero]; rfl⟩⟩ ?_
 rintro k w8 ⟨M7, ⟨hk0, hall⟩⟩;have XM7 := grx (No) w6;replace E := E.trans M7;replace HF := HF.on E;replace LW := LW.step E XLW;replace E := erx (No) w8;refine srx (za rfl (yt rfl rfl (rnx (zf (zt rfl (fun q => ?_) (fun q => ?_))))))
 ·
  have q := of_decide_eq_true q;have hlt : k < i.l.length := by omega
  obtain ⟨y, hy⟩ : ∃ y, i.l[k]? = some y := ⟨_, List.getElem?_eq_getElem hlt⟩;obtain ⟨g, o, hB, hg, hc⟩ := ((HF.on E).here.1.1.1.1.2).cell hy
  refine zj (ze (zf (zx (srx (za rfl (va (j := k) Tryd.underlying38 sz3 (congrArg (fun z ↦ some (Value.slice z i.l.length c)) hB) rfl rfl hlt (za rfl (yk Tryd.underlying3 rfl rfl hc (anx rfl (srx (mvx rfl (za rfl (zb Tryd.underlying37 rfl sz3 (by decide) rfl (za rfl (zl Tryd.underlying3 rfl rfl (HF.on E).here.1.2 rfl (za rfl (zz en14 rfl ((zcv _ true y f.regs).mono ?_))))))))))))))))))
  rintro e w9 ⟨rfl, hb⟩;refine ⟨_, rfl, ?_⟩;replace E := blx E hb;refine za rfl (vw rfl (rnx ?_));by_cases hin : inI y f.regs = true
  ·
   refine zu 23 (.bool false) rfl ((by rw [yhz, hin]; rfl : (.bool (!(yq true y f.regs)) : Value) = _)) (zy rfl (zj (zm (ze (zi (za rfl (yg rfl rfl (zo (by omega)) (mvx rfl (yf ?_)))))))))
   exact ym (k + 1) (by show i.l.length - (k + 1) < i.l.length - k; omega) ⟨rfl, rfl, rfl, rfl, rfl, rfl, rfl, trivial⟩ ⟨M7.step E XM7, ⟨hlt, zqq hy hall hin⟩⟩
  ·
   refine zu 23 (.bool true) rfl ((by rw [yhz, Bool.eq_false_iff.2 hin]; rfl : (.bool (!(yq true y f.regs)) : Value) = _)) (yi rfl (srx (anx rfl (zr (zn (zd (zd (zn (zd (zp (rs := [.tmp 8]) (vs := [_]) rfl ⟨rfl, trivial⟩ ?_))))))))))
   exact ⟨by rw [zsk, jn hy (Bool.eq_false_iff.2 hin)]; rfl, (LW.step E XLW).toBelow⟩
 ·
  have q := of_decide_eq_false q;have hall2 := zzk hall (by omega)
  refine yn (zg (zg (zv (ze (srx (za rfl (zb Tryd.underlying40 rfl xy (by decide) rfl (za rfl (zl Tryd.underlying38 rfl rfl (HF.on E).here.2 rfl (za rfl (vi Tryd.underlying38 rfl (anx rfl (zf (zx (srx (mvx rfl (za rfl (vc rfl rfl (vh i.op 32 (by decide)) (za rfl (qn rfl rfl (anx rfl (zu 28 (.bool ((flN i.op).testBit 5)) rfl ((by rw [show (32 : Nat) = 2 ^ 5 from rfl, jf] : (.bool (((flN i.op &&& 32 : Nat) : Int) != 0) : Value) = _)) (zt rfl (fun q5 => ?_) (fun q5 => ?_))))))))))))))))))))))))
  ·
   refine srx (anx rfl (zr (zn (zd (zp (rs := [.tmp 8]) (vs := [_]) rfl ⟨rfl, trivial⟩ ?_)))));exact ⟨by rw [zsk, hall2, if_pos q5]; rfl, (LW.step E XLW).toBelow⟩
  ·
   refine srx (mvx rfl (za rfl (vc rfl rfl (vh i.op 64 (by decide)) (za rfl (qn rfl rfl (anx rfl (zu 32 (.bool ((flN i.op).testBit 6)) rfl ((by rw [show (64 : Nat) = 2 ^ 6 from rfl, jf] : (.bool (((flN i.op &&& 64 : Nat) : Int) != 0) : Value) = _)) (zt rfl (fun q6 => ?_) (fun q6 => ?_)))))))))
   ·
    refine srx (mvx rfl (za rfl (ow_rem rfl rfl (by decide) (show (((i.l.length : Nat) : Int).tmod 2) = ((i.l.length % 2 : Nat) : Int) from by rw [Int.tmod_eq_emod_of_nonneg (by omega)]; rfl) (za rfl (ye rfl rfl (anx rfl (zr (zn (zd (zp (rs := [.tmp 8]) (vs := [_]) rfl ⟨rfl, trivial⟩ ?_))))))))))
    exact ⟨by rw [zsk, hall2, if_neg (by rw [q5]; decide), if_pos q6]; refine congrArg (fun z => Ending.returned (.bool z)) ?_; first | rfl | (simp; done) | (simp; omega) | (rw [Bool.true_and, Bool.eq_iff_iff]; simp; omega), (LW.step E XLW).toBelow⟩
   ·
    refine srx (mvx rfl (za rfl (vc rfl rfl (vh i.op 128 (by decide)) (za rfl (qn rfl rfl (anx rfl (zu 39 (.bool ((flN i.op).testBit 7)) rfl ((by rw [show (128 : Nat) = 2 ^ 7 from rfl, jf] : (.bool (((flN i.op &&& 128 : Nat) : Int) != 0) : Value) = _)) (zt rfl (fun q7 => ?_) (fun q7 => ?_)))))))))
    ·
     refine srx (mvx rfl (za rfl (ye rfl rfl (anx rfl (zr (zn (zd (zp (rs := [.tmp 8]) (vs := [_]) rfl ⟨rfl, trivial⟩ ?_))))))));exact ⟨by rw [zsk, hall2, if_neg (by rw [q5]; decide), if_neg (by rw [q6]; decide), if_pos q7]; rfl, (LW.step E XLW).toBelow⟩
    ·
     refine srx (mvx rfl (za rfl (vc rfl rfl (vh i.op 256 (by decide)) (za rfl (qn rfl rfl (anx rfl (zu 45 (.bool ((flN i.op).testBit 8)) rfl ((by rw [show (256 : Nat) = 2 ^ 8 from rfl, jf] : (.bool (((flN i.op &&& 256 : Nat) : Int) != 0) : Value) = _)) (zt rfl (fun q8 => ?_) (fun q8 => ?_)))))))))
     ·
      refine srx (mvx rfl (za rfl (ye rfl rfl (anx rfl (zr (zn (zd (zp (rs := [.tmp 8]) (vs := [_]) rfl ⟨rfl, trivial⟩ ?_))))))));exact ⟨by rw [zsk, hall2, if_neg (by rw [q5]; decide), if_neg (by rw [q6]; decide), if_neg (by rw [q7]; decide), if_pos q8]; rfl, (LW.step E XLW).toBelow⟩
     ·
      refine srx (mvx rfl (za rfl (vc rfl rfl (vh i.op 512 (by decide)) (za rfl (qn rfl rfl (anx rfl (zu 51 (.bool ((flN i.op).testBit 9)) rfl ((by rw [show (512 : Nat) = 2 ^ 9 from rfl, jf] : (.bool (((flN i.op &&& 512 : Nat) : Int) != 0) : Value) = _)) (zt rfl (fun q9 => ?_) (fun q9 => ?_)))))))))
      ·
       obtain ⟨hk1, hk2⟩ := hk q9;obtain ⟨kn, hkn⟩ : ∃ kn : Nat, i.k = ((kn : Nat) : Int) := ⟨i.k.toNat, by omega⟩;have hknl : kn < fs.length := by omega
       obtain ⟨f2, hf2⟩ : ∃ f2, fs[kn]? = some f2 := ⟨_, List.getElem?_eq_getElem hknl⟩;obtain ⟨g, o, p2, hA, hg, _, hc⟩ := ((HF.on E).here.1.1.1.2).at hf2
       refine srx (mvx rfl (za rfl (zb Tryd.underlying24 rfl sz22 (by decide) rfl (za rfl (zl Tryd.underlying22 rfl rfl (HF.on E).here.1.1.2 rfl (za rfl (zb Tryd.underlying40 rfl sz3 (by decide) rfl (za rfl (zl Tryd.underlying3 rfl rfl (HF.on E).here.2 rfl (za rfl (vd (j := kn) Tryd.underlying22 sz37 (congrArg (fun z ↦ some (Value.slice z fs.length cp)) hA) rfl hkn hknl (za rfl (zb Tryd.underlying37 rfl sz3 (by decide) rfl (za rfl (yk Tryd.underlying3 rfl rfl (hc 3 _ rfl) (za rfl (ye rfl rfl (anx rfl (zr (zn (zd (zp (rs := [.tmp 8]) (vs := [_]) rfl ⟨rfl, trivial⟩ ?_))))))))))))))))))))))
       exact ⟨by rw [zsk, hall2, if_neg (by rw [q5]; decide), if_neg (by rw [q6]; decide), if_neg (by rw [q7]; decide), if_neg (by rw [q8]; decide), if_pos q9, hkn, fsAt_of hf2]; rfl, (LW.step E XLW).toBelow⟩
      ·
       refine zj (zm (ze (srx (mvx rfl (za rfl (ye rfl rfl (anx rfl (zr (zp (rs := [.tmp 8]) (vs := [_]) rfl ⟨rfl, trivial⟩ ?_)))))))))
       exact ⟨by rw [zsk, hall2, if_neg (by rw [q5]; decide), if_neg (by rw [q6]; decide), if_neg (by rw [q7]; decide), if_neg (by rw [q8]; decide), if_neg (by rw [q9]; decide)]; refine congrArg (fun z => Ending.returned (.bool z)) ?_; first | rfl | (simp; done) | (rw [Bool.true_and, Bool.eq_iff_iff]; simp), (LW.step E XLW).toBelow⟩
end
section
variable (w : World) (A : Option Addr) (n cp : Nat) (fs : List LFn) (hfs : FsA n w A fs) (p : Pl) (f : LFn) (hf : FnA n w p f) (at_ : Nat) (i : LIns) (hi : f.ins[at_]? = some i)
include hfs hf hi
set_option maxHeartbeats 1000000 in
theorem insR_any : Calls Tryd.prog 13 #[.agg #[.slice A fs.length cp], fnV p f, .int .i64 ((at_ : Nat) : Int)] w fun e w' => e = .returned (.bool (xt fs f at_ i)) ∧ Below w.heap.size w w' := by
 have hil := (List.getElem?_eq_some_iff.1 hi).1;have hilen := hf.ins.len;refine yl Tryd.func13 rfl Tryd.ntmps13 rfl ?_;have HF : Per (No) w (fun _ => True) := Per.true_;have LW := erx (No) w;have XLW := grx (No) w;have E := erx (No) w;replace HF := HF.on E;replace LW := LW.step E XLW;replace E := erx (No) w;replace HF := HF.and (Per.fnA hf (fun _ h => h.elim));replace HF := HF.on E
 replace LW := LW.step E XLW;replace E := erx (No) w;replace HF := HF.and (Per.fsA hfs (fun _ h => h.elim));refine srx (za rfl (jy rfl ?_));intro gb1 w2 Bb1 Eb1 Gb1;have Gb1 : _ ≤ gb1 := Nat.le_trans E.size Gb1;have GLb1 := Nat.le_trans LW.size Gb1;replace E := E.trans Eb1.no;replace HF := HF.cons (yb Gb1);replace E := E.cons (some gb1)
 replace XLW := Mut.grow XLW (fun k e => Or.inr (Nat.le_trans LW.size ((yb Gb1) k e)));replace HF := HF.on E;replace LW := LW.step E XLW;have SB : ∀ q9, No q9 → Mut [(some gb1)] q9 := (Mut.skip Mut.nil_);replace HF := HF.less SB;replace XLW := fun k h => XLW k (SB k h);clear SB;replace E := erx (No) w2;replace HF := HF.and (Per.blkN Bb1 NotIn.nil);refine za rfl (jy rfl ?_)
 intro gb3 w4 Bb3 Eb3 Gb3;have Gb3 : _ ≤ gb3 := Nat.le_trans E.size Gb3;have GLb3 := Nat.le_trans LW.size Gb3;replace E := E.trans Eb3.no;replace HF := HF.cons (yb Gb3);replace E := E.cons (some gb3);replace XLW := Mut.grow XLW (fun k e => Or.inr (Nat.le_trans LW.size ((yb Gb3) k e)));replace HF := HF.on E;replace LW := LW.step E XLW
 have SB : ∀ q9, No q9 → Mut [(some gb3)] q9 := (Mut.skip Mut.nil_);replace HF := HF.less SB;replace XLW := fun k h => XLW k (SB k h);clear SB;replace E := erx (No) w4;replace HF := HF.and (Per.blkN Bb3 NotIn.nil);refine anx rfl (srx (za rfl (zb Tryd.underlying37 rfl sz34 (by decide) rfl (za rfl (zl Tryd.underlying34 rfl rfl (HF.on E).here.2 rfl (mvx rfl ?_))))))
 obtain ⟨g, o, B, c, hA, hg, hl8, hlB, hcI⟩ := ((HF.on E).here.1.1.1.2).ins.at hi;replace HF := HF.on E;replace LW := LW.step E XLW;replace E := erx (No) w4;replace HF := HF.and (Per.ints hlB (fun _ h => h.elim))
 refine za rfl (vd (j := at_) Tryd.underlying34 zqv (congrArg (fun z ↦ some (Value.slice z f.ins.length p.ci)) hA) rfl rfl hil (za rfl (zxz (cs := #[.int .i64 i.op, .int .i64 i.d, .int .i64 i.a, .int .i64 i.b, .int .i64 i.t, .int .i64 i.k, .slice B i.l.length c]) Tryd.underlying40 rfl zqv rfl rfl (fun j v hj ↦ hcI j v (by simpa [insV] using hj)) (za rfl (jb zr40 ?_)))))
 intro gb5 w6 Bb5 Eb5 Gb5;have Gb5 : _ ≤ gb5 := Nat.le_trans E.size Gb5;have GLb5 := Nat.le_trans LW.size Gb5;replace E := E.trans Eb5.no;replace HF := HF.cons (yb Gb5);replace E := E.cons (some gb5);replace XLW := Mut.grow XLW (fun k e => Or.inr (Nat.le_trans LW.size ((yb Gb5) k e)));refine qf (od zqv rfl rfl Bb5 rfl rfl rfl ?_);intro w7 Bx Eb5
 replace Bb5 : Blk w7 gb5 40 #[.int .i64 i.op, .int .i64 i.d, .int .i64 i.a, .int .i64 i.b, .int .i64 i.t, .int .i64 i.k, .slice B i.l.length c] := Bx;replace E := E.step1 Eb5 Mut.head;replace HF := HF.on E;replace LW := LW.step E XLW;have SB : ∀ q9, No q9 → Mut [(some gb5)] q9 := (Mut.skip Mut.nil_);replace HF := HF.less SB;replace XLW := fun k h => XLW k (SB k h);clear SB
 replace E := erx (No) w7;replace HF := HF.and (Per.blkN Bb5 NotIn.nil);refine rnx (srx (za rfl (zb Tryd.underlying40 rfl sz3 (by decide) rfl (za rfl (zl Tryd.underlying3 rfl rfl (HF.on E).here.2 rfl (za rfl (zz en16 rfl ((ydq _ i.op).mono ?_))))))));rintro e w8 ⟨rfl, hb⟩;refine ⟨_, rfl, ?_⟩;replace E := blx E hb
 refine anx rfl (zf (zx (zf (srx (mvx rfl (za rfl (ye rfl rfl (anx rfl ?_))))))));by_cases h0 : flN i.op = 0
 ·
  refine zu 17 (.bool true) rfl ((by rw [h0]; rfl : (.bool (((flN i.op : Nat) : Int) == 0) : Value) = _)) (yi rfl (zj (ze (yi rfl (srx (anx rfl (zr (zn (zd (zp (rs := [.tmp 6]) (vs := [_]) rfl ⟨rfl, trivial⟩ ?_))))))))));exact ⟨by unfold xt; rw [h0]; rfl, (LW.step E XLW).toBelow⟩
 ·
  refine zu 17 (.bool false) rfl ((by congr 1; rw [beq_eq_false_iff_ne]; omega : (.bool (((flN i.op : Nat) : Int) == 0) : Value) = _)) ?_;have e0 : (flN i.op != 0) = true := by rw [bne_iff_ne]; exact h0
  refine zy rfl (srx (mvx rfl (za rfl (vc rfl rfl (vh i.op 2 (by decide)) (za rfl (qn rfl rfl (za rfl (zb Tryd.underlying40 rfl sz3 (by decide) rfl (za rfl (zl Tryd.underlying3 rfl rfl (HF.on E).here.2 rfl (za rfl (zb Tryd.underlying37 rfl sz3 (by decide) rfl (za rfl (zl Tryd.underlying3 rfl rfl (HF.on E).here.1.1.2 rfl (yd 22 (.bool (uD i.op)) rfl ((by rw [show (2 : Nat) = 2 ^ 1 from rfl, jf, bitD] : (.bool (((flN i.op &&& 2 : Nat) : Int) != 0) : Value) = _)) (za rfl (zz en14 rfl ((zcv _ (uD i.op) i.d f.regs).mono ?_))))))))))))))))))
  rintro e w9 ⟨rfl, hb⟩;refine ⟨_, rfl, ?_⟩;replace E := blx E hb;refine za rfl (vw rfl (anx rfl ?_));by_cases h1 : yq (uD i.op) i.d f.regs = false
  ·
   refine zu 17 (.bool true) rfl ((by rw [h1]; rfl : (.bool (!(yq (uD i.op) i.d f.regs)) : Value) = _)) (yi rfl (zj (ze (yi rfl (srx (anx rfl (zr (zn (zd (zp (rs := [.tmp 6]) (vs := [_]) rfl ⟨rfl, trivial⟩ ?_))))))))));exact ⟨by unfold xt; rw [e0, h1]; rfl, (LW.step E XLW).toBelow⟩
  ·
   have h1 := (Bool.not_eq_false _).mp h1
   refine zu 17 (.bool false) rfl ((by rw [h1]; rfl : (.bool (!(yq (uD i.op) i.d f.regs)) : Value) = _)) (zy rfl (srx (mvx rfl (za rfl (vc rfl rfl (vh i.op 4 (by decide)) (za rfl (qn rfl rfl (za rfl (zb Tryd.underlying40 rfl sz3 (by decide) rfl (za rfl (zl Tryd.underlying3 rfl rfl (HF.on E).here.2 rfl (za rfl (zb Tryd.underlying37 rfl sz3 (by decide) rfl (za rfl (zl Tryd.underlying3 rfl rfl (HF.on E).here.1.1.2 rfl (yd 31 (.bool (uA i.op)) rfl ((by rw [show (4 : Nat) = 2 ^ 2 from rfl, jf, bitA] : (.bool (((flN i.op &&& 4 : Nat) : Int) != 0) : Value) = _)) (za rfl (zz en14 rfl ((zcv _ (uA i.op) i.a f.regs).mono ?_)))))))))))))))))))
   rintro e w10 ⟨rfl, hb⟩;refine ⟨_, rfl, ?_⟩;replace E := blx E hb;refine za rfl (vw rfl (anx rfl ?_));by_cases h2 : yq (uA i.op) i.a f.regs = false
   ·
    refine zu 17 (.bool true) rfl ((by rw [h2]; rfl : (.bool (!(yq (uA i.op) i.a f.regs)) : Value) = _)) (yi rfl (zj (ze (yi rfl (srx (anx rfl (zr (zn (zd (zp (rs := [.tmp 6]) (vs := [_]) rfl ⟨rfl, trivial⟩ ?_))))))))));exact ⟨by unfold xt; rw [e0, h1, h2]; rfl, (LW.step E XLW).toBelow⟩
   ·
    have h2 := (Bool.not_eq_false _).mp h2
    refine zu 17 (.bool false) rfl ((by rw [h2]; rfl : (.bool (!(yq (uA i.op) i.a f.regs)) : Value) = _)) (zy rfl (srx (mvx rfl (za rfl (vc rfl rfl (vh i.op 8 (by decide)) (za rfl (qn rfl rfl (za rfl (zb Tryd.underlying40 rfl sz3 (by decide) rfl (za rfl (zl Tryd.underlying3 rfl rfl (HF.on E).here.2 rfl (za rfl (zb Tryd.underlying37 rfl sz3 (by decide) rfl (za rfl (zl Tryd.underlying3 rfl rfl (HF.on E).here.1.1.2 rfl (yd 40 (.bool (uB i.op)) rfl ((by rw [show (8 : Nat) = 2 ^ 3 from rfl, jf, bitB] : (.bool (((flN i.op &&& 8 : Nat) : Int) != 0) : Value) = _)) (za rfl (zz en14 rfl ((zcv _ (uB i.op) i.b f.regs).mono ?_)))))))))))))))))))
    rintro e w11 ⟨rfl, hb⟩;refine ⟨_, rfl, ?_⟩;replace E := blx E hb;refine za rfl (vw rfl (anx rfl ?_));by_cases h3 : yq (uB i.op) i.b f.regs = false
    ·
     refine zu 17 (.bool true) rfl ((by rw [h3]; rfl : (.bool (!(yq (uB i.op) i.b f.regs)) : Value) = _)) (yi rfl (zj (ze (yi rfl (srx (anx rfl (zr (zn (zd (zp (rs := [.tmp 6]) (vs := [_]) rfl ⟨rfl, trivial⟩ ?_))))))))));exact ⟨by unfold xt; rw [e0, h1, h2, h3]; rfl, (LW.step E XLW).toBelow⟩
    ·
     have h3 := (Bool.not_eq_false _).mp h3
     refine zu 17 (.bool false) rfl ((by rw [h3]; rfl : (.bool (!(yq (uB i.op) i.b f.regs)) : Value) = _)) (zy rfl (zi (mvx rfl (za rfl (vc rfl rfl (vh i.op 16 (by decide)) (za rfl (qn rfl rfl (za rfl (zb Tryd.underlying40 rfl sz3 (by decide) rfl (za rfl (zl Tryd.underlying3 rfl rfl (HF.on E).here.2 rfl (za rfl (zb Tryd.underlying37 rfl sz34 (by decide) rfl (za rfl (zl Tryd.underlying34 rfl rfl (HF.on E).here.1.1.2 rfl (za rfl (vi Tryd.underlying34 rfl (yd 49 (.bool (uT i.op)) rfl ((by rw [show (16 : Nat) = 2 ^ 4 from rfl, jf, bitL] : (.bool (((flN i.op &&& 16 : Nat) : Int) != 0) : Value) = _)) (za rfl (zz en14 rfl ((zcv _ (uT i.op) i.t (f.ins.length : Int)).mono ?_)))))))))))))))))))))
     rintro e w12 ⟨rfl, hb⟩;refine ⟨_, rfl, ?_⟩;replace E := blx E hb;refine za rfl (vw rfl (anx rfl ?_));by_cases h4 : yq (uT i.op) i.t (f.ins.length : Int) = false
     ·
      refine zu 17 (.bool true) rfl ((by rw [h4]; rfl : (.bool (!(yq (uT i.op) i.t (f.ins.length : Int))) : Value) = _)) (yi rfl (srx (anx rfl (zr (zn (zd (zp (rs := [.tmp 6]) (vs := [_]) rfl ⟨rfl, trivial⟩ ?_)))))));exact ⟨by unfold xt; rw [e0, h1, h2, h3, h4]; rfl, (LW.step E XLW).toBelow⟩
     ·
      have h4 := (Bool.not_eq_false _).mp h4
      refine zu 17 (.bool false) rfl ((by rw [h4]; rfl : (.bool (!(yq (uT i.op) i.t (f.ins.length : Int))) : Value) = _)) (zy rfl (zf (srx (za rfl (vt Tryd.underlying24 rfl sz24 rfl (HF.on E).here.1.1.1.2 rfl (za rfl (vt Tryd.underlying37 rfl sz37 rfl (HF.on E).here.1.1.2 rfl (za rfl (vt Tryd.underlying40 rfl zqv rfl (HF.on E).here.2 rfl (mvx rfl (za rfl (zz en18 rfl ((rightK_any _ A fs.length cp p f i B c).mono ?_)))))))))))))
      rintro e w13 ⟨rfl, hb⟩;refine ⟨_, rfl, ?_⟩;replace E := blx E hb;refine za rfl (vw rfl (anx rfl ?_));by_cases h5 : kOK fs.length f i = false
      ·
       refine zu 57 (.bool true) rfl ((by rw [h5]; rfl : (.bool (!(kOK fs.length f i)) : Value) = _)) (yi rfl (zj (ze (yi rfl (srx (anx rfl (zr (zn (zd (zp (rs := [.tmp 6]) (vs := [_]) rfl ⟨rfl, trivial⟩ ?_))))))))));exact ⟨by unfold xt; rw [e0, h1, h2, h3, h4, h5]; rfl, (LW.step E XLW).toBelow⟩
      ·
       have h5 := (Bool.not_eq_false _).mp h5
       refine zu 57 (.bool false) rfl ((by rw [h5]; rfl : (.bool (!(kOK fs.length f i)) : Value) = _)) (zy rfl (srx (za rfl (vt Tryd.underlying24 rfl sz24 rfl (HF.on E).here.1.1.1.2 rfl (za rfl (vt Tryd.underlying37 rfl sz37 rfl (HF.on E).here.1.1.2 rfl (za rfl (vt Tryd.underlying40 rfl zqv rfl (HF.on E).here.2 rfl (mvx rfl (za rfl (zz en19 rfl ((rightL_any _ A n cp fs (HF.on E).here.1.1.1.1.2 p f i B c (HF.on E).here.1.2 (fun h => by have := kOK_36 h5 h; omega)).mono ?_))))))))))))
       rintro e w14 ⟨rfl, hb⟩;refine ⟨_, rfl, ?_⟩;replace E := blx E hb;refine za rfl (vw rfl (anx rfl ?_));by_cases h6 : lOK fs f i = false
       ·
        refine zu 57 (.bool true) rfl ((by rw [h6]; rfl : (.bool (!(lOK fs f i)) : Value) = _)) (yi rfl (zj (ze (yi rfl (srx (anx rfl (zr (zn (zd (zp (rs := [.tmp 6]) (vs := [_]) rfl ⟨rfl, trivial⟩ ?_))))))))));exact ⟨by unfold xt; rw [e0, h1, h2, h3, h4, h5, h6]; rfl, (LW.step E XLW).toBelow⟩
       ·
        have h6 := (Bool.not_eq_false _).mp h6;refine zu 57 (.bool false) rfl ((by rw [h6]; rfl : (.bool (!(lOK fs f i)) : Value) = _)) ?_;have e9 : decide (at_ + 1 < f.ins.length) = decide (((at_ : Nat) : Int) + 1 < ((f.ins.length : Nat) : Int)) := by rw [decide_eq_decide]; omega
        refine zy rfl (zi (za rfl (zb Tryd.underlying40 rfl sz3 (by decide) rfl (za rfl (zl Tryd.underlying3 rfl rfl (HF.on E).here.2 rfl (za rfl (ye rfl rfl (mvx rfl (yo 73 rfl (fun t1 => ?_) (fun t1 => ?_))))))))))
        ·
         replace t1 := eq_of_beq t1;refine onx rfl (zb Tryd.underlying37 rfl sz4 (by decide) rfl (onx rfl (zl Tryd.underlying4 rfl rfl (HF.on E).here.1.1.2 rfl (onx rfl (vw rfl (za rfl (zw rfl rfl (anx rfl (zt rfl (fun t2 => ?_) (fun t2 => ?_))))))))))
         ·
          refine zu 57 (.bool true) rfl (congrArg Value.bool t2) (srx (anx rfl (zr (zn (zd (zp (rs := [.tmp 6]) (vs := [_]) rfl ⟨rfl, trivial⟩ ?_))))))
          exact ⟨by unfold xt; rw [e0, h1, h2, h3, h4, h5, h6, e9]; refine congrArg (fun z => Ending.returned (.bool z)) ?_; clear h1 h2 h3 h4 h5 h6 e0 h0 hcI hlB hfs hf hA e9; first | rfl | (simp_all; done) | (simp_all; omega) | (simp_all; rw [decide_eq_false (by omega)]; rfl) | (simp_all; rfl), (LW.step E XLW).toBelow⟩
         ·
          refine zu 57 (.bool false) rfl (congrArg Value.bool t2) (zj (zm (ze (srx (mvx rfl (za rfl (yg rfl rfl (zo (by omega)) (za rfl (zb Tryd.underlying37 rfl sz34 (by decide) rfl (za rfl (zl Tryd.underlying34 rfl rfl (HF.on E).here.1.1.2 rfl (za rfl (vi Tryd.underlying34 rfl (za rfl (yt rfl rfl (mvx rfl (yo 84 rfl (fun t3 => ?_) (fun t3 => ?_))))))))))))))))))
          ·
           replace t3 := of_decide_eq_true t3
           refine za rfl (zc rfl (za rfl (zc rfl (za rfl (zc rfl (za rfl (zw rfl rfl (mvx rfl (za rfl (zc rfl (za rfl (zc rfl (za rfl (zc rfl (za rfl (zw rfl rfl (mvx rfl (za rfl (zc rfl (za rfl (zc rfl (za rfl (zc rfl (za rfl (zw rfl rfl (anx rfl (zr (zp (rs := [.tmp 6]) (vs := [_]) rfl ⟨rfl, trivial⟩ ?_))))))))))))))))))))))))))))
           exact ⟨by unfold xt; rw [e0, h1, h2, h3, h4, h5, h6, e9]; refine congrArg (fun z => Ending.returned (.bool z)) ?_; clear h1 h2 h3 h4 h5 h6 e0 h0 hcI hlB hfs hf hA e9; first | rfl | (simp_all; done) | (simp_all; omega) | (simp_all; rw [decide_eq_false (by omega)]; rfl) | (simp_all; rfl), (LW.step E XLW).toBelow⟩
          ·
           replace t3 := of_decide_eq_false t3;refine onx rfl (zb Tryd.underlying40 rfl sz3 (by decide) rfl (onx rfl (zl Tryd.underlying3 rfl rfl (HF.on E).here.2 rfl (onx rfl (ye rfl rfl (za rfl (ya rfl rfl (mvx rfl (yo 89 rfl (fun t4 => ?_) (fun t4 => ?_))))))))))
           ·
            replace t4 := eq_of_beq t4;refine za rfl (zc rfl (za rfl (zc rfl (za rfl (zc rfl (za rfl (zw rfl rfl (mvx rfl (za rfl (zc rfl (za rfl (zc rfl (za rfl (zc rfl (za rfl (zw rfl rfl (anx rfl (zr (zp (rs := [.tmp 6]) (vs := [_]) rfl ⟨rfl, trivial⟩ ?_)))))))))))))))))))
            exact ⟨by unfold xt; rw [e0, h1, h2, h3, h4, h5, h6, e9]; refine congrArg (fun z => Ending.returned (.bool z)) ?_; clear h1 h2 h3 h4 h5 h6 e0 h0 hcI hlB hfs hf hA e9; first | rfl | (simp_all; done) | (simp_all; omega) | (simp_all; rw [decide_eq_false (by omega)]; rfl) | (simp_all; rfl), (LW.step E XLW).toBelow⟩
           ·
            replace t4 := beq_eq_false_iff_ne.1 t4;refine onx rfl (zb Tryd.underlying40 rfl sz3 (by decide) rfl (onx rfl (zl Tryd.underlying3 rfl rfl (HF.on E).here.2 rfl (onx rfl (ye rfl rfl (za rfl (ya rfl rfl (mvx rfl (yo 94 rfl (fun t5 => ?_) (fun t5 => ?_))))))))))
            ·
             replace t5 := eq_of_beq t5;refine za rfl (zc rfl (za rfl (zc rfl (za rfl (zc rfl (za rfl (zw rfl rfl (anx rfl (zr (zp (rs := [.tmp 6]) (vs := [_]) rfl ⟨rfl, trivial⟩ ?_))))))))))
             exact ⟨by unfold xt; rw [e0, h1, h2, h3, h4, h5, h6, e9]; refine congrArg (fun z => Ending.returned (.bool z)) ?_; clear h1 h2 h3 h4 h5 h6 e0 h0 hcI hlB hfs hf hA e9; first | rfl | (simp_all; done) | (simp_all; omega) | (simp_all; rw [decide_eq_false (by omega)]; rfl) | (simp_all; rfl), (LW.step E XLW).toBelow⟩
            ·
             replace t5 := beq_eq_false_iff_ne.1 t5;refine onx rfl (zb Tryd.underlying40 rfl sz3 (by decide) rfl (onx rfl (zl Tryd.underlying3 rfl rfl (HF.on E).here.2 rfl (onx rfl (ye rfl rfl (za rfl (ya rfl rfl (anx rfl (zr (zp (rs := [.tmp 6]) (vs := [_]) rfl ⟨rfl, trivial⟩ ?_))))))))))
             exact ⟨by unfold xt; rw [e0, h1, h2, h3, h4, h5, h6, e9]; refine congrArg (fun z => Ending.returned (.bool z)) ?_; clear h1 h2 h3 h4 h5 h6 e0 h0 hcI hlB hfs hf hA e9; first | rfl | (simp_all; done) | (simp_all; omega) | (simp_all; rw [decide_eq_false (by omega)]; rfl) | (simp_all; rfl), (LW.step E XLW).toBelow⟩
        ·
         replace t1 := beq_eq_false_iff_ne.1 t1
         refine za rfl (zc rfl (za rfl (zc rfl (za rfl (zc rfl (za rfl (ya rfl rfl (anx rfl (zy rfl (zj (zm (ze (srx (mvx rfl (za rfl (yg rfl rfl (zo (by omega)) (za rfl (zb Tryd.underlying37 rfl sz34 (by decide) rfl (za rfl (zl Tryd.underlying34 rfl rfl (HF.on E).here.1.1.2 rfl (za rfl (vi Tryd.underlying34 rfl (za rfl (yt rfl rfl (mvx rfl (yo 84 rfl (fun t6 => ?_) (fun t6 => ?_)))))))))))))))))))))))))))
         ·
          replace t6 := of_decide_eq_true t6
          refine za rfl (zc rfl (za rfl (zc rfl (za rfl (zc rfl (za rfl (zw rfl rfl (mvx rfl (za rfl (zc rfl (za rfl (zc rfl (za rfl (zc rfl (za rfl (zw rfl rfl (mvx rfl (za rfl (zc rfl (za rfl (zc rfl (za rfl (zc rfl (za rfl (zw rfl rfl (anx rfl (zr (zp (rs := [.tmp 6]) (vs := [_]) rfl ⟨rfl, trivial⟩ ?_))))))))))))))))))))))))))))
          exact ⟨by unfold xt; rw [e0, h1, h2, h3, h4, h5, h6, e9]; refine congrArg (fun z => Ending.returned (.bool z)) ?_; clear h1 h2 h3 h4 h5 h6 e0 h0 hcI hlB hfs hf hA e9; first | rfl | (simp_all; done) | (simp_all; omega) | (simp_all; rw [decide_eq_false (by omega)]; rfl) | (simp_all; rfl), (LW.step E XLW).toBelow⟩
         ·
          replace t6 := of_decide_eq_false t6;refine onx rfl (zb Tryd.underlying40 rfl sz3 (by decide) rfl (onx rfl (zl Tryd.underlying3 rfl rfl (HF.on E).here.2 rfl (onx rfl (ye rfl rfl (za rfl (ya rfl rfl (mvx rfl (yo 89 rfl (fun t7 => ?_) (fun t7 => ?_))))))))))
          ·
           replace t7 := eq_of_beq t7;refine za rfl (zc rfl (za rfl (zc rfl (za rfl (zc rfl (za rfl (zw rfl rfl (mvx rfl (za rfl (zc rfl (za rfl (zc rfl (za rfl (zc rfl (za rfl (zw rfl rfl (anx rfl (zr (zp (rs := [.tmp 6]) (vs := [_]) rfl ⟨rfl, trivial⟩ ?_)))))))))))))))))))
           exact ⟨by unfold xt; rw [e0, h1, h2, h3, h4, h5, h6, e9]; refine congrArg (fun z => Ending.returned (.bool z)) ?_; clear h1 h2 h3 h4 h5 h6 e0 h0 hcI hlB hfs hf hA e9; first | rfl | (simp_all; done) | (simp_all; omega) | (simp_all; rw [decide_eq_false (by omega)]; rfl) | (simp_all; rfl), (LW.step E XLW).toBelow⟩
          ·
           replace t7 := beq_eq_false_iff_ne.1 t7;refine onx rfl (zb Tryd.underlying40 rfl sz3 (by decide) rfl (onx rfl (zl Tryd.underlying3 rfl rfl (HF.on E).here.2 rfl (onx rfl (ye rfl rfl (za rfl (ya rfl rfl (mvx rfl (yo 94 rfl (fun t8 => ?_) (fun t8 => ?_))))))))))
           ·
            replace t8 := eq_of_beq t8;refine za rfl (zc rfl (za rfl (zc rfl (za rfl (zc rfl (za rfl (zw rfl rfl (anx rfl (zr (zp (rs := [.tmp 6]) (vs := [_]) rfl ⟨rfl, trivial⟩ ?_))))))))))
            exact ⟨by unfold xt; rw [e0, h1, h2, h3, h4, h5, h6, e9]; refine congrArg (fun z => Ending.returned (.bool z)) ?_; clear h1 h2 h3 h4 h5 h6 e0 h0 hcI hlB hfs hf hA e9; first | rfl | (simp_all; done) | (simp_all; omega) | (simp_all; rw [decide_eq_false (by omega)]; rfl) | (simp_all; rfl), (LW.step E XLW).toBelow⟩
           ·
            replace t8 := beq_eq_false_iff_ne.1 t8;refine onx rfl (zb Tryd.underlying40 rfl sz3 (by decide) rfl (onx rfl (zl Tryd.underlying3 rfl rfl (HF.on E).here.2 rfl (onx rfl (ye rfl rfl (za rfl (ya rfl rfl (anx rfl (zr (zp (rs := [.tmp 6]) (vs := [_]) rfl ⟨rfl, trivial⟩ ?_))))))))))
            exact ⟨by unfold xt; rw [e0, h1, h2, h3, h4, h5, h6, e9]; refine congrArg (fun z => Ending.returned (.bool z)) ?_; clear h1 h2 h3 h4 h5 h6 e0 h0 hcI hlB hfs hf hA e9; first | rfl | (simp_all; done) | (simp_all; omega) | (simp_all; rw [decide_eq_false (by omega)]; rfl) | (simp_all; rfl), (LW.step E XLW).toBelow⟩
end
end Go.Proofs.YtmjbnhjgebjhlaaDoor
namespace Go.Proofs.YtmjbnhjgebjhlaaDoor
open Go.RowKit
set_option maxRecDepth 100000
attribute [local irreducible] OW RS flN uD uA uB uT uL rL rK rLo rHi
section
variable (w : World) (A : Option Addr) (n cp : Nat) (fs : List LFn) (hfs : FsA n w A fs) (p : Pl) (f : LFn) (hf : FnA n w p f) (at_ : Nat) (i : LIns) (hi : f.ins[at_]? = some i)
include hfs hf hi
end
end Go.Proofs.YtmjbnhjgebjhlaaDoor

/- Texts of this claim. -/
import Derived.Test.YtmjbnhjgebjhlaaDoorK16
namespace Go.Proofs.YtmjbnhjgebjhlaaDoor
open Go.RowKit
set_option maxRecDepth 100000
attribute [local irreducible] OW RS
theorem powtab_at {j : Nat} (h : j < 9) : (pows.map (fun z => Value.int .i64 z))[j]? = some (.int .i64 ((pt j : Nat) : Int)) := by
 have key : ∀ i : Fin 9, pows[i.val]? = some ((pt i.val : Nat) : Int) := by decide +kernel
 rw [List.getElem?_map, key ⟨j, h⟩]; rfl
theorem pt_far {j : Nat} (h : 9 ≤ j) : pt j = 27 := by unfold pt; rw [if_pos h]
theorem and_i2047 {k : Nat} (h : k ≤ 2047) : IntKind.i64.wrap (BitVec.ofInt IntKind.i64.bits ((k : Nat) : Int) &&& BitVec.ofInt IntKind.i64.bits 2047).toNat = ((k : Nat) : Int) := by
 have key : ∀ v : Fin 2048, IntKind.i64.wrap (BitVec.ofInt IntKind.i64.bits ((v.val : Nat) : Int) &&& BitVec.ofInt IntKind.i64.bits 2047).toNat = ((v.val : Nat) : Int) := by decide +kernel
 exact key ⟨k, by omega⟩
theorem shl_52 {k : Nat} (h : k ≤ 2047) : IntKind.u64.wrap (((k : Nat) : Int) * 2 ^ (min ((52 : Int)).toNat IntKind.u64.bits)) = ((k * 4503599627370496 : Nat) : Int) := by
 have e := znx k 52 (by decide);have e2 : k * 2 ^ 52 % 18446744073709551616 = k * 4503599627370496 := Nat.mod_eq_of_lt (by show k * 4503599627370496 < 18446744073709551616; omega);rw [e2] at e;exact e
theorem and_lo {m : Nat} (h : m < 18446744073709551616) : IntKind.u64.wrap (BitVec.ofInt IntKind.u64.bits ((m : Nat) : Int) &&& BitVec.ofInt IntKind.u64.bits 4503599627370495).toNat = ((m &&& 4503599627370495 : Nat) : Int) := xa (n := 4503599627370495) h (by decide)
theorem and_hi {m : Nat} (h : m < 18446744073709551616) : IntKind.u64.wrap (BitVec.ofInt IntKind.u64.bits ((m : Nat) : Int) &&& BitVec.ofInt IntKind.u64.bits 4503599627370496).toNat = ((m &&& 4503599627370496 : Nat) : Int) := xa (n := 4503599627370496) h (by decide)
theorem fbR_neg {t : Dec} (ht : DecI t) (h0 : 0 < t.nd) (hd : -330 ≤ t.dp ∧ t.dp ≤ 310) : (fbR t).t.neg = t.neg := by
 have h := vn (done := zcx) (step := zbk) (fun s => FbRI s ∧ s.t.neg = t.neg) (fun s => msR s.t) (fun s h hd => ?_) ⟨ydk ht h0 hd, rfl⟩
 · exact h.1.2
 · obtain ⟨h1, h2⟩ := ydv h.1 hd;obtain ⟨_, _, _, _, h5⟩ := kd (k := pt s.t.dp.toNat) h.1.dec (pt_le _).1 h.1.pos;exact ⟨⟨h1, h5.trans h.2⟩, h2⟩
theorem fbL_neg {t : Dec} (ht : DecI t) (h0 : 0 < t.nd) (hd : -330 ≤ t.dp ∧ t.dp ≤ 310) : (fbL t).t.neg = t.neg := by
 obtain ⟨h1, h2⟩ := fbR_ends ht h0 hd;have h := vn (done := zhx) (step := zbv) (fun s => FbLI s ∧ s.t.neg = t.neg) (fun s => msL s.t) (fun s h hd => ?_) ⟨yex h1 h2, fbR_neg ht h0 hd⟩
 · exact h.1.2
 · obtain ⟨h3, h4⟩ := yez h.1 hd;obtain ⟨_, _, _, _, _, h5⟩ := zgz (k := pt (-s.t.dp).toNat) h.1.dec h.1.pos (pt_shl _);exact ⟨⟨h3, h5.trans h.2⟩, h4⟩
theorem shrD_neg {t : Dec} {k : Nat} (h : ShI ⟨t, k⟩) : (shrD t k).neg = t.neg := by
 have h1 := vn (done := zjq) (step := zsz) (fun s => ShI s ∧ s.t.neg = t.neg) (fun s => s.k) (fun s h hd => ?_) ⟨h, rfl⟩
 · have h2 : ShI (shA t k) ∧ (shA t k).t.neg = t.neg := h1.1;obtain ⟨_, _, _, _, h5⟩ := kd (k := (shA t k).k) h2.1.dec h2.1.k1.1 h2.1.pos;exact h5.trans h2.2
 · obtain ⟨h3, h4⟩ := sh_keeps h.1 hd;obtain ⟨_, _, _, _, h5⟩ := kd (k := 60) h.1.dec (by decide) h.1.pos;exact ⟨⟨h3, h5.trans h.2⟩, h4⟩
def xd (m k : Nat) : Nat := (m &&& 4503599627370495) ||| k * 4503599627370496
theorem slowC_or {m k : Nat} (hk : k ≤ 2047) : IntKind.u64.wrap (BitVec.ofInt IntKind.u64.bits ((m &&& 4503599627370495 : Nat) : Int) ||| BitVec.ofInt IntKind.u64.bits ((k * 4503599627370496 : Nat) : Int)).toNat = ((xd m k : Nat) : Int) :=
 ke (Nat.lt_of_le_of_lt Nat.and_le_right (by decide)) (by omega)
theorem slowC_lt {m k : Nat} (hk : k ≤ 2047) : xd m k < 18446744073709551616 :=
 or_lt (k := 64) (Nat.lt_of_le_of_lt Nat.and_le_right (by decide)) (by show k * 4503599627370496 < 18446744073709551616; omega)
theorem slowC_neg {m k : Nat} (hk : k ≤ 2047) : IntKind.u64.wrap (BitVec.ofInt IntKind.u64.bits ((xd m k : Nat) : Int) ||| BitVec.ofInt IntKind.u64.bits 9223372036854775808).toNat = ((xd m k ||| 9223372036854775808 : Nat) : Int) :=
 ke (n := 9223372036854775808) (slowC_lt hk) (by decide)
section
variable (w : World) {bp op cp bf of cf bl ol cl : Nat}
set_option maxHeartbeats 2000000 in
theorem bits_any (ga : Nat) (t : Dec) (ht : DecI t) (hdp0 : -20000000 ≤ t.dp ∧ t.dp ≤ 20000000) (hB : Blk w ga 125 (yz t)) (hT : Tabs bp op cp bf of cf bl ol cl w) (hg : TabsB bp bf bl ga) :
 Calls Tryd.prog 61 #[.pointer (some ⟨ga, 0, none⟩), .pointer (some ⟨5, 0, none⟩)] w fun e w' => e = .returned (.tuple #[.int .u64 ((zaq t : Nat) : Int), .bool (ky t).2.2]) ∧ (∃ t', Blk w' ga 125 (yz t')) ∧ Ext (Mut [some ga]) w w' := by
 have hl := ht.len;have hnd := ht.hn;refine yl Tryd.func61 rfl Tryd.ntmps61 rfl ?_;have Ba := hB;have HF : Per (Mut [(some ga)]) w (fun _ => True) := Per.true_;have LW := erx (Mut [(some ga)]) w;have XLW := grx (Mut [(some ga)]) w;have E := erx (Mut [(some ga)]) w;replace HF := HF.on E;replace LW := LW.step E XLW;replace E := erx (Mut [(some ga)]) w
 replace HF := HF.and (Per.tabsB hT hg (fun q h => h.elim (fun e => Nat.le_of_eq (Option.some.inj e).symm) (fun e => e.elim)));replace HF := HF.on E;replace LW := LW.step E XLW;replace E := erx (Mut [(some ga)]) w;replace HF := HF.and (Per.cellB (HF.on E).here.2.man hg.info (fun q h => h.elim (fun e => Nat.le_of_eq (Option.some.inj e).symm) (fun e => e.elim)));replace HF := HF.on E
 replace LW := LW.step E XLW;replace E := erx (Mut [(some ga)]) w;replace HF := HF.and (Per.cellB (HF.on E).here.1.2.exp hg.info (fun q h => h.elim (fun e => Nat.le_of_eq (Option.some.inj e).symm) (fun e => e.elim)));replace HF := HF.on E;replace LW := LW.step E XLW;replace E := erx (Mut [(some ga)]) w
 replace HF := HF.and (Per.cellB (HF.on E).here.1.1.2.bias hg.info (fun q h => h.elim (fun e => Nat.le_of_eq (Option.some.inj e).symm) (fun e => e.elim)));refine srx (avx rfl (anx rfl (cw_scope 4 ?_)));replace HF := HF.on E;replace LW := LW.step E XLW;replace E := erx (Mut [(some ga)]) w
 refine cw_tail (l := 0) (ι := Nat × Nat × Bool × Dec) (fun (m, k, ov, u) => [(0, .pointer (some ⟨ga, 0, none⟩)), (1, .pointer (some ⟨5, 0, none⟩)), (5, .bool ov), (6, .int .i64 (((k : Nat) : Int) - 1023)), (7, .int .u64 ((m : Nat) : Int))]) (fun (m, k, ov, u) w' => Ext (Mut [(some ga)]) w w' ∧ Blk w' ga 125 (yz u) ∧ (ky t = (m, k, ov) ∧ m < 18446744073709551616 ∧ k ≤ 2047 ∧ u.d.length = 800 ∧ u.neg = t.neg)) rfl ?_ ?_
 ·
  intro TLM1;have M1 := erx (Mut [(some ga)]) w;have XM1 := grx (Mut [(some ga)]) w;replace HF := HF.on E;replace LW := LW.step E XLW;replace M1 := M1.step E XM1;replace E := erx (Mut [(some ga)]) w
  refine cw_tail (l := 1) (ι := Dec) (fun u => [(0, .pointer (some ⟨ga, 0, none⟩)), (1, .pointer (some ⟨5, 0, none⟩))]) (fun u w' => Ext (Mut [(some ga)]) w w' ∧ Blk w' ga 125 (yz u) ∧ (ky t = (0, 2047, true) ∧ u.d.length = 800 ∧ u.neg = t.neg)) rfl ?_ ?_
  ·
   intro TLM3;have M3 := erx (Mut [(some ga)]) w;have XM3 := grx (Mut [(some ga)]) w;refine srx (anx rfl (srx (anx rfl (zf (srx (mvx rfl (za rfl (zk rfl (za rfl (zb Tryd.underlying125 rfl sz3 (by decide) rfl (za rfl (zl Tryd.underlying3 rfl rfl Ba (xj hl t.nd rfl) (za rfl (ye rfl rfl (rnx (zt rfl (fun h1 => ?_) (fun h1 => ?_)))))))))))))))))
   ·
    have h1 : t.nd = 0 := by have h1 := eq_of_beq h1; omega
    have hfb : ky t = (0, 0, false) := by unfold ky; rw [if_pos h1]
    refine srx (anx rfl (srx (mvx rfl (za rfl (zk rfl (za rfl (zb Tryd.underlying115 rfl sz3 (by decide) rfl (za rfl (yk Tryd.underlying3 rfl rfl (HF.on E).here.2 (anx rfl (zcq (jq ?_))))))))))));exact zcz rfl TLM1 (0, 0, false, t) ⟨rfl, rfl, rfl, rfl, rfl, trivial⟩ ⟨M1.step E XM1, (by exact Ba), hfb, by decide, by decide, hl, rfl⟩
   ·
    have h1 : t.nd ≠ 0 := fun e => absurd h1 (by rw [e]; decide);refine zj (ze (zf (srx (mvx rfl (za rfl (zk rfl (za rfl (zb Tryd.underlying125 rfl sz3 (by decide) rfl (za rfl (zl Tryd.underlying3 rfl rfl Ba (zlq hl t.dp rfl) (za rfl (qq rfl rfl (rnx (zt rfl (fun h2 => ?_) (fun h2 => ?_)))))))))))))))
    ·
     have h2 := of_decide_eq_true h2;have hfb : ky t = (0, 2047, true) := by unfold ky; rw [if_neg h1, if_pos h2]
     refine zcq (jq ?_);exact zcz rfl TLM3 t ⟨rfl, rfl, trivial⟩ ⟨M3.step E XM3, (by exact Ba), hfb, hl, rfl⟩
    ·
     have h2 := of_decide_eq_false h2;refine zj (ze (zf (srx (mvx rfl (za rfl (zk rfl (za rfl (zb Tryd.underlying125 rfl sz3 (by decide) rfl (za rfl (zl Tryd.underlying3 rfl rfl Ba (zlq hl t.dp rfl) (za rfl (yt rfl rfl (rnx (zt rfl (fun h3 => ?_) (fun h3 => ?_)))))))))))))))
     ·
      have h3 := of_decide_eq_true h3;have hfb : ky t = (0, 0, false) := by unfold ky; rw [if_neg h1, if_neg h2, if_pos h3]
      refine srx (anx rfl (srx (mvx rfl (za rfl (zk rfl (za rfl (zb Tryd.underlying115 rfl sz3 (by decide) rfl (za rfl (yk Tryd.underlying3 rfl rfl (HF.on E).here.2 (anx rfl (zcq (jq ?_))))))))))));exact zcz rfl TLM1 (0, 0, false, t) ⟨rfl, rfl, rfl, rfl, rfl, trivial⟩ ⟨M1.step E XM1, (by exact Ba), hfb, by decide, by decide, hl, rfl⟩
     ·
      have h3 := of_decide_eq_false h3;have hpos : 0 < t.nd := by omega
      have hfb0 : ky t = fbMid (fbL t).t ((fbL t).e - 1) := by unfold ky; rw [if_neg h1, if_neg h2, if_neg h3]
      refine zj (ze (srx (anx rfl (zf ?_))));replace HF := HF.on E;replace M1 := M1.step E XM1;replace M3 := M3.step E XM3;replace E := erx (Mut [(some ga)]) w
      refine qd (ι := FbS) (fun s => [(0, .pointer (some ⟨ga, 0, none⟩)), (1, .pointer (some ⟨5, 0, none⟩)), (4, .int .u64 0), (5, .bool false), (6, .int .i64 s.e), (7, .int .u64 0)]) (fun s w' => Ext (Mut [(some ga)]) w w' ∧ Blk w' ga 125 (yz s.t) ∧ (s = fbR t)) ?_ ?_
      ·
       have M5 := erx (Mut [(some ga)]) w;have XM5 := grx (Mut [(some ga)]) w;refine zx ?_;replace HF := HF.on E;replace M5 := M5.step E XM5;replace E := erx (Mut [(some ga)]) w
       refine qk (ι := FbS) (fun s => [(0, .pointer (some ⟨ga, 0, none⟩)), (1, .pointer (some ⟨5, 0, none⟩)), (4, .int .u64 0), (5, .bool false), (6, .int .i64 s.e), (7, .int .u64 0)]) (fun s w' => Ext (Mut [(some ga)]) w w' ∧ Blk w' ga 125 (yz s.t) ∧ (FbRI s ∧ qv zcx zbk s = fbR t)) (fun s => msR s.t) (⟨t, 0⟩) ⟨rfl, rfl, rfl, rfl, rfl, rfl, trivial⟩ ⟨Ext.refl _ _, (by exact Ba), ydk ht hpos (by omega), rfl⟩ ?_
       have LTa := (yj Ba.lt);clear Ba;rintro s w8 ⟨M7, Ba, ⟨hI, hu⟩⟩;have XM7 : Gro (Mut [(some ga)]) (Mut [(some ga)]) w := (Mut.grow Mut.none_ (fun k e => Or.inl (Mut.head k e)));replace E := E.trans M7;replace HF := HF.on E;replace M5 := M5.step E XM5;replace E := erx (Mut [(some ga)]) w8;have hls := hI.dec.len;have hsd := hI.dp;have hse := hI.e;have hsp := hI.pos
       refine zf (srx (mvx rfl (za rfl (zk rfl (za rfl (zb Tryd.underlying125 rfl sz3 (by decide) rfl (za rfl (zl Tryd.underlying3 rfl rfl Ba (zlq hls s.t.dp rfl) (za rfl (qq rfl rfl (rnx (zt rfl (fun h4 => ?_) (fun h4 => ?_)))))))))))))
       ·
        have h4 := of_decide_eq_true h4;have hdone : zcx s = false := decide_eq_false (by omega);obtain ⟨hkeep, hms⟩ := ydv hI hdone;obtain ⟨P, hP⟩ : ∃ P, P = pt s.t.dp.toNat := ⟨_, rfl⟩;have hP1 := pt_le s.t.dp.toNat;have hst : zbk s = ⟨jc s.t P, s.e + ((P : Nat) : Int)⟩ := by rw [hP]; rfl
        rw [← hP] at hP1;rw [vb hdone] at hu;rw [hst] at hu hkeep hms;refine zj (ze (zx (srx (anx rfl (zf (zf ?_))))));replace HF := HF.on E;replace M7 := M7.step E XM7;replace E := erx (Mut [(some ga)]) w8
        refine qd (ι := Bool) (fun g => [(0, .pointer (some ⟨ga, 0, none⟩)), (1, .pointer (some ⟨5, 0, none⟩)), (4, .int .u64 0), (5, .bool false), (6, .int .i64 s.e), (7, .int .u64 0), (8, .int .i64 0), (46, .bool g)]) (fun g w' => Ext (Mut [(some ga)]) w8 w' ∧ Blk w' ga 125 (yz s.t) ∧ (g = decide (9 ≤ s.t.dp))) ?_ ?_
        ·
         have M9 := erx (Mut [(some ga)]) w8;have XM9 := grx (Mut [(some ga)]) w8;have OY : ∀ q9, (Mut (xq [])) q9 → q9 < (World.drew w8).heap.size → (Mut [(some ga)]) q9 := fun k h _ => (Mut.none_) k h;refine vu (Mut [(some ga)]) (Mut.grow Mut.none_ (yj Ba.lt)) [] [] (oz [Fx.of (.pointer (some ⟨ga, 0, none⟩)),
          Fx.of (.pointer (some ⟨ga, 0, none⟩)),
          Fx.of (.pointer (some ⟨ga, 801, none⟩)),
          Fx.of (.int .i64 s.t.dp),
          Fx.of (.slice (some ⟨bp, op, none⟩) 9 cp),
          Fx.of (.int .i64 9),
          Fx.of (.bool (decide (9 ≤ s.t.dp)))]) mixed rfl trivial (fun _ h => by cases h) ?_ ?_
         · refine ⟨?_, ?_, ?_, ?_, ?_, ?_, ?_, trivial⟩
           · intro vs X wq K;exact zq rfl ⟨Below.refl _ _, Left.of rfl⟩
           · intro vs X wq K;obtain ⟨_, e0, k0⟩ := K.dep 0 rfl rfl rfl;refine zh 40 (.pointer (some ⟨ga, 0, none⟩)) rfl e0 ?_;exact zk rfl ⟨Below.refl _ _, Left.of rfl⟩
           · intro vs X wq K;obtain ⟨_, e1, k1⟩ := K.dep 1 rfl rfl rfl;refine zh 41 (.pointer (some ⟨ga, 0, none⟩)) rfl e1 ?_;exact zb Tryd.underlying125 rfl sz3 (by decide) rfl ⟨Below.refl _ _, Left.of rfl⟩
           · intro vs X wq K;have LE := K.1;obtain ⟨_, e2, k2⟩ := K.dep 2 rfl rfl rfl;refine zh 42 (.pointer (some ⟨ga, 801, none⟩)) rfl e2 ?_;exact zl Tryd.underlying3 rfl rfl (Ba.drew.extN LE NotIn.nil) (zlq hls s.t.dp rfl) ⟨Below.refl _ _, Left.of rfl⟩
           · intro vs X wq K;have LE := K.1;exact yk Tryd.underlying38 rfl rfl (HF.on (E.drew.trans (LE.mono OY))).here.1.1.1.2.powtab.head ⟨Below.refl _ _, Left.of rfl⟩
           · intro vs X wq K;obtain ⟨_, e4, k4⟩ := K.dep 4 rfl rfl rfl;refine zh 44 (.slice (some ⟨bp, op, none⟩) 9 cp) rfl e4 ?_;exact vi Tryd.underlying38 rfl ⟨Below.refl _ _, Left.of rfl⟩
           · intro vs X wq K;obtain ⟨_, e3, k3⟩ := K.dep 3 rfl rfl rfl;refine zh 43 (.int .i64 s.t.dp) rfl e3 ?_;obtain ⟨_, e5, k5⟩ := K.dep 5 rfl rfl rfl;refine zh 45 (.int .i64 9) rfl e5 ?_;exact vr rfl rfl ⟨Below.refl _ _, Left.of rfl⟩
         intro vs w11 LE AO AL AF AA;have LBa := Ba;replace Ba := Ba.drew.extN LE NotIn.nil;replace E := E.drew.trans (LE.mono OY);obtain ⟨_, e6, k6⟩ := AL.2.2.2.2.2.2.1;refine je (τ := [(0, _), (1, _), (4, _), (5, _), (6, _), (7, _), (8, _), (46, .bool (decide (9 ≤ s.t.dp)))]) ⟨rfl, rfl, rfl, rfl, rfl, rfl, rfl, congrArg some e6, trivial⟩ ?_;clear AL AF AA LE AO OY e6 k6 LBa
         exact yp (decide (9 ≤ s.t.dp)) ⟨rfl, rfl, rfl, rfl, rfl, rfl, rfl, rfl, trivial⟩ ⟨M9.step E XM9, (by exact Ba), rfl⟩
        ·
         have LTa := (yj Ba.lt);clear Ba;rintro g w10 ⟨M9, Ba, hgg⟩;replace E := E.trans M9;replace HF := HF.on E;replace M7 := M7.step E XM7;replace E := erx (Mut [(some ga)]) w10;replace HF := HF.on E;replace M7 := M7.step E XM7;replace E := erx (Mut [(some ga)]) w10
         refine qd (ι := Unit) (fun _ => [(0, .pointer (some ⟨ga, 0, none⟩)), (1, .pointer (some ⟨5, 0, none⟩)), (4, .int .u64 0), (5, .bool false), (6, .int .i64 s.e), (7, .int .u64 0), (8, .int .i64 ((P : Nat) : Int))]) (fun _ w' => Ext (Mut [(some ga)]) w10 w' ∧ Blk w' ga 125 (yz s.t) ∧ (True)) ?_ ?_
         ·
          have M12 := erx (Mut [(some ga)]) w10;have XM12 := grx (Mut [(some ga)]) w10;refine zt rfl (fun h5 => ?_) (fun h5 => ?_)
          ·
           rw [hgg] at h5;have h5 := of_decide_eq_true h5;have e : P = 27 := by rw [hP]; exact pt_far (by omega)
           refine zi (avx rfl (yf (yr 8 (.int .i64 ((P : Nat) : Int)) rfl ((by rw [e]; rfl : (.int .i64 27 : Value) = _)) ?_)));exact yp () ⟨rfl, rfl, rfl, rfl, rfl, rfl, rfl, trivial⟩ ⟨M12.step E XM12, (by exact Ba), trivial⟩
          ·
           rw [hgg] at h5;have h5 := of_decide_eq_false h5;have OY : ∀ q9, (Mut (xq [])) q9 → q9 < (World.drew w10).heap.size → (Mut [(some ga)]) q9 := fun k h _ => (Mut.none_) k h;refine vu (Mut [(some ga)]) (Mut.grow Mut.none_ (yj Ba.lt)) [] [] (oz [Fx.of (.slice (some ⟨bp, op, none⟩) 9 cp),
            Fx.of (.pointer (some ⟨ga, 0, none⟩)),
            Fx.of (.pointer (some ⟨ga, 0, none⟩)),
            Fx.of (.pointer (some ⟨ga, 801, none⟩)),
            Fx.of (.int .i64 s.t.dp),
            Fx.of (.pointer (some ⟨bp, op + s.t.dp.toNat * 1, none⟩)),
            Fx.of (.int .i64 ((pt s.t.dp.toNat : Nat) : Int)),
            Fx.of (.int .i64 ((pt s.t.dp.toNat : Nat) : Int))]) mixed rfl trivial (fun _ h => by cases h) ?_ ?_
           · refine ⟨?_, ?_, ?_, ?_, ?_, ?_, ?_, ?_, trivial⟩
             · intro vs X wq K;have LE := K.1;exact yk Tryd.underlying38 rfl rfl (HF.on (E.drew.trans (LE.mono OY))).here.1.1.1.2.powtab.head ⟨Below.refl _ _, Left.of rfl⟩
             · intro vs X wq K;exact zq rfl ⟨Below.refl _ _, Left.of rfl⟩
             · intro vs X wq K;obtain ⟨_, e1, k1⟩ := K.dep 1 rfl rfl rfl;refine zh 48 (.pointer (some ⟨ga, 0, none⟩)) rfl e1 ?_;exact zk rfl ⟨Below.refl _ _, Left.of rfl⟩
             · intro vs X wq K;obtain ⟨_, e2, k2⟩ := K.dep 2 rfl rfl rfl;refine zh 49 (.pointer (some ⟨ga, 0, none⟩)) rfl e2 ?_;exact zb Tryd.underlying125 rfl sz3 (by decide) rfl ⟨Below.refl _ _, Left.of rfl⟩
             · intro vs X wq K;have LE := K.1;obtain ⟨_, e3, k3⟩ := K.dep 3 rfl rfl rfl;refine zh 50 (.pointer (some ⟨ga, 801, none⟩)) rfl e3 ?_;exact zl Tryd.underlying3 rfl rfl (Ba.drew.extN LE NotIn.nil) (zlq hls s.t.dp rfl) ⟨Below.refl _ _, Left.of rfl⟩
             · intro vs X wq K;obtain ⟨_, e0, k0⟩ := K.dep 0 rfl rfl rfl;refine zh 47 (.slice (some ⟨bp, op, none⟩) 9 cp) rfl e0 ?_;obtain ⟨_, e4, k4⟩ := K.dep 4 rfl rfl rfl;refine zh 51 (.int .i64 s.t.dp) rfl e4 ?_;exact vd (j := s.t.dp.toNat) Tryd.underlying38 sz3 rfl rfl (by omega) (by omega) ⟨Below.refl _ _, Left.of rfl⟩
             · intro vs X wq K;have LE := K.1;obtain ⟨_, e5, k5⟩ := K.dep 5 rfl rfl rfl;refine zh 52 (.pointer (some ⟨bp, op + s.t.dp.toNat * 1, none⟩)) rfl e5 ?_;exact yk Tryd.underlying3 rfl rfl (by rw [Nat.mul_one]; exact (HF.on (E.drew.trans (LE.mono OY))).here.1.1.1.2.powtab.cells _ _ (powtab_at (by omega))) ⟨Below.refl _ _, Left.of rfl⟩
             · intro vs X wq K;obtain ⟨_, e6, k6⟩ := K.dep 6 rfl rfl rfl;refine zh 53 (.int .i64 ((pt s.t.dp.toNat : Nat) : Int)) rfl e6 ?_;exact vq rfl ⟨Below.refl _ _, Left.of rfl⟩
           intro vs w14 LE AO AL AF AA;have LBa := Ba;replace Ba := Ba.drew.extN LE NotIn.nil;replace E := E.drew.trans (LE.mono OY);obtain ⟨_, e7, k7⟩ := AL.2.2.2.2.2.2.2.1;refine je (τ := [(0, _), (1, _), (4, _), (5, _), (6, _), (7, _), (8, .int .i64 ((pt s.t.dp.toNat : Nat) : Int))]) ⟨rfl, rfl, rfl, rfl, rfl, rfl, congrArg some e7, trivial⟩ ?_;clear AL AF AA LE AO OY e7 k7 LBa
           refine yr 8 (.int .i64 ((P : Nat) : Int)) rfl ((by rw [hP] : (.int .i64 ((pt s.t.dp.toNat : Nat) : Int) : Value) = _)) ?_;exact yp () ⟨rfl, rfl, rfl, rfl, rfl, rfl, rfl, trivial⟩ ⟨M12.step E XM12, (by exact Ba), trivial⟩
         ·
          have LTa := (yj Ba.lt);clear Ba;rintro _ w13 ⟨M12, Ba, _⟩;replace E := E.trans M12;replace M7 := M7.step E XM7;replace E := erx (Mut [(some ga)]) w13
          refine srx (mvx rfl (mvx rfl (za rfl (zkq rfl (zo (by omega)) (yd 56 (.int .i64 (-((P : Nat) : Int))) rfl ((by congr 1; omega : (.int .i64 (0 - ((P : Nat) : Int)) : Value) = _)) (za rfl (zz en78 rfl ((shiftR_any _ ga P s.t ⟨hI.dec, hsp, by show 1 ≤ P ∧ P ≤ 300000; omega, by show -10000000 + 15 * ((P : Nat) : Int) ≤ s.t.dp ∧ s.t.dp ≤ 1000000; omega⟩ Ba).mono ?_))))))))
          rintro e w15 ⟨rfl, hB, hE⟩;refine ⟨_, rfl, ?_⟩;replace Ba := hB;clear hB;replace E := E.step1 hE Mut.head;clear hE;replace Ba : Blk w15 ga 125 (yz (jc s.t P)) := by rw [← shrD_one (by omega)]; exact Ba
          refine rnx (zi (mvx rfl (mvx rfl (za rfl (yg rfl rfl (zo (by omega)) (avx rfl (yf (zm ?_))))))));exact ym (⟨jc s.t P, s.e + ((P : Nat) : Int)⟩) (hms) ⟨rfl, rfl, rfl, rfl, rfl, rfl, trivial⟩ ⟨M7.step E XM7, (by exact Ba), hkeep, hu⟩
       ·
        have h4 := of_decide_eq_false h4;have hdone : zcx s = true := decide_eq_true (by omega);rw [qe hdone] at hu;refine yn (zg (zg (zv ?_)));exact yp s ⟨rfl, rfl, rfl, rfl, rfl, rfl, trivial⟩ ⟨M5.step E XM5, (by exact Ba), hu⟩
      ·
       have LTa := (yj Ba.lt);clear Ba;rintro s w6 ⟨M5, Ba, hs⟩;replace E := E.trans M5;replace HF := HF.on E;replace M1 := M1.step E XM1;replace M3 := M3.step E XM3;replace E := erx (Mut [(some ga)]) w6;obtain ⟨hR1, hR2⟩ := fbR_ends ht hpos (by omega);have hLs := yex hR1 hR2;refine zf ?_;replace HF := HF.on E;replace M1 := M1.step E XM1;replace M3 := M3.step E XM3
       replace E := erx (Mut [(some ga)]) w6;refine qd (ι := FbS) (fun s => [(0, .pointer (some ⟨ga, 0, none⟩)), (1, .pointer (some ⟨5, 0, none⟩)), (4, .int .u64 0), (5, .bool false), (6, .int .i64 s.e), (7, .int .u64 0)]) (fun s w' => Ext (Mut [(some ga)]) w6 w' ∧ Blk w' ga 125 (yz s.t) ∧ (s = fbL t)) ?_ ?_
       ·
        have M16 := erx (Mut [(some ga)]) w6;have XM16 := grx (Mut [(some ga)]) w6;refine zx ?_;replace HF := HF.on E;replace M16 := M16.step E XM16;replace E := erx (Mut [(some ga)]) w6
        refine qk (ι := FbS) (fun s => [(0, .pointer (some ⟨ga, 0, none⟩)), (1, .pointer (some ⟨5, 0, none⟩)), (4, .int .u64 0), (5, .bool false), (6, .int .i64 s.e), (7, .int .u64 0)]) (fun s w' => Ext (Mut [(some ga)]) w6 w' ∧ Blk w' ga 125 (yz s.t) ∧ (FbLI s ∧ qv zhx zbv s = fbL t)) (fun s => msL s.t) s ⟨rfl, rfl, rfl, rfl, rfl, rfl, trivial⟩ ⟨Ext.refl _ _, (by exact Ba), by rw [hs]; exact hLs, by rw [hs]; rfl⟩ ?_
        have LTa := (yj Ba.lt);clear Ba;rintro s w19 ⟨M18, Ba, ⟨hI, hu⟩⟩;have XM18 : Gro (Mut [(some ga)]) (Mut [(some ga)]) w6 := (Mut.grow Mut.none_ (fun k e => Or.inl (Mut.head k e)));replace E := E.trans M18;replace HF := HF.on E;replace M16 := M16.step E XM16;replace E := erx (Mut [(some ga)]) w19;have hls := hI.dec.len;have hsd := hI.dp;have hse := hI.e;have hsp := hI.pos
        have hsg := hI.dec.dig 0 hsp;refine zf (zf ?_);replace HF := HF.on E;replace M16 := M16.step E XM16;replace M18 := M18.step E XM18;replace E := erx (Mut [(some ga)]) w19
        refine qd (ι := Bool) (fun g => [(0, .pointer (some ⟨ga, 0, none⟩)), (1, .pointer (some ⟨5, 0, none⟩)), (4, .int .u64 0), (5, .bool false), (6, .int .i64 s.e), (7, .int .u64 0), (80, .bool g)]) (fun g w' => Ext (Mut [(some ga)]) w19 w' ∧ Blk w' ga 125 (yz s.t) ∧ (g = decide (s.t.dp < 0 ∨ (s.t.dp = 0 ∧ dg s.t.d 0 < 53)))) ?_ ?_
        ·
         have M20 := erx (Mut [(some ga)]) w19;have XM20 := grx (Mut [(some ga)]) w19;refine zi (mvx rfl (za rfl (zk rfl (za rfl (zb Tryd.underlying125 rfl sz3 (by decide) rfl (za rfl (zl Tryd.underlying3 rfl rfl Ba (zlq hls s.t.dp rfl) (za rfl (yt rfl rfl (mvx rfl (yo 66 rfl (fun h4 => ?_) (fun h4 => ?_))))))))))))
         ·
          have h4 := of_decide_eq_true h4
          refine za rfl (zc rfl (za rfl (zc rfl (za rfl (zc rfl (za rfl (zc rfl (za rfl (zc rfl (za rfl (zc rfl (za rfl (qu rfl rfl (za rfl (qu rfl rfl (za rfl (qu rfl rfl (za rfl (qu rfl rfl (za rfl (qu rfl rfl (za rfl (qu rfl rfl (za rfl (zc rfl (za rfl (zw rfl rfl (yf ?_))))))))))))))))))))))))))))
          exact yp true ⟨rfl, rfl, rfl, rfl, rfl, rfl, rfl, trivial⟩ ⟨M20.step E XM20, (by exact Ba), (decide_eq_true (.inl h4)).symm⟩
         ·
          have h4 := of_decide_eq_false h4;refine onx rfl (zq rfl (onx rfl (zk rfl (onx rfl (zb Tryd.underlying125 rfl sz3 (by decide) rfl (onx rfl (zl Tryd.underlying3 rfl rfl Ba (zlq hls s.t.dp rfl) (onx rfl (ye rfl rfl (onx rfl (zq rfl (yo 72 rfl (fun h5 => ?_) (fun h5 => ?_)))))))))))))
          ·
           have h5 := eq_of_beq h5
           refine onx rfl (zq rfl (onx rfl (zk rfl (onx rfl (zb Tryd.underlying125 rfl xn (by decide) rfl (onx rfl (xm (j := 0) Tryd.underlying123 sz5 rfl rfl rfl (by decide) (onx rfl (zl Tryd.underlying5 rfl rfl Ba (dAt hls (dg s.t.d 0) 0 rfl (by decide)) (onx rfl (yt rfl rfl (onx rfl (zw rfl rfl (za rfl (ya rfl rfl (yf (yr 80 (.bool (decide (s.t.dp < 0 ∨ (s.t.dp = 0 ∧ dg s.t.d 0 < 53)))) rfl (kb (by omega)) ?_)))))))))))))))))
           exact yp (decide (s.t.dp < 0 ∨ (s.t.dp = 0 ∧ dg s.t.d 0 < 53))) ⟨rfl, rfl, rfl, rfl, rfl, rfl, rfl, trivial⟩ ⟨M20.step E XM20, (by exact Ba), rfl⟩
          ·
           have h5 : ¬ s.t.dp = 0 := fun e => absurd h5 (by rw [e]; decide);refine za rfl (zc rfl (za rfl (zc rfl (za rfl (zc rfl (za rfl (zc rfl (za rfl (zc rfl (za rfl (zc rfl (onx rfl (ya rfl rfl (za rfl (ya rfl rfl (yf ?_))))))))))))))))
           exact yp false ⟨rfl, rfl, rfl, rfl, rfl, rfl, rfl, trivial⟩ ⟨M20.step E XM20, (by exact Ba), (decide_eq_false (by omega)).symm⟩
        ·
         have LTa := (yj Ba.lt);clear Ba;rintro g w21 ⟨M20, Ba, hgg⟩;replace E := E.trans M20;replace HF := HF.on E;replace M16 := M16.step E XM16;replace M18 := M18.step E XM18;replace E := erx (Mut [(some ga)]) w21;refine zt rfl (fun h4 => ?_) (fun h4 => ?_)
         ·
          rw [hgg] at h4;have h4 := of_decide_eq_true h4;have hdone : zhx s = false := decide_eq_false (fun h => h h4);obtain ⟨hkeep, hms⟩ := yez hI hdone;obtain ⟨P, hP⟩ : ∃ P, P = pt (-s.t.dp).toNat := ⟨_, rfl⟩;have hP1 := pt_le (-s.t.dp).toNat;have hP2 := pt_shl (-s.t.dp).toNat;have hst : zbv s = ⟨vj s.t P, s.e - ((P : Nat) : Int)⟩ := by rw [hP]; rfl
          rw [← hP] at hP1 hP2;rw [vb hdone] at hu;rw [hst] at hu hkeep hms;refine zj (ze (zx (srx (anx rfl (zf (zf ?_))))));replace HF := HF.on E;replace M18 := M18.step E XM18;replace E := erx (Mut [(some ga)]) w21
          refine qd (ι := Bool) (fun g => [(0, .pointer (some ⟨ga, 0, none⟩)), (1, .pointer (some ⟨5, 0, none⟩)), (4, .int .u64 0), (5, .bool false), (6, .int .i64 s.e), (7, .int .u64 0), (9, .int .i64 0), (88, .bool g)]) (fun g w' => Ext (Mut [(some ga)]) w21 w' ∧ Blk w' ga 125 (yz s.t) ∧ (g = decide (9 ≤ 0 - s.t.dp))) ?_ ?_
          ·
           have M22 := erx (Mut [(some ga)]) w21;have XM22 := grx (Mut [(some ga)]) w21;have OY : ∀ q9, (Mut (xq [])) q9 → q9 < (World.drew w21).heap.size → (Mut [(some ga)]) q9 := fun k h _ => (Mut.none_) k h;refine vu (Mut [(some ga)]) (Mut.grow Mut.none_ (yj Ba.lt)) [] [] (oz [Fx.of (.pointer (some ⟨ga, 0, none⟩)),
            Fx.of (.pointer (some ⟨ga, 0, none⟩)),
            Fx.of (.pointer (some ⟨ga, 801, none⟩)),
            Fx.of (.int .i64 s.t.dp),
            Fx.of (.int .i64 (0 - s.t.dp)),
            Fx.of (.slice (some ⟨bp, op, none⟩) 9 cp),
            Fx.of (.int .i64 9),
            Fx.of (.bool (decide (9 ≤ (0 - s.t.dp))))]) mixed rfl trivial (fun _ h => by cases h) ?_ ?_
           · refine ⟨?_, ?_, ?_, ?_, ?_, ?_, ?_, ?_, trivial⟩
             · intro vs X wq K;exact zq rfl ⟨Below.refl _ _, Left.of rfl⟩
             · intro vs X wq K;obtain ⟨_, e0, k0⟩ := K.dep 0 rfl rfl rfl;refine zh 81 (.pointer (some ⟨ga, 0, none⟩)) rfl e0 ?_;exact zk rfl ⟨Below.refl _ _, Left.of rfl⟩
             · intro vs X wq K;obtain ⟨_, e1, k1⟩ := K.dep 1 rfl rfl rfl;refine zh 82 (.pointer (some ⟨ga, 0, none⟩)) rfl e1 ?_;exact zb Tryd.underlying125 rfl sz3 (by decide) rfl ⟨Below.refl _ _, Left.of rfl⟩
             · intro vs X wq K;have LE := K.1;obtain ⟨_, e2, k2⟩ := K.dep 2 rfl rfl rfl;refine zh 83 (.pointer (some ⟨ga, 801, none⟩)) rfl e2 ?_;exact zl Tryd.underlying3 rfl rfl (Ba.drew.extN LE NotIn.nil) (zlq hls s.t.dp rfl) ⟨Below.refl _ _, Left.of rfl⟩
             · intro vs X wq K;obtain ⟨_, e3, k3⟩ := K.dep 3 rfl rfl rfl;refine zh 84 (.int .i64 s.t.dp) rfl e3 ?_;exact zkq rfl (zo (by omega)) ⟨Below.refl _ _, Left.of rfl⟩
             · intro vs X wq K;have LE := K.1;exact yk Tryd.underlying38 rfl rfl (HF.on (E.drew.trans (LE.mono OY))).here.1.1.1.2.powtab.head ⟨Below.refl _ _, Left.of rfl⟩
             · intro vs X wq K;obtain ⟨_, e5, k5⟩ := K.dep 5 rfl rfl rfl;refine zh 86 (.slice (some ⟨bp, op, none⟩) 9 cp) rfl e5 ?_;exact vi Tryd.underlying38 rfl ⟨Below.refl _ _, Left.of rfl⟩
             · intro vs X wq K;obtain ⟨_, e4, k4⟩ := K.dep 4 rfl rfl rfl;refine zh 85 (.int .i64 (0 - s.t.dp)) rfl e4 ?_;obtain ⟨_, e6, k6⟩ := K.dep 6 rfl rfl rfl;refine zh 87 (.int .i64 9) rfl e6 ?_;exact vr rfl rfl ⟨Below.refl _ _, Left.of rfl⟩
           intro vs w24 LE AO AL AF AA;have LBa := Ba;replace Ba := Ba.drew.extN LE NotIn.nil;replace E := E.drew.trans (LE.mono OY);obtain ⟨_, e7, k7⟩ := AL.2.2.2.2.2.2.2.1;refine je (τ := [(0, _), (1, _), (4, _), (5, _), (6, _), (7, _), (9, _), (88, .bool (decide (9 ≤ (0 - s.t.dp))))]) ⟨rfl, rfl, rfl, rfl, rfl, rfl, rfl, congrArg some e7, trivial⟩ ?_
           clear AL AF AA LE AO OY e7 k7 LBa;exact yp (decide (9 ≤ 0 - s.t.dp)) ⟨rfl, rfl, rfl, rfl, rfl, rfl, rfl, rfl, trivial⟩ ⟨M22.step E XM22, (by exact Ba), rfl⟩
          ·
           have LTa := (yj Ba.lt);clear Ba;rintro g w23 ⟨M22, Ba, hg2⟩;replace E := E.trans M22;replace HF := HF.on E;replace M18 := M18.step E XM18;replace E := erx (Mut [(some ga)]) w23;replace HF := HF.on E;replace M18 := M18.step E XM18;replace E := erx (Mut [(some ga)]) w23
           refine qd (ι := Unit) (fun _ => [(0, .pointer (some ⟨ga, 0, none⟩)), (1, .pointer (some ⟨5, 0, none⟩)), (4, .int .u64 0), (5, .bool false), (6, .int .i64 s.e), (7, .int .u64 0), (9, .int .i64 ((P : Nat) : Int))]) (fun _ w' => Ext (Mut [(some ga)]) w23 w' ∧ Blk w' ga 125 (yz s.t) ∧ (True)) ?_ ?_
           ·
            have M25 := erx (Mut [(some ga)]) w23;have XM25 := grx (Mut [(some ga)]) w23;refine zt rfl (fun h5 => ?_) (fun h5 => ?_)
            ·
             rw [hg2] at h5;have h5 := of_decide_eq_true h5;have e : P = 27 := by rw [hP]; exact pt_far (by omega)
             refine zi (avx rfl (yf (yr 9 (.int .i64 ((P : Nat) : Int)) rfl ((by rw [e]; rfl : (.int .i64 27 : Value) = _)) ?_)));exact yp () ⟨rfl, rfl, rfl, rfl, rfl, rfl, rfl, trivial⟩ ⟨M25.step E XM25, (by exact Ba), trivial⟩
            ·
             rw [hg2] at h5;have h5 := of_decide_eq_false h5;have OY : ∀ q9, (Mut (xq [])) q9 → q9 < (World.drew w23).heap.size → (Mut [(some ga)]) q9 := fun k h _ => (Mut.none_) k h;refine vu (Mut [(some ga)]) (Mut.grow Mut.none_ (yj Ba.lt)) [] [] (oz [Fx.of (.slice (some ⟨bp, op, none⟩) 9 cp),
              Fx.of (.pointer (some ⟨ga, 0, none⟩)),
              Fx.of (.pointer (some ⟨ga, 0, none⟩)),
              Fx.of (.pointer (some ⟨ga, 801, none⟩)),
              Fx.of (.int .i64 s.t.dp),
              Fx.of (.int .i64 (0 - s.t.dp)),
              Fx.of (.pointer (some ⟨bp, op + (-s.t.dp).toNat * 1, none⟩)),
              Fx.of (.int .i64 ((pt (-s.t.dp).toNat : Nat) : Int)),
              Fx.of (.int .i64 ((pt (-s.t.dp).toNat : Nat) : Int))]) mixed rfl trivial (fun _ h => by cases h) ?_ ?_
             · refine ⟨?_, ?_, ?_, ?_, ?_, ?_, ?_, ?_, ?_, trivial⟩
               · intro vs X wq K;have LE := K.1;exact yk Tryd.underlying38 rfl rfl (HF.on (E.drew.trans (LE.mono OY))).here.1.1.1.2.powtab.head ⟨Below.refl _ _, Left.of rfl⟩
               · intro vs X wq K;exact zq rfl ⟨Below.refl _ _, Left.of rfl⟩
               · intro vs X wq K;obtain ⟨_, e1, k1⟩ := K.dep 1 rfl rfl rfl;refine zh 90 (.pointer (some ⟨ga, 0, none⟩)) rfl e1 ?_;exact zk rfl ⟨Below.refl _ _, Left.of rfl⟩
               · intro vs X wq K;obtain ⟨_, e2, k2⟩ := K.dep 2 rfl rfl rfl;refine zh 91 (.pointer (some ⟨ga, 0, none⟩)) rfl e2 ?_;exact zb Tryd.underlying125 rfl sz3 (by decide) rfl ⟨Below.refl _ _, Left.of rfl⟩
               · intro vs X wq K;have LE := K.1;obtain ⟨_, e3, k3⟩ := K.dep 3 rfl rfl rfl;refine zh 92 (.pointer (some ⟨ga, 801, none⟩)) rfl e3 ?_;exact zl Tryd.underlying3 rfl rfl (Ba.drew.extN LE NotIn.nil) (zlq hls s.t.dp rfl) ⟨Below.refl _ _, Left.of rfl⟩
               · intro vs X wq K;obtain ⟨_, e4, k4⟩ := K.dep 4 rfl rfl rfl;refine zh 93 (.int .i64 s.t.dp) rfl e4 ?_;exact zkq rfl (zo (by omega)) ⟨Below.refl _ _, Left.of rfl⟩
               · intro vs X wq K;obtain ⟨_, e0, k0⟩ := K.dep 0 rfl rfl rfl;refine zh 89 (.slice (some ⟨bp, op, none⟩) 9 cp) rfl e0 ?_;obtain ⟨_, e5, k5⟩ := K.dep 5 rfl rfl rfl;refine zh 94 (.int .i64 (0 - s.t.dp)) rfl e5 ?_;exact vd (j := (-s.t.dp).toNat) Tryd.underlying38 sz3 rfl rfl (by omega) (by omega) ⟨Below.refl _ _, Left.of rfl⟩
               · intro vs X wq K;have LE := K.1;obtain ⟨_, e6, k6⟩ := K.dep 6 rfl rfl rfl;refine zh 95 (.pointer (some ⟨bp, op + (-s.t.dp).toNat * 1, none⟩)) rfl e6 ?_;exact yk Tryd.underlying3 rfl rfl (by rw [Nat.mul_one]; exact (HF.on (E.drew.trans (LE.mono OY))).here.1.1.1.2.powtab.cells _ _ (powtab_at (by omega))) ⟨Below.refl _ _, Left.of rfl⟩
               · intro vs X wq K;obtain ⟨_, e7, k7⟩ := K.dep 7 rfl rfl rfl;refine zh 96 (.int .i64 ((pt (-s.t.dp).toNat : Nat) : Int)) rfl e7 ?_;exact vq rfl ⟨Below.refl _ _, Left.of rfl⟩
             intro vs w27 LE AO AL AF AA;have LBa := Ba;replace Ba := Ba.drew.extN LE NotIn.nil;replace E := E.drew.trans (LE.mono OY);obtain ⟨_, e8, k8⟩ := AL.2.2.2.2.2.2.2.2.1;refine je (τ := [(0, _), (1, _), (4, _), (5, _), (6, _), (7, _), (9, .int .i64 ((pt (-s.t.dp).toNat : Nat) : Int))]) ⟨rfl, rfl, rfl, rfl, rfl, rfl, congrArg some e8, trivial⟩ ?_
             clear AL AF AA LE AO OY e8 k8 LBa;refine yr 9 (.int .i64 ((P : Nat) : Int)) rfl ((by rw [hP] : (.int .i64 ((pt (-s.t.dp).toNat : Nat) : Int) : Value) = _)) ?_;exact yp () ⟨rfl, rfl, rfl, rfl, rfl, rfl, rfl, trivial⟩ ⟨M25.step E XM25, (by exact Ba), trivial⟩
           ·
            have LTa := (yj Ba.lt);clear Ba;rintro _ w26 ⟨M25, Ba, _⟩;replace E := E.trans M25;replace HF := HF.on E;replace M18 := M18.step E XM18;replace E := erx (Mut [(some ga)]) w26;refine srx (mvx rfl (mvx rfl (za rfl (zz en78 rfl ((shiftL_any _ ga P s.t hP2 hI.dec hsp (by omega) Ba (HF.on E).here.1.1.1.2 hg).mono ?_)))));rintro e w28 ⟨rfl, hB, hE⟩
            refine ⟨_, rfl, ?_⟩;replace Ba := hB;clear hB;replace E := E.step1 hE Mut.head;clear hE;refine rnx (zi (mvx rfl (mvx rfl (za rfl (yw rfl rfl (zo (by omega)) (avx rfl (yf (zm ?_))))))));exact ym (⟨vj s.t P, s.e - ((P : Nat) : Int)⟩) (hms) ⟨rfl, rfl, rfl, rfl, rfl, rfl, trivial⟩ ⟨M18.step E XM18, (by exact Ba), hkeep, hu⟩
         ·
          rw [hgg] at h4;have h4 := of_decide_eq_false h4;have hdone : zhx s = true := decide_eq_true h4;rw [qe hdone] at hu;refine yn (zg (zg (zv ?_)));exact yp s ⟨rfl, rfl, rfl, rfl, rfl, rfl, trivial⟩ ⟨M16.step E XM16, (by exact Ba), hu⟩
       ·
        have LTa := (yj Ba.lt);clear Ba;rintro s w17 ⟨M16, Ba, hs2⟩;replace E := E.trans M16;replace HF := HF.on E;replace M1 := M1.step E XM1;replace M3 := M3.step E XM3;replace E := erx (Mut [(some ga)]) w17;clear hs;obtain ⟨hL1, _⟩ := fbL_ends ht hpos (by omega);rw [← hs2] at hL1 hfb0;have hls := hL1.dec.len;have hsd := hL1.dp;have hse := hL1.e;have hsp := hL1.pos
        have hms : 0 ≤ ((msL s.t : Nat) : Int) := by omega
        have hng0 : s.t.neg = t.neg := by rw [hs2]; exact fbL_neg ht hpos (by omega)
        refine srx (mvx rfl (za rfl (yw rfl rfl (zo (by omega)) (anx rfl (zf (srx (mvx rfl (mvx rfl (za rfl (zk rfl (za rfl (zb Tryd.underlying115 rfl sz3 (by decide) rfl (za rfl (yk Tryd.underlying3 rfl rfl (HF.on E).here.2 (za rfl (yg (z := (-1022)) rfl rfl (by kernel_rfl) (za rfl (yt rfl rfl (rnx ?_)))))))))))))))))))
        replace HF := HF.on E;replace M1 := M1.step E XM1;replace M3 := M3.step E XM3;replace E := erx (Mut [(some ga)]) w17
        refine qd (ι := Dec × Int) (fun (t3, e3) => [(0, .pointer (some ⟨ga, 0, none⟩)), (1, .pointer (some ⟨5, 0, none⟩)), (4, .int .u64 0), (5, .bool false), (6, .int .i64 e3), (7, .int .u64 0)]) (fun (t3, e3) w' => Ext (Mut [(some ga)]) w17 w' ∧ Blk w' ga 125 (yz t3) ∧ (ky t = (if 1024 ≤ e3 then (0, 2047, true) else yhk (vj t3 53) e3) ∧ DecI t3 ∧ 0 < t3.nd ∧ (-11000000 ≤ t3.dp ∧ t3.dp ≤ 1000000) ∧ (-1022 ≤ e3 ∧ e3 ≤ 90000) ∧ t3.neg = t.neg)) ?_ ?_
        ·
         have M29 := erx (Mut [(some ga)]) w17;have XM29 := grx (Mut [(some ga)]) w17;refine zt rfl (fun h4 => ?_) (fun h4 => ?_)
         ·
          have h4 := of_decide_eq_true h4;have hSh : ShI ⟨s.t, (-1022 - (s.e - 1)).toNat⟩ := ⟨hL1.dec, hsp, by show 1 ≤ (-1022 - (s.e - 1)).toNat ∧ (-1022 - (s.e - 1)).toNat ≤ 300000; omega, by show -10000000 + 15 * (((-1022 - (s.e - 1)).toNat : Nat) : Int) ≤ s.t.dp ∧ s.t.dp ≤ 1000000; omega⟩;obtain ⟨hq1, hq2, hq3, hq4⟩ := shrD_keeps hSh
          have hq5 : (shrD s.t (-1022 - (s.e - 1)).toNat).neg = t.neg := by rw [shrD_neg hSh]; exact hng0
          have hfe : ky t = yhk (vj (shrD s.t (-1022 - (s.e - 1)).toNat) 53) (-1022) := by rw [hfb0]; unfold fbMid; rw [if_pos (by omega)]
          refine srx (mvx rfl (za rfl (zk rfl (za rfl (zb Tryd.underlying115 rfl sz3 (by decide) rfl (za rfl (yk Tryd.underlying3 rfl rfl (HF.on E).here.2 (za rfl (yg (z := (-1022)) rfl rfl (by kernel_rfl) (mvx rfl (za rfl (yw rfl rfl (zo (by omega)) (anx rfl (srx (mvx rfl (mvx rfl (za rfl (zkq rfl (zo (by omega)) (yd 121 (.int .i64 (-(((-1022 - (s.e - 1)).toNat : Nat) : Int))) rfl ((by congr 1; omega : (.int .i64 (0 - ((-1022) - (s.e - 1))) : Value) = _)) (za rfl (zz en78 rfl ((shiftR_any _ ga (-1022 - (s.e - 1)).toNat s.t hSh Ba).mono ?_))))))))))))))))))))))
          rintro e w31 ⟨rfl, hB, hE⟩;refine ⟨_, rfl, ?_⟩;replace Ba := hB;clear hB;replace E := E.step1 hE Mut.head;clear hE;refine rnx (zi (mvx rfl (mvx rfl (za rfl (yg rfl rfl (zo (by omega)) (avx rfl (yf (yr 6 (.int .i64 (-1022)) rfl ((by congr 1; omega : (.int .i64 ((s.e - 1) + ((-1022) - (s.e - 1))) : Value) = _)) ?_))))))))
          exact yp (shrD s.t (-1022 - (s.e - 1)).toNat, -1022) ⟨rfl, rfl, rfl, rfl, rfl, rfl, trivial⟩ ⟨M29.step E XM29, (by exact Ba), by rw [if_neg (by decide)]; exact hfe, hq1, hq2, ⟨hq3, hq4⟩, by decide, hq5⟩
         ·
          have h4 := of_decide_eq_false h4;have hfe : ky t = (if 1024 ≤ s.e - 1 then (0, 2047, true) else yhk (vj s.t 53) (s.e - 1)) := by rw [hfb0]; unfold fbMid; rw [if_neg (by omega)]
          refine zj ?_;exact yp (s.t, s.e - 1) ⟨rfl, rfl, rfl, rfl, rfl, rfl, trivial⟩ ⟨M29.step E XM29, (by exact Ba), hfe, hL1.dec, hsp, by omega, by omega, hng0⟩
        ·
         have LTa := (yj Ba.lt);clear Ba;rintro ⟨t3, e3⟩ w30 ⟨M29, Ba, ⟨hfb, ht3, hp3, hd3, he3, hn3⟩⟩;replace E := E.trans M29;replace HF := HF.on E;replace M1 := M1.step E XM1;replace M3 := M3.step E XM3;replace E := erx (Mut [(some ga)]) w30;have hl3 := ht3.len;refine zf (zf ?_);replace HF := HF.on E;replace M1 := M1.step E XM1;replace M3 := M3.step E XM3
         replace E := erx (Mut [(some ga)]) w30;refine qd (ι := Bool) (fun g => [(0, .pointer (some ⟨ga, 0, none⟩)), (1, .pointer (some ⟨5, 0, none⟩)), (4, .int .u64 0), (5, .bool false), (6, .int .i64 e3), (7, .int .u64 0), (138, .bool g)]) (fun g w' => Ext (Mut [(some ga)]) w30 w' ∧ Blk w' ga 125 (yz t3) ∧ (g = decide (1024 ≤ e3))) ?_ ?_
         ·
          have M32 := erx (Mut [(some ga)]) w30;have XM32 := grx (Mut [(some ga)]) w30;have OY : ∀ q9, (Mut (xq [])) q9 → q9 < (World.drew w30).heap.size → (Mut [(some ga)]) q9 := fun k h _ => (Mut.none_) k h;refine vu (Mut [(some ga)]) (Mut.grow Mut.none_ (yj Ba.lt)) [] [] (oz [Fx.of (.int .i64 e3),
           Fx.of (.pointer (some ⟨5, 0, none⟩)),
           Fx.of (.pointer (some ⟨5, 0, none⟩)),
           Fx.of (.pointer (some ⟨5, 2, none⟩)),
           Fx.of (.int .i64 (-1023)),
           Fx.of (.int .i64 (e3 - (-1023))),
           Fx.of (.pointer (some ⟨5, 0, none⟩)),
           Fx.of (.pointer (some ⟨5, 0, none⟩)),
           Fx.of (.pointer (some ⟨5, 1, none⟩)),
           Fx.of (.int .u64 11),
           Fx.of (.int .i64 2048),
           Fx.of (.int .i64 2047),
           Fx.of (.bool (decide (1024 ≤ e3)))]) mixed rfl trivial (fun _ h => by cases h) ?_ ?_
          · refine ⟨?_, ?_, ?_, ?_, ?_, ?_, ?_, ?_, ?_, ?_, ?_, ?_, ?_, trivial⟩
            · intro vs X wq K;exact zq rfl ⟨Below.refl _ _, Left.of rfl⟩
            · intro vs X wq K;exact zq rfl ⟨Below.refl _ _, Left.of rfl⟩
            · intro vs X wq K;obtain ⟨_, e1, k1⟩ := K.dep 1 rfl rfl rfl;refine zh 127 (.pointer (some ⟨5, 0, none⟩)) rfl e1 ?_;exact zk rfl ⟨Below.refl _ _, Left.of rfl⟩
            · intro vs X wq K;obtain ⟨_, e2, k2⟩ := K.dep 2 rfl rfl rfl;refine zh 128 (.pointer (some ⟨5, 0, none⟩)) rfl e2 ?_;exact zb Tryd.underlying115 rfl sz3 (by decide) rfl ⟨Below.refl _ _, Left.of rfl⟩
            · intro vs X wq K;have LE := K.1;obtain ⟨_, e3, k3⟩ := K.dep 3 rfl rfl rfl;refine zh 129 (.pointer (some ⟨5, 2, none⟩)) rfl e3 ?_;exact yk Tryd.underlying3 rfl rfl (HF.on (E.drew.trans (LE.mono OY))).here.2 ⟨Below.refl _ _, Left.of rfl⟩
            · intro vs X wq K;obtain ⟨_, e0, k0⟩ := K.dep 0 rfl rfl rfl;refine zh 126 (.int .i64 e3) rfl e0 ?_;obtain ⟨_, e4, k4⟩ := K.dep 4 rfl rfl rfl;refine zh 130 (.int .i64 (-1023)) rfl e4 ?_;exact yw rfl rfl (zo (by omega)) ⟨Below.refl _ _, Left.of rfl⟩
            · intro vs X wq K;exact zq rfl ⟨Below.refl _ _, Left.of rfl⟩
            · intro vs X wq K;obtain ⟨_, e6, k6⟩ := K.dep 6 rfl rfl rfl;refine zh 132 (.pointer (some ⟨5, 0, none⟩)) rfl e6 ?_;exact zk rfl ⟨Below.refl _ _, Left.of rfl⟩
            · intro vs X wq K;obtain ⟨_, e7, k7⟩ := K.dep 7 rfl rfl rfl;refine zh 133 (.pointer (some ⟨5, 0, none⟩)) rfl e7 ?_;exact zb Tryd.underlying115 rfl ziq (by decide) rfl ⟨Below.refl _ _, Left.of rfl⟩
            · intro vs X wq K;have LE := K.1;obtain ⟨_, e8, k8⟩ := K.dep 8 rfl rfl rfl;refine zh 134 (.pointer (some ⟨5, 1, none⟩)) rfl e8 ?_;exact yk Tryd.underlying88 rfl rfl (HF.on (E.drew.trans (LE.mono OY))).here.1.2 ⟨Below.refl _ _, Left.of rfl⟩
            · intro vs X wq K;obtain ⟨_, e9, k9⟩ := K.dep 9 rfl rfl rfl;refine zh 135 (.int .u64 11) rfl e9 ?_;exact jl (z := 2048) rfl rfl (by decide) (by kernel_rfl) ⟨Below.refl _ _, Left.of rfl⟩
            · intro vs X wq K;obtain ⟨_, e10, k10⟩ := K.dep 10 rfl rfl rfl;refine zh 136 (.int .i64 2048) rfl e10 ?_;exact yw (z := 2047) rfl rfl (by kernel_rfl) ⟨Below.refl _ _, Left.of rfl⟩
            · intro vs X wq K;obtain ⟨_, e5, k5⟩ := K.dep 5 rfl rfl rfl;refine zh 131 (.int .i64 (e3 - (-1023))) rfl e5 ?_;obtain ⟨_, e11, k11⟩ := K.dep 11 rfl rfl rfl;refine zh 137 (.int .i64 2047) rfl e11 ?_;exact vr rfl rfl ⟨Below.refl _ _, Left.of (kb (by omega))⟩
          intro vs w34 LE AO AL AF AA;have LBa := Ba;replace Ba := Ba.drew.extN LE NotIn.nil;replace E := E.drew.trans (LE.mono OY);obtain ⟨_, e12, k12⟩ := AL.2.2.2.2.2.2.2.2.2.2.2.2.1;refine je (τ := [(0, _), (1, _), (4, _), (5, _), (6, _), (7, _), (138, .bool (decide (1024 ≤ e3)))]) ⟨rfl, rfl, rfl, rfl, rfl, rfl, congrArg some e12, trivial⟩ ?_;clear AL AF AA LE AO OY e12 k12 LBa
          exact yp (decide (1024 ≤ e3)) ⟨rfl, rfl, rfl, rfl, rfl, rfl, rfl, trivial⟩ ⟨M32.step E XM32, (by exact Ba), rfl⟩
         ·
          have LTa := (yj Ba.lt);clear Ba;rintro g w33 ⟨M32, Ba, hgg⟩;replace E := E.trans M32;replace HF := HF.on E;replace M1 := M1.step E XM1;replace M3 := M3.step E XM3;replace E := erx (Mut [(some ga)]) w33;refine zt rfl (fun h4 => ?_) (fun h4 => ?_)
          ·
           rw [hgg] at h4;have h4 := of_decide_eq_true h4;rw [if_pos h4] at hfb;refine zcq (jq ?_);exact zcz rfl TLM3 t3 ⟨rfl, rfl, trivial⟩ ⟨M3.step E XM3, (by exact Ba), hfb, hl3, hn3⟩
          ·
           rw [hgg] at h4;have h4 := of_decide_eq_false h4;rw [if_neg h4] at hfb;obtain ⟨hq1, hq2, hq3, hq4, _, hq5⟩ := zgz ht3 hp3 (.inr (.inr (.inr (.inr (.inr (.inr (.inr (.inr (.inr (.inr rfl))))))))) : Shl 53);have hl5 := hq1.len;have hn5 : (vj t3 53).neg = t.neg := hq5.trans hn3;obtain ⟨M, hM⟩ : ∃ M, M = kk (vj t3 53) := ⟨_, rfl⟩
           have hM64 : M < 18446744073709551616 := by rw [hM]; exact roundD_lt _
           unfold yhk at hfb;rw [← hM] at hfb
           refine zj (ze (srx (mvx rfl (mvx rfl (za rfl (zk rfl (za rfl (zb Tryd.underlying115 rfl ziq (by decide) rfl (za rfl (yk Tryd.underlying88 rfl rfl (HF.on E).here.1.1.2 (za rfl (yg (z := 53) rfl rfl (by kernel_rfl) (za rfl (ja (z := 53) Tryd.underlying3 Tryd.underlying88 rfl (by kernel_rfl) (za rfl (zz en78 rfl ((shiftL_any _ ga 53 t3 (.inr (.inr (.inr (.inr (.inr (.inr (.inr (.inr (.inr (.inr rfl)))))))))) ht3 hp3 (by omega) Ba (HF.on E).here.1.1.1.2 hg).mono ?_)))))))))))))))))
           rintro e w35 ⟨rfl, hB, hE⟩;refine ⟨_, rfl, ?_⟩;replace Ba := hB;clear hB;replace E := E.step1 hE Mut.head;clear hE;refine rnx (srx (mvx rfl (za rfl (zz en79 rfl ((rinteger_any _ ga (vj t3 53) hq1 (by omega) Ba).mono ?_)))));rintro e w36 ⟨rfl, hb⟩;refine ⟨_, rfl, ?_⟩;have Ec := Ext.of_below hb No;replace Ba := Ba.extN Ec NotIn.nil;replace E := E.trans Ec.no
           refine yd 148 (.int .u64 ((M : Nat) : Int)) rfl ((by rw [hM] : (.int .u64 ((kk (vj t3 53) : Nat) : Int) : Value) = _)) (anx rfl (zf (srx (mvx rfl (mvx rfl (za rfl (zk rfl (za rfl (zb Tryd.underlying115 rfl ziq (by decide) rfl (za rfl (yk Tryd.underlying88 rfl rfl (HF.on E).here.1.1.2 (za rfl (jl (z := 9007199254740992) rfl rfl (by decide) (by kernel_rfl) (za rfl (ye rfl rfl (rnx (zt rfl (fun h5 => ?_) (fun h5 => ?_))))))))))))))))))
           ·
            have h5 : M = 9007199254740992 := by have h5 := eq_of_beq h5; omega
            rw [if_pos h5] at hfb;refine zu 7 (.int .u64 9007199254740992) rfl ((by rw [h5]; rfl : (.int .u64 ((M : Nat) : Int) : Value) = _)) (srx (mvx rfl (za rfl (kh (z := 4503599627370496) rfl rfl (by decide) (by kernel_rfl) (anx rfl (srx (mvx rfl (za rfl (yg rfl rfl (zo (by omega)) (anx rfl (zf ?_)))))))))));replace HF := HF.on E
            replace M1 := M1.step E XM1;replace M3 := M3.step E XM3;replace E := erx (Mut [(some ga)]) w36
            refine qd (ι := Bool) (fun g => [(0, .pointer (some ⟨ga, 0, none⟩)), (1, .pointer (some ⟨5, 0, none⟩)), (4, .int .u64 0), (5, .bool false), (6, .int .i64 (e3 + 1)), (7, .int .u64 4503599627370496), (172, .bool g)]) (fun g w' => Ext (Mut [(some ga)]) w36 w' ∧ Blk w' ga 125 (yz (vj t3 53)) ∧ (g = decide (1023 ≤ e3))) ?_ ?_
            ·
             have M37 := erx (Mut [(some ga)]) w36;have XM37 := grx (Mut [(some ga)]) w36;have OY : ∀ q9, (Mut (xq [])) q9 → q9 < (World.drew w36).heap.size → (Mut [(some ga)]) q9 := fun k h _ => (Mut.none_) k h;refine vu (Mut [(some ga)]) (Mut.grow Mut.none_ (yj Ba.lt)) [] [] (oz [Fx.of (.int .i64 (e3 + 1)),
              Fx.of (.pointer (some ⟨5, 0, none⟩)),
              Fx.of (.pointer (some ⟨5, 0, none⟩)),
              Fx.of (.pointer (some ⟨5, 2, none⟩)),
              Fx.of (.int .i64 (-1023)),
              Fx.of (.int .i64 ((e3 + 1) - (-1023))),
              Fx.of (.pointer (some ⟨5, 0, none⟩)),
              Fx.of (.pointer (some ⟨5, 0, none⟩)),
              Fx.of (.pointer (some ⟨5, 1, none⟩)),
              Fx.of (.int .u64 11),
              Fx.of (.int .i64 2048),
              Fx.of (.int .i64 2047),
              Fx.of (.bool (decide (1023 ≤ e3)))]) mixed rfl trivial (fun _ h => by cases h) ?_ ?_
             · refine ⟨?_, ?_, ?_, ?_, ?_, ?_, ?_, ?_, ?_, ?_, ?_, ?_, ?_, trivial⟩
               · intro vs X wq K;exact zq rfl ⟨Below.refl _ _, Left.of rfl⟩
               · intro vs X wq K;exact zq rfl ⟨Below.refl _ _, Left.of rfl⟩
               · intro vs X wq K;obtain ⟨_, e1, k1⟩ := K.dep 1 rfl rfl rfl;refine zh 161 (.pointer (some ⟨5, 0, none⟩)) rfl e1 ?_;exact zk rfl ⟨Below.refl _ _, Left.of rfl⟩
               · intro vs X wq K;obtain ⟨_, e2, k2⟩ := K.dep 2 rfl rfl rfl;refine zh 162 (.pointer (some ⟨5, 0, none⟩)) rfl e2 ?_;exact zb Tryd.underlying115 rfl sz3 (by decide) rfl ⟨Below.refl _ _, Left.of rfl⟩
               · intro vs X wq K;have LE := K.1;obtain ⟨_, e3, k3⟩ := K.dep 3 rfl rfl rfl;refine zh 163 (.pointer (some ⟨5, 2, none⟩)) rfl e3 ?_;exact yk Tryd.underlying3 rfl rfl (HF.on (E.drew.trans (LE.mono OY))).here.2 ⟨Below.refl _ _, Left.of rfl⟩
               · intro vs X wq K;obtain ⟨_, e0, k0⟩ := K.dep 0 rfl rfl rfl;refine zh 160 (.int .i64 (e3 + 1)) rfl e0 ?_;obtain ⟨_, e4, k4⟩ := K.dep 4 rfl rfl rfl;refine zh 164 (.int .i64 (-1023)) rfl e4 ?_;exact yw rfl rfl (zo (by omega)) ⟨Below.refl _ _, Left.of rfl⟩
               · intro vs X wq K;exact zq rfl ⟨Below.refl _ _, Left.of rfl⟩
               · intro vs X wq K;obtain ⟨_, e6, k6⟩ := K.dep 6 rfl rfl rfl;refine zh 166 (.pointer (some ⟨5, 0, none⟩)) rfl e6 ?_;exact zk rfl ⟨Below.refl _ _, Left.of rfl⟩
               · intro vs X wq K;obtain ⟨_, e7, k7⟩ := K.dep 7 rfl rfl rfl;refine zh 167 (.pointer (some ⟨5, 0, none⟩)) rfl e7 ?_;exact zb Tryd.underlying115 rfl ziq (by decide) rfl ⟨Below.refl _ _, Left.of rfl⟩
               · intro vs X wq K;have LE := K.1;obtain ⟨_, e8, k8⟩ := K.dep 8 rfl rfl rfl;refine zh 168 (.pointer (some ⟨5, 1, none⟩)) rfl e8 ?_;exact yk Tryd.underlying88 rfl rfl (HF.on (E.drew.trans (LE.mono OY))).here.1.2 ⟨Below.refl _ _, Left.of rfl⟩
               · intro vs X wq K;obtain ⟨_, e9, k9⟩ := K.dep 9 rfl rfl rfl;refine zh 169 (.int .u64 11) rfl e9 ?_;exact jl (z := 2048) rfl rfl (by decide) (by kernel_rfl) ⟨Below.refl _ _, Left.of rfl⟩
               · intro vs X wq K;obtain ⟨_, e10, k10⟩ := K.dep 10 rfl rfl rfl;refine zh 170 (.int .i64 2048) rfl e10 ?_;exact yw (z := 2047) rfl rfl (by kernel_rfl) ⟨Below.refl _ _, Left.of rfl⟩
               · intro vs X wq K;obtain ⟨_, e5, k5⟩ := K.dep 5 rfl rfl rfl;refine zh 165 (.int .i64 ((e3 + 1) - (-1023))) rfl e5 ?_;obtain ⟨_, e11, k11⟩ := K.dep 11 rfl rfl rfl;refine zh 171 (.int .i64 2047) rfl e11 ?_;exact vr rfl rfl ⟨Below.refl _ _, Left.of (kb (by omega))⟩
             intro vs w39 LE AO AL AF AA;have LBa := Ba;replace Ba := Ba.drew.extN LE NotIn.nil;replace E := E.drew.trans (LE.mono OY);obtain ⟨_, e12, k12⟩ := AL.2.2.2.2.2.2.2.2.2.2.2.2.1;refine je (τ := [(0, _), (1, _), (4, _), (5, _), (6, _), (7, _), (172, .bool (decide (1023 ≤ e3)))]) ⟨rfl, rfl, rfl, rfl, rfl, rfl, congrArg some e12, trivial⟩ ?_
             clear AL AF AA LE AO OY e12 k12 LBa;exact yp (decide (1023 ≤ e3)) ⟨rfl, rfl, rfl, rfl, rfl, rfl, rfl, trivial⟩ ⟨M37.step E XM37, (by exact Ba), rfl⟩
            ·
             have LTa := (yj Ba.lt);clear Ba;rintro g w38 ⟨M37, Ba, hg3⟩;replace E := E.trans M37;replace HF := HF.on E;replace M1 := M1.step E XM1;replace M3 := M3.step E XM3;replace E := erx (Mut [(some ga)]) w38;refine zt rfl (fun h6 => ?_) (fun h6 => ?_)
             ·
              rw [hg3] at h6;have h6 := of_decide_eq_true h6;rw [if_pos h6] at hfb;refine zcq (jq ?_);exact zcz rfl TLM3 (vj t3 53) ⟨rfl, rfl, trivial⟩ ⟨M3.step E XM3, (by exact Ba), hfb, hl5, hn5⟩
             ·
              rw [hg3] at h6;have h6 := of_decide_eq_false h6;rw [if_neg h6] at hfb;obtain ⟨Kx, hK⟩ : ∃ Kx, Kx = (e3 + 1 + 1023).toNat := ⟨_, rfl⟩;rw [← hK] at hfb
              refine zj (ze (zf (zf (zu 7 (.int .u64 ((4503599627370496 : Nat) : Int)) rfl (rfl) (zi (mvx rfl (mvx rfl (za rfl (zk rfl (za rfl (zb Tryd.underlying115 rfl ziq (by decide) rfl (za rfl (yk Tryd.underlying88 rfl rfl (HF.on E).here.1.1.2 (za rfl (jl (z := 4503599627370496) rfl rfl (by decide) (by kernel_rfl) (za rfl (vc rfl rfl (and_hi (m := 4503599627370496) (by decide)) (za rfl (ye rfl rfl (rnx (zu 180 (.bool false) rfl ((by rw [vy (by decide +kernel)] : (.bool (((4503599627370496 &&& 4503599627370496 : Nat) : Int) == 0) : Value) = _)) (zy rfl (zj (ze (zf (zcq (jq (yr 6 (.int .i64 (((Kx : Nat) : Int) - 1023)) rfl ((by congr 1; omega : (.int .i64 (e3 + 1) : Value) = _)) ?_))))))))))))))))))))))))))))
              exact zcz rfl TLM1 (4503599627370496, Kx, false, vj t3 53) ⟨rfl, rfl, rfl, rfl, rfl, trivial⟩ ⟨M1.step E XM1, (by exact Ba), hfb, by decide, by omega, hl5, hn5⟩
           ·
            have h5 : ¬ M = 9007199254740992 := fun e => absurd h5 (by rw [e]; decide);rw [if_neg h5] at hfb
            refine zj (ze (zf (srx (mvx rfl (mvx rfl (za rfl (zk rfl (za rfl (zb Tryd.underlying115 rfl ziq (by decide) rfl (za rfl (yk Tryd.underlying88 rfl rfl (HF.on E).here.1.1.2 (za rfl (jl (z := 4503599627370496) rfl rfl (by decide) (by kernel_rfl) (za rfl (vc rfl rfl (and_hi hM64) (za rfl (ye rfl rfl (rnx (zt rfl (fun h6 => ?_) (fun h6 => ?_))))))))))))))))))))
            ·
             have h6 : M &&& 4503599627370496 = 0 := by have h6 := eq_of_beq h6; omega
             rw [if_pos h6] at hfb;obtain ⟨Kx, hK⟩ : ∃ Kx : Nat, Kx = 0 := ⟨_, rfl⟩;rw [← hK] at hfb
             refine zi (mvx rfl (za rfl (zk rfl (za rfl (zb Tryd.underlying115 rfl sz3 (by decide) rfl (za rfl (yk Tryd.underlying3 rfl rfl (HF.on E).here.2 (anx rfl (zf (zcq (jq (yr 6 (.int .i64 (((Kx : Nat) : Int) - 1023)) rfl ((by rw [hK]; rfl : (.int .i64 (-1023) : Value) = _)) ?_))))))))))))
             exact zcz rfl TLM1 (M, Kx, false, vj t3 53) ⟨rfl, rfl, rfl, rfl, rfl, trivial⟩ ⟨M1.step E XM1, (by exact Ba), hfb, hM64, by omega, hl5, hn5⟩
            ·
             have h6 : ¬ M &&& 4503599627370496 = 0 := fun e => absurd h6 (by rw [e]; decide);rw [if_neg h6] at hfb;obtain ⟨Kx, hK⟩ : ∃ Kx, Kx = (e3 + 1023).toNat := ⟨_, rfl⟩;rw [← hK] at hfb;refine zj (ze (zf (zcq (jq (yr 6 (.int .i64 (((Kx : Nat) : Int) - 1023)) rfl ((by congr 1; omega : (.int .i64 e3 : Value) = _)) ?_)))))
             exact zcz rfl TLM1 (M, Kx, false, vj t3 53) ⟨rfl, rfl, rfl, rfl, rfl, trivial⟩ ⟨M1.step E XM1, (by exact Ba), hfb, hM64, by omega, hl5, hn5⟩
  ·
   have LTa := (yj Ba.lt);clear Ba;rintro u w4 ⟨M3, Ba, ⟨hfb, hl5, hn5⟩⟩;replace E := E.trans M3;replace HF := HF.on E;replace LW := LW.step E XLW;replace E := erx (Mut [(some ga)]) w4;refine zf (zj (ze (srx (anx rfl (zf ?_)))));have OY : ∀ q9, (Mut (xq [])) q9 → q9 < (World.drew w4).heap.size → (Mut [(some ga)]) q9 := fun k h _ => (Mut.none_) k h
   refine vu (Mut [(some ga)]) (Mut.grow Mut.none_ (yj Ba.lt)) [] [] (oz [Fx.of (.pointer (some ⟨5, 0, none⟩)),
    Fx.of (.pointer (some ⟨5, 0, none⟩)),
    Fx.of (.pointer (some ⟨5, 1, none⟩)),
    Fx.of (.int .u64 11),
    Fx.of (.int .i64 2048),
    Fx.of (.int .i64 2047),
    Fx.of (.pointer (some ⟨5, 0, none⟩)),
    Fx.of (.pointer (some ⟨5, 0, none⟩)),
    Fx.of (.pointer (some ⟨5, 2, none⟩)),
    Fx.of (.int .i64 (-1023)),
    Fx.of (.int .i64 1024),
    Fx.of (.int .i64 1024)]) mixed rfl trivial (fun _ h => by cases h) ?_ ?_
   · refine ⟨?_, ?_, ?_, ?_, ?_, ?_, ?_, ?_, ?_, ?_, ?_, ?_, trivial⟩
     · intro vs X wq K;exact zq rfl ⟨Below.refl _ _, Left.of rfl⟩
     · intro vs X wq K;obtain ⟨_, e0, k0⟩ := K.dep 0 rfl rfl rfl;refine zh 185 (.pointer (some ⟨5, 0, none⟩)) rfl e0 ?_;exact zk rfl ⟨Below.refl _ _, Left.of rfl⟩
     · intro vs X wq K;obtain ⟨_, e1, k1⟩ := K.dep 1 rfl rfl rfl;refine zh 186 (.pointer (some ⟨5, 0, none⟩)) rfl e1 ?_;exact zb Tryd.underlying115 rfl ziq (by decide) rfl ⟨Below.refl _ _, Left.of rfl⟩
     · intro vs X wq K;have LE := K.1;obtain ⟨_, e2, k2⟩ := K.dep 2 rfl rfl rfl;refine zh 187 (.pointer (some ⟨5, 1, none⟩)) rfl e2 ?_;exact yk Tryd.underlying88 rfl rfl (HF.on (E.drew.trans (LE.mono OY))).here.1.2 ⟨Below.refl _ _, Left.of rfl⟩
     · intro vs X wq K;obtain ⟨_, e3, k3⟩ := K.dep 3 rfl rfl rfl;refine zh 188 (.int .u64 11) rfl e3 ?_;exact jl (z := 2048) rfl rfl (by decide) (by kernel_rfl) ⟨Below.refl _ _, Left.of rfl⟩
     · intro vs X wq K;obtain ⟨_, e4, k4⟩ := K.dep 4 rfl rfl rfl;refine zh 189 (.int .i64 2048) rfl e4 ?_;exact yw (z := 2047) rfl rfl (by kernel_rfl) ⟨Below.refl _ _, Left.of rfl⟩
     · intro vs X wq K;exact zq rfl ⟨Below.refl _ _, Left.of rfl⟩
     · intro vs X wq K;obtain ⟨_, e6, k6⟩ := K.dep 6 rfl rfl rfl;refine zh 191 (.pointer (some ⟨5, 0, none⟩)) rfl e6 ?_;exact zk rfl ⟨Below.refl _ _, Left.of rfl⟩
     · intro vs X wq K;obtain ⟨_, e7, k7⟩ := K.dep 7 rfl rfl rfl;refine zh 192 (.pointer (some ⟨5, 0, none⟩)) rfl e7 ?_;exact zb Tryd.underlying115 rfl sz3 (by decide) rfl ⟨Below.refl _ _, Left.of rfl⟩
     · intro vs X wq K;have LE := K.1;obtain ⟨_, e8, k8⟩ := K.dep 8 rfl rfl rfl;refine zh 193 (.pointer (some ⟨5, 2, none⟩)) rfl e8 ?_;exact yk Tryd.underlying3 rfl rfl (HF.on (E.drew.trans (LE.mono OY))).here.2 ⟨Below.refl _ _, Left.of rfl⟩
     · intro vs X wq K;obtain ⟨_, e5, k5⟩ := K.dep 5 rfl rfl rfl;refine zh 190 (.int .i64 2047) rfl e5 ?_;obtain ⟨_, e9, k9⟩ := K.dep 9 rfl rfl rfl;refine zh 194 (.int .i64 (-1023)) rfl e9 ?_;exact yg (z := 1024) rfl rfl (by kernel_rfl) ⟨Below.refl _ _, Left.of rfl⟩
     · intro vs X wq K;obtain ⟨_, e10, k10⟩ := K.dep 10 rfl rfl rfl;refine zh 195 (.int .i64 1024) rfl e10 ?_;exact vq rfl ⟨Below.refl _ _, Left.of rfl⟩
   intro vs w40 LE AO AL AF AA;have LBa := Ba;replace Ba := Ba.drew.extN LE NotIn.nil;replace E := E.drew.trans (LE.mono OY);obtain ⟨_, e11, k11⟩ := AL.2.2.2.2.2.2.2.2.2.2.2.1;refine je (τ := [(0, _), (1, _), (6, .int .i64 1024), (7, _)]) ⟨rfl, rfl, congrArg some e11, rfl, trivial⟩ ?_;clear AL AF AA LE AO OY e11 k11 LBa
   refine ze (srx (anx rfl (zf (cw_label (ze (srx (mvx rfl (mvx rfl (za rfl (zk rfl (za rfl (zb Tryd.underlying115 rfl ziq (by decide) rfl (za rfl (yk Tryd.underlying88 rfl rfl (HF.on E).here.1.1.2 (za rfl (jl (z := 4503599627370496) rfl rfl (by decide) (by kernel_rfl) (za rfl (yw (z := 4503599627370495) rfl rfl (by kernel_rfl) (za rfl (vc (z := 0) rfl rfl (by kernel_rfl) (anx rfl (zf ?_))))))))))))))))))))))
   have OY : ∀ q9, (Mut (xq [])) q9 → q9 < (World.drew w40).heap.size → (Mut [(some ga)]) q9 := fun k h _ => (Mut.none_) k h;refine vu (Mut [(some ga)]) (Mut.grow Mut.none_ (yj Ba.lt)) [] [] (oz [Fx.of (.int .u64 0),
    Fx.of (.int .i64 1024),
    Fx.of (.pointer (some ⟨5, 0, none⟩)),
    Fx.of (.pointer (some ⟨5, 0, none⟩)),
    Fx.of (.pointer (some ⟨5, 2, none⟩)),
    Fx.of (.int .i64 (-1023)),
    Fx.of (.int .i64 2047),
    Fx.of (.pointer (some ⟨5, 0, none⟩)),
    Fx.of (.pointer (some ⟨5, 0, none⟩)),
    Fx.of (.pointer (some ⟨5, 1, none⟩)),
    Fx.of (.int .u64 11),
    Fx.of (.int .i64 2048),
    Fx.of (.int .i64 2047),
    Fx.of (.int .i64 2047),
    Fx.of (.int .u64 2047),
    Fx.of (.pointer (some ⟨5, 0, none⟩)),
    Fx.of (.pointer (some ⟨5, 0, none⟩)),
    Fx.of (.pointer (some ⟨5, 0, none⟩)),
    Fx.of (.int .u64 52),
    Fx.of (.int .u64 9218868437227405312),
    Fx.of (.int .u64 9218868437227405312),
    Fx.of (.int .u64 9218868437227405312)]) mixed rfl trivial (fun _ h => by cases h) ?_ ?_
   · refine ⟨?_, ?_, ?_, ?_, ?_, ?_, ?_, ?_, ?_, ?_, ?_, ?_, ?_, ?_, ?_, ?_, ?_, ?_, ?_, ?_, ?_, ?_, trivial⟩
     · intro vs X wq K;exact zq rfl ⟨Below.refl _ _, Left.of rfl⟩
     · intro vs X wq K;exact zq rfl ⟨Below.refl _ _, Left.of rfl⟩
     · intro vs X wq K;exact zq rfl ⟨Below.refl _ _, Left.of rfl⟩
     · intro vs X wq K;obtain ⟨_, e2, k2⟩ := K.dep 2 rfl rfl rfl;refine zh 206 (.pointer (some ⟨5, 0, none⟩)) rfl e2 ?_;exact zk rfl ⟨Below.refl _ _, Left.of rfl⟩
     · intro vs X wq K;obtain ⟨_, e3, k3⟩ := K.dep 3 rfl rfl rfl;refine zh 207 (.pointer (some ⟨5, 0, none⟩)) rfl e3 ?_;exact zb Tryd.underlying115 rfl sz3 (by decide) rfl ⟨Below.refl _ _, Left.of rfl⟩
     · intro vs X wq K;have LE := K.1;obtain ⟨_, e4, k4⟩ := K.dep 4 rfl rfl rfl;refine zh 208 (.pointer (some ⟨5, 2, none⟩)) rfl e4 ?_;exact yk Tryd.underlying3 rfl rfl (HF.on (E.drew.trans (LE.mono OY))).here.2 ⟨Below.refl _ _, Left.of rfl⟩
     · intro vs X wq K;obtain ⟨_, e1, k1⟩ := K.dep 1 rfl rfl rfl;refine zh 205 (.int .i64 1024) rfl e1 ?_;obtain ⟨_, e5, k5⟩ := K.dep 5 rfl rfl rfl;refine zh 209 (.int .i64 (-1023)) rfl e5 ?_;exact yw (z := 2047) rfl rfl (by kernel_rfl) ⟨Below.refl _ _, Left.of rfl⟩
     · intro vs X wq K;exact zq rfl ⟨Below.refl _ _, Left.of rfl⟩
     · intro vs X wq K;obtain ⟨_, e7, k7⟩ := K.dep 7 rfl rfl rfl;refine zh 211 (.pointer (some ⟨5, 0, none⟩)) rfl e7 ?_;exact zk rfl ⟨Below.refl _ _, Left.of rfl⟩
     · intro vs X wq K;obtain ⟨_, e8, k8⟩ := K.dep 8 rfl rfl rfl;refine zh 212 (.pointer (some ⟨5, 0, none⟩)) rfl e8 ?_;exact zb Tryd.underlying115 rfl ziq (by decide) rfl ⟨Below.refl _ _, Left.of rfl⟩
     · intro vs X wq K;have LE := K.1;obtain ⟨_, e9, k9⟩ := K.dep 9 rfl rfl rfl;refine zh 213 (.pointer (some ⟨5, 1, none⟩)) rfl e9 ?_;exact yk Tryd.underlying88 rfl rfl (HF.on (E.drew.trans (LE.mono OY))).here.1.2 ⟨Below.refl _ _, Left.of rfl⟩
     · intro vs X wq K;obtain ⟨_, e10, k10⟩ := K.dep 10 rfl rfl rfl;refine zh 214 (.int .u64 11) rfl e10 ?_;exact jl (z := 2048) rfl rfl (by decide) (by kernel_rfl) ⟨Below.refl _ _, Left.of rfl⟩
     · intro vs X wq K;obtain ⟨_, e11, k11⟩ := K.dep 11 rfl rfl rfl;refine zh 215 (.int .i64 2048) rfl e11 ?_;exact yw (z := 2047) rfl rfl (by kernel_rfl) ⟨Below.refl _ _, Left.of rfl⟩
     · intro vs X wq K;obtain ⟨_, e6, k6⟩ := K.dep 6 rfl rfl rfl;refine zh 210 (.int .i64 2047) rfl e6 ?_;obtain ⟨_, e12, k12⟩ := K.dep 12 rfl rfl rfl;refine zh 216 (.int .i64 2047) rfl e12 ?_;exact vc (z := 2047) rfl rfl (by kernel_rfl) ⟨Below.refl _ _, Left.of rfl⟩
     · intro vs X wq K;obtain ⟨_, e13, k13⟩ := K.dep 13 rfl rfl rfl;refine zh 217 (.int .i64 2047) rfl e13 ?_;exact ja (z := 2047) Tryd.underlying30 Tryd.underlying3 rfl (by kernel_rfl) ⟨Below.refl _ _, Left.of rfl⟩
     · intro vs X wq K;exact zq rfl ⟨Below.refl _ _, Left.of rfl⟩
     · intro vs X wq K;obtain ⟨_, e15, k15⟩ := K.dep 15 rfl rfl rfl;refine zh 219 (.pointer (some ⟨5, 0, none⟩)) rfl e15 ?_;exact zk rfl ⟨Below.refl _ _, Left.of rfl⟩
     · intro vs X wq K;obtain ⟨_, e16, k16⟩ := K.dep 16 rfl rfl rfl;refine zh 220 (.pointer (some ⟨5, 0, none⟩)) rfl e16 ?_;exact zb Tryd.underlying115 rfl ziq (by decide) rfl ⟨Below.refl _ _, Left.of rfl⟩
     · intro vs X wq K;have LE := K.1;obtain ⟨_, e17, k17⟩ := K.dep 17 rfl rfl rfl;refine zh 221 (.pointer (some ⟨5, 0, none⟩)) rfl e17 ?_;exact yk Tryd.underlying88 rfl rfl (HF.on (E.drew.trans (LE.mono OY))).here.1.1.2 ⟨Below.refl _ _, Left.of rfl⟩
     · intro vs X wq K;obtain ⟨_, e14, k14⟩ := K.dep 14 rfl rfl rfl;refine zh 218 (.int .u64 2047) rfl e14 ?_;obtain ⟨_, e18, k18⟩ := K.dep 18 rfl rfl rfl;refine zh 222 (.int .u64 52) rfl e18 ?_;exact jl (z := 9218868437227405312) rfl rfl (by decide) (by kernel_rfl) ⟨Below.refl _ _, Left.of rfl⟩
     · intro vs X wq K;obtain ⟨_, e0, k0⟩ := K.dep 0 rfl rfl rfl;refine zh 204 (.int .u64 0) rfl e0 ?_;obtain ⟨_, e19, k19⟩ := K.dep 19 rfl rfl rfl;refine zh 223 (.int .u64 9218868437227405312) rfl e19 ?_;exact kv (z := 9218868437227405312) rfl rfl (by kernel_rfl) ⟨Below.refl _ _, Left.of rfl⟩
     · intro vs X wq K;obtain ⟨_, e20, k20⟩ := K.dep 20 rfl rfl rfl;refine zh 224 (.int .u64 9218868437227405312) rfl e20 ?_;exact vq rfl ⟨Below.refl _ _, Left.of rfl⟩
   intro vs w41 LE AO AL AF AA;have LBa := Ba;replace Ba := Ba.drew.extN LE NotIn.nil;replace E := E.drew.trans (LE.mono OY);obtain ⟨_, e21, k21⟩ := AL.2.2.2.2.2.2.2.2.2.2.2.2.2.2.2.2.2.2.2.2.2.1;refine je (τ := [(0, _), (1, _), (5, _), (11, .int .u64 9218868437227405312)]) ⟨rfl, rfl, rfl, congrArg some e21, trivial⟩ ?_;clear AL AF AA LE AO OY e21 k21 LBa
   refine ze (zf (srx (mvx rfl (za rfl (zk rfl (za rfl (zb Tryd.underlying125 rfl sz4 (by decide) rfl (za rfl (zl Tryd.underlying4 rfl rfl Ba (ngAt hl5 t.neg hn5) (rnx (zt rfl (fun hng => ?_) (fun hng => ?_))))))))))))
   ·
    have OY : ∀ q9, (Mut (xq [])) q9 → q9 < (World.drew w41).heap.size → (Mut [(some ga)]) q9 := fun k h _ => (Mut.none_) k h;refine vu (Mut [(some ga)]) (Mut.grow Mut.none_ (yj Ba.lt)) [] [] (oz [Fx.of (.int .u64 9218868437227405312),
     Fx.of (.pointer (some ⟨5, 0, none⟩)),
     Fx.of (.pointer (some ⟨5, 0, none⟩)),
     Fx.of (.pointer (some ⟨5, 0, none⟩)),
     Fx.of (.int .u64 52),
     Fx.of (.int .u64 4503599627370496),
     Fx.of (.pointer (some ⟨5, 0, none⟩)),
     Fx.of (.pointer (some ⟨5, 0, none⟩)),
     Fx.of (.pointer (some ⟨5, 1, none⟩)),
     Fx.of (.int .u64 11),
     Fx.of (.int .u64 9223372036854775808),
     Fx.of (.int .u64 18442240474082181120),
     Fx.of (.int .u64 18442240474082181120)]) mixed rfl trivial (fun _ h => by cases h) ?_ ?_
    · refine ⟨?_, ?_, ?_, ?_, ?_, ?_, ?_, ?_, ?_, ?_, ?_, ?_, ?_, trivial⟩
      · intro vs X wq K;exact zq rfl ⟨Below.refl _ _, Left.of rfl⟩
      · intro vs X wq K;exact zq rfl ⟨Below.refl _ _, Left.of rfl⟩
      · intro vs X wq K;obtain ⟨_, e1, k1⟩ := K.dep 1 rfl rfl rfl;refine zh 230 (.pointer (some ⟨5, 0, none⟩)) rfl e1 ?_;exact zk rfl ⟨Below.refl _ _, Left.of rfl⟩
      · intro vs X wq K;obtain ⟨_, e2, k2⟩ := K.dep 2 rfl rfl rfl;refine zh 231 (.pointer (some ⟨5, 0, none⟩)) rfl e2 ?_;exact zb Tryd.underlying115 rfl ziq (by decide) rfl ⟨Below.refl _ _, Left.of rfl⟩
      · intro vs X wq K;have LE := K.1;obtain ⟨_, e3, k3⟩ := K.dep 3 rfl rfl rfl;refine zh 232 (.pointer (some ⟨5, 0, none⟩)) rfl e3 ?_;exact yk Tryd.underlying88 rfl rfl (HF.on (E.drew.trans (LE.mono OY))).here.1.1.2 ⟨Below.refl _ _, Left.of rfl⟩
      · intro vs X wq K;obtain ⟨_, e4, k4⟩ := K.dep 4 rfl rfl rfl;refine zh 233 (.int .u64 52) rfl e4 ?_;exact jl (z := 4503599627370496) rfl rfl (by decide) (by kernel_rfl) ⟨Below.refl _ _, Left.of rfl⟩
      · intro vs X wq K;exact zq rfl ⟨Below.refl _ _, Left.of rfl⟩
      · intro vs X wq K;obtain ⟨_, e6, k6⟩ := K.dep 6 rfl rfl rfl;refine zh 235 (.pointer (some ⟨5, 0, none⟩)) rfl e6 ?_;exact zk rfl ⟨Below.refl _ _, Left.of rfl⟩
      · intro vs X wq K;obtain ⟨_, e7, k7⟩ := K.dep 7 rfl rfl rfl;refine zh 236 (.pointer (some ⟨5, 0, none⟩)) rfl e7 ?_;exact zb Tryd.underlying115 rfl ziq (by decide) rfl ⟨Below.refl _ _, Left.of rfl⟩
      · intro vs X wq K;have LE := K.1;obtain ⟨_, e8, k8⟩ := K.dep 8 rfl rfl rfl;refine zh 237 (.pointer (some ⟨5, 1, none⟩)) rfl e8 ?_;exact yk Tryd.underlying88 rfl rfl (HF.on (E.drew.trans (LE.mono OY))).here.1.2 ⟨Below.refl _ _, Left.of rfl⟩
      · intro vs X wq K;obtain ⟨_, e5, k5⟩ := K.dep 5 rfl rfl rfl;refine zh 234 (.int .u64 4503599627370496) rfl e5 ?_;obtain ⟨_, e9, k9⟩ := K.dep 9 rfl rfl rfl;refine zh 238 (.int .u64 11) rfl e9 ?_;exact jl (z := 9223372036854775808) rfl rfl (by decide) (by kernel_rfl) ⟨Below.refl _ _, Left.of rfl⟩
      · intro vs X wq K;obtain ⟨_, e0, k0⟩ := K.dep 0 rfl rfl rfl;refine zh 229 (.int .u64 9218868437227405312) rfl e0 ?_;obtain ⟨_, e10, k10⟩ := K.dep 10 rfl rfl rfl;refine zh 239 (.int .u64 9223372036854775808) rfl e10 ?_;exact kv (z := 18442240474082181120) rfl rfl (by kernel_rfl) ⟨Below.refl _ _, Left.of rfl⟩
      · intro vs X wq K;obtain ⟨_, e11, k11⟩ := K.dep 11 rfl rfl rfl;refine zh 240 (.int .u64 18442240474082181120) rfl e11 ?_;exact vq rfl ⟨Below.refl _ _, Left.of rfl⟩
    intro vs w42 LE AO AL AF AA;have LBa := Ba;replace Ba := Ba.drew.extN LE NotIn.nil;replace E := E.drew.trans (LE.mono OY);obtain ⟨_, e12, k12⟩ := AL.2.2.2.2.2.2.2.2.2.2.2.2.1;refine je (τ := [(5, _), (11, .int .u64 18442240474082181120)]) ⟨rfl, congrArg some e12, trivial⟩ ?_;clear AL AF AA LE AO OY e12 k12 LBa
    refine ze (srx (mvx rfl (mvx rfl (avx rfl (anx rfl (zr (jr ?_)))))));have e : zaq t = 18442240474082181120 := by unfold zaq; rw [hfb, hng]; decide +kernel
    refine zp (rs := [.tmp 4, .tmp 5]) (vs := [_, _]) rfl ⟨rfl, rfl, trivial⟩ ?_;exact ⟨by rw [e, hfb]; rfl, ⟨_, Ba⟩, (LW.step E XLW)⟩
   ·
    refine zj (ze (srx (mvx rfl (mvx rfl (avx rfl (anx rfl (zr (jr ?_))))))));have e : zaq t = 9218868437227405312 := by unfold zaq; rw [hfb, hng]; decide +kernel
    refine zp (rs := [.tmp 4, .tmp 5]) (vs := [_, _]) rfl ⟨rfl, rfl, trivial⟩ ?_;exact ⟨by rw [e, hfb]; rfl, ⟨_, Ba⟩, (LW.step E XLW)⟩
 ·
  have LTa := (yj Ba.lt);clear Ba;rintro ⟨m, k, ov, u⟩ w2 ⟨M1, Ba, ⟨hfb, hmm, hee, hl5, hn5⟩⟩;replace E := E.trans M1;replace HF := HF.on E;replace LW := LW.step E XLW;replace E := erx (Mut [(some ga)]) w2
  refine zf (zj (ze (srx (mvx rfl (mvx rfl (za rfl (zk rfl (za rfl (zb Tryd.underlying115 rfl ziq (by decide) rfl (za rfl (yk Tryd.underlying88 rfl rfl (HF.on E).here.1.1.2 (za rfl (jl (z := 4503599627370496) rfl rfl (by decide) (by kernel_rfl) (za rfl (yw (z := 4503599627370495) rfl rfl (by kernel_rfl) (za rfl (vc rfl rfl (and_lo hmm) (anx rfl (zf ?_)))))))))))))))))))
  have OY : ∀ q9, (Mut (xq [])) q9 → q9 < (World.drew w2).heap.size → (Mut [(some ga)]) q9 := fun k h _ => (Mut.none_) k h;refine vu (Mut [(some ga)]) (Mut.grow Mut.none_ (yj Ba.lt)) [] [] (oz [Fx.of (.int .u64 ((m &&& 4503599627370495 : Nat) : Int)),
   Fx.of (.int .i64 (((k : Nat) : Int) - 1023)),
   Fx.of (.pointer (some ⟨5, 0, none⟩)),
   Fx.of (.pointer (some ⟨5, 0, none⟩)),
   Fx.of (.pointer (some ⟨5, 2, none⟩)),
   Fx.of (.int .i64 (-1023)),
   Fx.of (.int .i64 ((k : Nat) : Int)),
   Fx.of (.pointer (some ⟨5, 0, none⟩)),
   Fx.of (.pointer (some ⟨5, 0, none⟩)),
   Fx.of (.pointer (some ⟨5, 1, none⟩)),
   Fx.of (.int .u64 11),
   Fx.of (.int .i64 2048),
   Fx.of (.int .i64 2047),
   Fx.of (.int .i64 ((k : Nat) : Int)),
   Fx.of (.int .u64 ((k : Nat) : Int)),
   Fx.of (.pointer (some ⟨5, 0, none⟩)),
   Fx.of (.pointer (some ⟨5, 0, none⟩)),
   Fx.of (.pointer (some ⟨5, 0, none⟩)),
   Fx.of (.int .u64 52),
   Fx.of (.int .u64 ((k * 4503599627370496 : Nat) : Int)),
   Fx.of (.int .u64 ((xd m k : Nat) : Int)),
   Fx.of (.int .u64 ((xd m k : Nat) : Int))]) mixed rfl trivial (fun _ h => by cases h) ?_ ?_
  · refine ⟨?_, ?_, ?_, ?_, ?_, ?_, ?_, ?_, ?_, ?_, ?_, ?_, ?_, ?_, ?_, ?_, ?_, ?_, ?_, ?_, ?_, ?_, trivial⟩
    · intro vs X wq K;exact zq rfl ⟨Below.refl _ _, Left.of rfl⟩
    · intro vs X wq K;exact zq rfl ⟨Below.refl _ _, Left.of rfl⟩
    · intro vs X wq K;exact zq rfl ⟨Below.refl _ _, Left.of rfl⟩
    · intro vs X wq K;obtain ⟨_, e2, k2⟩ := K.dep 2 rfl rfl rfl;refine zh 206 (.pointer (some ⟨5, 0, none⟩)) rfl e2 ?_;exact zk rfl ⟨Below.refl _ _, Left.of rfl⟩
    · intro vs X wq K;obtain ⟨_, e3, k3⟩ := K.dep 3 rfl rfl rfl;refine zh 207 (.pointer (some ⟨5, 0, none⟩)) rfl e3 ?_;exact zb Tryd.underlying115 rfl sz3 (by decide) rfl ⟨Below.refl _ _, Left.of rfl⟩
    · intro vs X wq K;have LE := K.1;obtain ⟨_, e4, k4⟩ := K.dep 4 rfl rfl rfl;refine zh 208 (.pointer (some ⟨5, 2, none⟩)) rfl e4 ?_;exact yk Tryd.underlying3 rfl rfl (HF.on (E.drew.trans (LE.mono OY))).here.2 ⟨Below.refl _ _, Left.of rfl⟩
    · intro vs X wq K;obtain ⟨_, e1, k1⟩ := K.dep 1 rfl rfl rfl;refine zh 205 (.int .i64 (((k : Nat) : Int) - 1023)) rfl e1 ?_;obtain ⟨_, e5, k5⟩ := K.dep 5 rfl rfl rfl;refine zh 209 (.int .i64 (-1023)) rfl e5 ?_;exact yw rfl rfl (zo (by omega)) ⟨Below.refl _ _, Left.of ((by congr 1; omega : (.int .i64 ((((k : Nat) : Int) - 1023) - (-1023)) : Value) = _))⟩
    · intro vs X wq K;exact zq rfl ⟨Below.refl _ _, Left.of rfl⟩
    · intro vs X wq K;obtain ⟨_, e7, k7⟩ := K.dep 7 rfl rfl rfl;refine zh 211 (.pointer (some ⟨5, 0, none⟩)) rfl e7 ?_;exact zk rfl ⟨Below.refl _ _, Left.of rfl⟩
    · intro vs X wq K;obtain ⟨_, e8, k8⟩ := K.dep 8 rfl rfl rfl;refine zh 212 (.pointer (some ⟨5, 0, none⟩)) rfl e8 ?_;exact zb Tryd.underlying115 rfl ziq (by decide) rfl ⟨Below.refl _ _, Left.of rfl⟩
    · intro vs X wq K;have LE := K.1;obtain ⟨_, e9, k9⟩ := K.dep 9 rfl rfl rfl;refine zh 213 (.pointer (some ⟨5, 1, none⟩)) rfl e9 ?_;exact yk Tryd.underlying88 rfl rfl (HF.on (E.drew.trans (LE.mono OY))).here.1.2 ⟨Below.refl _ _, Left.of rfl⟩
    · intro vs X wq K;obtain ⟨_, e10, k10⟩ := K.dep 10 rfl rfl rfl;refine zh 214 (.int .u64 11) rfl e10 ?_;exact jl (z := 2048) rfl rfl (by decide) (by kernel_rfl) ⟨Below.refl _ _, Left.of rfl⟩
    · intro vs X wq K;obtain ⟨_, e11, k11⟩ := K.dep 11 rfl rfl rfl;refine zh 215 (.int .i64 2048) rfl e11 ?_;exact yw (z := 2047) rfl rfl (by kernel_rfl) ⟨Below.refl _ _, Left.of rfl⟩
    · intro vs X wq K;obtain ⟨_, e6, k6⟩ := K.dep 6 rfl rfl rfl;refine zh 210 (.int .i64 ((k : Nat) : Int)) rfl e6 ?_;obtain ⟨_, e12, k12⟩ := K.dep 12 rfl rfl rfl;refine zh 216 (.int .i64 2047) rfl e12 ?_;exact vc rfl rfl (and_i2047 hee) ⟨Below.refl _ _, Left.of rfl⟩
    · intro vs X wq K;obtain ⟨_, e13, k13⟩ := K.dep 13 rfl rfl rfl;refine zh 217 (.int .i64 ((k : Nat) : Int)) rfl e13 ?_;exact ja Tryd.underlying30 Tryd.underlying3 rfl (wrap_u64 (by omega)) ⟨Below.refl _ _, Left.of rfl⟩
    · intro vs X wq K;exact zq rfl ⟨Below.refl _ _, Left.of rfl⟩
    · intro vs X wq K;obtain ⟨_, e15, k15⟩ := K.dep 15 rfl rfl rfl;refine zh 219 (.pointer (some ⟨5, 0, none⟩)) rfl e15 ?_;exact zk rfl ⟨Below.refl _ _, Left.of rfl⟩
    · intro vs X wq K;obtain ⟨_, e16, k16⟩ := K.dep 16 rfl rfl rfl;refine zh 220 (.pointer (some ⟨5, 0, none⟩)) rfl e16 ?_;exact zb Tryd.underlying115 rfl ziq (by decide) rfl ⟨Below.refl _ _, Left.of rfl⟩
    · intro vs X wq K;have LE := K.1;obtain ⟨_, e17, k17⟩ := K.dep 17 rfl rfl rfl;refine zh 221 (.pointer (some ⟨5, 0, none⟩)) rfl e17 ?_;exact yk Tryd.underlying88 rfl rfl (HF.on (E.drew.trans (LE.mono OY))).here.1.1.2 ⟨Below.refl _ _, Left.of rfl⟩
    · intro vs X wq K;obtain ⟨_, e14, k14⟩ := K.dep 14 rfl rfl rfl;refine zh 218 (.int .u64 ((k : Nat) : Int)) rfl e14 ?_;obtain ⟨_, e18, k18⟩ := K.dep 18 rfl rfl rfl;refine zh 222 (.int .u64 52) rfl e18 ?_;exact jl rfl rfl (by decide) (shl_52 hee) ⟨Below.refl _ _, Left.of rfl⟩
    · intro vs X wq K;obtain ⟨_, e0, k0⟩ := K.dep 0 rfl rfl rfl;refine zh 204 (.int .u64 ((m &&& 4503599627370495 : Nat) : Int)) rfl e0 ?_;obtain ⟨_, e19, k19⟩ := K.dep 19 rfl rfl rfl;refine zh 223 (.int .u64 ((k * 4503599627370496 : Nat) : Int)) rfl e19 ?_;exact kv rfl rfl (slowC_or hee) ⟨Below.refl _ _, Left.of rfl⟩
    · intro vs X wq K;obtain ⟨_, e20, k20⟩ := K.dep 20 rfl rfl rfl;refine zh 224 (.int .u64 ((xd m k : Nat) : Int)) rfl e20 ?_;exact vq rfl ⟨Below.refl _ _, Left.of rfl⟩
  intro vs w43 LE AO AL AF AA;have LBa := Ba;replace Ba := Ba.drew.extN LE NotIn.nil;replace E := E.drew.trans (LE.mono OY);obtain ⟨_, e21, k21⟩ := AL.2.2.2.2.2.2.2.2.2.2.2.2.2.2.2.2.2.2.2.2.2.1;refine je (τ := [(0, _), (1, _), (5, _), (11, .int .u64 ((xd m k : Nat) : Int))]) ⟨rfl, rfl, rfl, congrArg some e21, trivial⟩ ?_;clear AL AF AA LE AO OY e21 k21 LBa
  refine ze (zf (srx (mvx rfl (za rfl (zk rfl (za rfl (zb Tryd.underlying125 rfl sz4 (by decide) rfl (za rfl (zl Tryd.underlying4 rfl rfl Ba (ngAt hl5 t.neg hn5) (rnx (zt rfl (fun hng => ?_) (fun hng => ?_))))))))))))
  ·
   have OY : ∀ q9, (Mut (xq [])) q9 → q9 < (World.drew w43).heap.size → (Mut [(some ga)]) q9 := fun k h _ => (Mut.none_) k h;refine vu (Mut [(some ga)]) (Mut.grow Mut.none_ (yj Ba.lt)) [] [] (oz [Fx.of (.int .u64 ((xd m k : Nat) : Int)),
    Fx.of (.pointer (some ⟨5, 0, none⟩)),
    Fx.of (.pointer (some ⟨5, 0, none⟩)),
    Fx.of (.pointer (some ⟨5, 0, none⟩)),
    Fx.of (.int .u64 52),
    Fx.of (.int .u64 4503599627370496),
    Fx.of (.pointer (some ⟨5, 0, none⟩)),
    Fx.of (.pointer (some ⟨5, 0, none⟩)),
    Fx.of (.pointer (some ⟨5, 1, none⟩)),
    Fx.of (.int .u64 11),
    Fx.of (.int .u64 9223372036854775808),
    Fx.of (.int .u64 ((xd m k ||| 9223372036854775808 : Nat) : Int)),
    Fx.of (.int .u64 ((xd m k ||| 9223372036854775808 : Nat) : Int))]) mixed rfl trivial (fun _ h => by cases h) ?_ ?_
   · refine ⟨?_, ?_, ?_, ?_, ?_, ?_, ?_, ?_, ?_, ?_, ?_, ?_, ?_, trivial⟩
     · intro vs X wq K;exact zq rfl ⟨Below.refl _ _, Left.of rfl⟩
     · intro vs X wq K;exact zq rfl ⟨Below.refl _ _, Left.of rfl⟩
     · intro vs X wq K;obtain ⟨_, e1, k1⟩ := K.dep 1 rfl rfl rfl;refine zh 230 (.pointer (some ⟨5, 0, none⟩)) rfl e1 ?_;exact zk rfl ⟨Below.refl _ _, Left.of rfl⟩
     · intro vs X wq K;obtain ⟨_, e2, k2⟩ := K.dep 2 rfl rfl rfl;refine zh 231 (.pointer (some ⟨5, 0, none⟩)) rfl e2 ?_;exact zb Tryd.underlying115 rfl ziq (by decide) rfl ⟨Below.refl _ _, Left.of rfl⟩
     · intro vs X wq K;have LE := K.1;obtain ⟨_, e3, k3⟩ := K.dep 3 rfl rfl rfl;refine zh 232 (.pointer (some ⟨5, 0, none⟩)) rfl e3 ?_;exact yk Tryd.underlying88 rfl rfl (HF.on (E.drew.trans (LE.mono OY))).here.1.1.2 ⟨Below.refl _ _, Left.of rfl⟩
     · intro vs X wq K;obtain ⟨_, e4, k4⟩ := K.dep 4 rfl rfl rfl;refine zh 233 (.int .u64 52) rfl e4 ?_;exact jl (z := 4503599627370496) rfl rfl (by decide) (by kernel_rfl) ⟨Below.refl _ _, Left.of rfl⟩
     · intro vs X wq K;exact zq rfl ⟨Below.refl _ _, Left.of rfl⟩
     · intro vs X wq K;obtain ⟨_, e6, k6⟩ := K.dep 6 rfl rfl rfl;refine zh 235 (.pointer (some ⟨5, 0, none⟩)) rfl e6 ?_;exact zk rfl ⟨Below.refl _ _, Left.of rfl⟩
     · intro vs X wq K;obtain ⟨_, e7, k7⟩ := K.dep 7 rfl rfl rfl;refine zh 236 (.pointer (some ⟨5, 0, none⟩)) rfl e7 ?_;exact zb Tryd.underlying115 rfl ziq (by decide) rfl ⟨Below.refl _ _, Left.of rfl⟩
     · intro vs X wq K;have LE := K.1;obtain ⟨_, e8, k8⟩ := K.dep 8 rfl rfl rfl;refine zh 237 (.pointer (some ⟨5, 1, none⟩)) rfl e8 ?_;exact yk Tryd.underlying88 rfl rfl (HF.on (E.drew.trans (LE.mono OY))).here.1.2 ⟨Below.refl _ _, Left.of rfl⟩
     · intro vs X wq K;obtain ⟨_, e5, k5⟩ := K.dep 5 rfl rfl rfl;refine zh 234 (.int .u64 4503599627370496) rfl e5 ?_;obtain ⟨_, e9, k9⟩ := K.dep 9 rfl rfl rfl;refine zh 238 (.int .u64 11) rfl e9 ?_;exact jl (z := 9223372036854775808) rfl rfl (by decide) (by kernel_rfl) ⟨Below.refl _ _, Left.of rfl⟩
     · intro vs X wq K;obtain ⟨_, e0, k0⟩ := K.dep 0 rfl rfl rfl;refine zh 229 (.int .u64 ((xd m k : Nat) : Int)) rfl e0 ?_;obtain ⟨_, e10, k10⟩ := K.dep 10 rfl rfl rfl;refine zh 239 (.int .u64 9223372036854775808) rfl e10 ?_;exact kv rfl rfl (slowC_neg hee) ⟨Below.refl _ _, Left.of rfl⟩
     · intro vs X wq K;obtain ⟨_, e11, k11⟩ := K.dep 11 rfl rfl rfl;refine zh 240 (.int .u64 ((xd m k ||| 9223372036854775808 : Nat) : Int)) rfl e11 ?_;exact vq rfl ⟨Below.refl _ _, Left.of rfl⟩
   intro vs w44 LE AO AL AF AA;have LBa := Ba;replace Ba := Ba.drew.extN LE NotIn.nil;replace E := E.drew.trans (LE.mono OY);obtain ⟨_, e12, k12⟩ := AL.2.2.2.2.2.2.2.2.2.2.2.2.1;refine je (τ := [(5, _), (11, .int .u64 ((xd m k ||| 9223372036854775808 : Nat) : Int))]) ⟨rfl, congrArg some e12, trivial⟩ ?_;clear AL AF AA LE AO OY e12 k12 LBa
   refine ze (srx (mvx rfl (mvx rfl (avx rfl (anx rfl (zr (jr ?_)))))));have e : zaq t = xd m k ||| 9223372036854775808 := by unfold zaq slowB xd; rw [hfb, if_pos hng]
   refine zp (rs := [.tmp 4, .tmp 5]) (vs := [_, _]) rfl ⟨rfl, rfl, trivial⟩ ?_;exact ⟨by rw [e, hfb]; rfl, ⟨_, Ba⟩, (LW.step E XLW)⟩
  ·
   refine zj (ze (srx (mvx rfl (mvx rfl (avx rfl (anx rfl (zr (jr ?_))))))));have e : zaq t = xd m k := by unfold zaq slowB xd; rw [hfb, if_neg (by rw [hng]; decide)]
   refine zp (rs := [.tmp 4, .tmp 5]) (vs := [_, _]) rfl ⟨rfl, rfl, trivial⟩ ?_;exact ⟨by rw [e, hfb]; rfl, ⟨_, Ba⟩, (LW.step E XLW)⟩
end
end Go.Proofs.YtmjbnhjgebjhlaaDoor
namespace Go.Proofs.YtmjbnhjgebjhlaaDoor
open Go.RowKit
set_option maxRecDepth 100000
attribute [local irreducible] OW RS
theorem putIn {s : ByteArray} {a : StS} (h1 : bAt s a.i ≠ 46) (h2 : ¬ (bAt s a.i = 48 ∧ a.t.nd = 0)) (h3 : a.t.nd < 800) : jx s a = { a with i := a.i + 1, dig := true, t := { a.t with d := a.t.d.set a.t.nd (bAt s a.i), nd := a.t.nd + 1 } } := by
 unfold jx; rw [if_neg h1, if_neg h2, if_pos h3]
theorem putOut {s : ByteArray} {a : StS} (h1 : bAt s a.i ≠ 46) (h2 : ¬ (bAt s a.i = 48 ∧ a.t.nd = 0)) (h3 : ¬ a.t.nd < 800) : jx s a = { a with i := a.i + 1, dig := true, t := { a.t with tr := if bAt s a.i ≠ 48 then true else a.t.tr } } := by
 unfold jx; rw [if_neg h1, if_neg h2, if_neg h3]
theorem pt39_1 : Gives 39 #[.int .u8 101] (.int .u8 101) := by
 intro w;refine yl Tryd.func39 rfl Tryd.ntmps39 rfl ?_;have LW := erx (No) w;have XLW := grx (No) w;have E := erx (No) w;refine srx (anx rfl (srx (mvx rfl (za rfl (kv (z := 101) rfl rfl (by kernel_rfl) (anx rfl (zr (zp (rs := [.tmp 2]) (vs := [.int .u8 101]) rfl ⟨rfl, trivial⟩ ?_))))))));exact ⟨rfl, (LW.step E XLW).toBelow⟩
section
variable (w : World)
theorem set_any (ga : Nat) (s : ByteArray) (f : Nat) (neg : Bool) {p Z q : Nat} (hsg : SgnAt s f neg) (hs : Nm s f p Z q) (hl : s.size < 100000) (hB : Blk w ga 125 (yz (zhq false))) :
 Calls Tryd.prog 60 #[.pointer (some ⟨ga, 0, none⟩), .string s] w fun e w' => e = .returned (.bool true) ∧ Blk w' ga 125 (yz (setD s f neg)) ∧ Ext (Mut [some ga]) w w' := by
 have hfs : f < s.size := hs.size;have hfd := hs.first;have hl0 : (zhq false).d.length = 800 := (dec0_ok false).len;refine yl Tryd.func60 rfl Tryd.ntmps60 rfl ?_;have Ba := hB;have LW := erx (Mut [(some ga)]) w;have XLW := grx (Mut [(some ga)]) w;have E := erx (Mut [(some ga)]) w
 refine srx (anx rfl (srx (anx rfl (srx (mvx rfl (za rfl (zk rfl (za rfl (zb Tryd.underlying125 rfl sz4 (by decide) rfl (qf (qi sz4 rfl rfl Ba rfl rfl (in_ hl0 (by decide : 802 < 804)) (set_neg hl0 false) ?_)))))))))));intro w1 Bx Ea;replace Ba : Blk w1 ga 125 (yz (zhq false)) := Bx;replace E := E.step1 Ea Mut.head
 refine rnx (srx (mvx rfl (za rfl (zk rfl (za rfl (zb Tryd.underlying125 rfl sz4 (by decide) rfl (qf (qi sz4 rfl rfl Ba rfl rfl (in_ hl0 (by decide : 803 < 804)) (ybz hl0 false) ?_))))))));intro w2 Bx Ea;replace Ba : Blk w2 ga 125 (yz (zhq false)) := Bx;replace E := E.step1 Ea Mut.head
 refine rnx (zf (srx (mvx rfl (mvx rfl (za rfl (qc Tryd.underlying9 rfl (za rfl (vr rfl rfl (rnx (zu 19 (.bool false) rfl ((by rw [decide_eq_false (by omega)] : (.bool (decide (((s.size : Nat) : Int) ≤ 0)) : Value) = _)) (zy rfl (zj (ze (zf (srx (mvx rfl (mvx rfl (za rfl (yh (j := 0) (b := bAt s 0) Tryd.underlying9 rfl rfl rfl (yu (by omega)) (rnx ?_))))))))))))))))))))
 replace LW := LW.step E XLW;replace E := erx (Mut [(some ga)]) w2;refine qd (ι := Unit) (fun _ => [(0, .pointer (some ⟨ga, 0, none⟩)), (1, .string s), (4, .bool false), (5, .int .i64 ((f : Nat) : Int))]) (fun _ w' => Ext (Mut [(some ga)]) w2 w' ∧ Blk w' ga 125 (yz (zhq neg)) ∧ (True)) ?_ ?_
 ·
  have M3 := erx (Mut [(some ga)]) w2;have XM3 := grx (Mut [(some ga)]) w2;refine zx (srx (za rfl (ye rfl rfl (anx rfl ?_))));by_cases hneg : neg = true
  ·
   obtain ⟨hf1, h45⟩ := hsg.neg hneg
   refine zu 23 (.bool false) rfl ((by rw [h45]; rfl : (.bool (((bAt s 0 : Nat) : Int) == 43) : Value) = _)) (zy rfl (srx (za rfl (ye rfl rfl (anx rfl (zu 27 (.bool true) rfl ((by rw [h45]; rfl : (.bool (((bAt s 0 : Nat) : Int) == 45) : Value) = _)) (yi rfl (srx (mvx rfl (za rfl (yg (z := 1) rfl rfl (by kernel_rfl) (anx rfl (zi (mvx rfl (za rfl (zk rfl (za rfl (zb Tryd.underlying125 rfl sz4 (by decide) rfl (qf (qi sz4 rfl rfl Ba rfl rfl (in_ hl0 (by decide : 802 < 804)) (set_neg hl0 true) ?_))))))))))))))))))))
   intro w5 Bx Ea;replace Ba : Blk w5 ga 125 (yz (zhq true)) := Bx;replace E := E.step1 Ea Mut.head;refine yf (zm (yr 5 (.int .i64 ((f : Nat) : Int)) rfl ((by rw [hf1]; rfl : (.int .i64 1 : Value) = _)) ?_));replace Ba : Blk w5 ga 125 (yz (zhq neg)) := by rw [hneg]; exact Ba
   exact yp () ⟨rfl, rfl, rfl, rfl, trivial⟩ ⟨M3.step E XM3, (by exact Ba), trivial⟩
  ·
   have hf0 := hsg.pos hneg;rw [hf0] at hfd
   refine zu 23 (.bool false) rfl ((by rw [vy (by omega)] : (.bool (((bAt s 0 : Nat) : Int) == 43) : Value) = _)) (zy rfl (srx (za rfl (ye rfl rfl (anx rfl (zu 27 (.bool false) rfl ((by rw [vy (by omega)] : (.bool (((bAt s 0 : Nat) : Int) == 45) : Value) = _)) (zy rfl (zj (zm (yr 5 (.int .i64 ((f : Nat) : Int)) rfl ((by rw [hf0]; rfl : (.int .i64 0 : Value) = _)) ?_))))))))))
   replace Ba : Blk w2 ga 125 (yz (zhq neg)) := by rw [Bool.eq_false_iff.2 hneg]; exact Ba
   exact yp () ⟨rfl, rfl, rfl, rfl, trivial⟩ ⟨M3.step E XM3, (by exact Ba), trivial⟩
 ·
  have LTa := (yj Ba.lt);clear Ba;rintro _ w4 ⟨M3, Ba, _⟩;replace E := E.trans M3;replace LW := LW.step E XLW;replace E := erx (Mut [(some ga)]) w4;refine srx (anx rfl (srx (anx rfl (zf ?_))));replace LW := LW.step E XLW;replace E := erx (Mut [(some ga)]) w4
  refine qd (ι := StS) (fun x => [(0, .pointer (some ⟨ga, 0, none⟩)), (1, .string s), (4, .bool false), (5, .int .i64 ((x.i : Nat) : Int)), (6, .bool x.dot), (7, .bool x.dig)]) (fun x w' => Ext (Mut [(some ga)]) w4 w' ∧ Blk w' ga 125 (yz x.t) ∧ (x = stA s f neg)) ?_ ?_
  ·
   have M6 := erx (Mut [(some ga)]) w4;have XM6 := grx (Mut [(some ga)]) w4;refine zx ?_;replace M6 := M6.step E XM6;replace E := erx (Mut [(some ga)]) w4
   refine qk (ι := StS) (fun x => [(0, .pointer (some ⟨ga, 0, none⟩)), (1, .string s), (4, .bool false), (5, .int .i64 ((x.i : Nat) : Int)), (6, .bool x.dot), (7, .bool x.dig)]) (fun x w' => Ext (Mut [(some ga)]) w4 w' ∧ Blk w' ga 125 (yz x.t) ∧ (StN s f p Z q x ∧ qv (xf s) (jx s) x = stA s f neg)) (fun x => Z - x.i) (⟨f, false, false, zhq neg⟩) ⟨rfl, rfl, rfl, rfl, rfl, rfl, trivial⟩ ⟨Ext.refl _ _, (by exact Ba), yav neg hs, rfl⟩ ?_
   have LTa := (yj Ba.lt);clear Ba;rintro x w9 ⟨M8, Ba, ⟨hI, hu⟩⟩;have XM8 : Gro (Mut [(some ga)]) (Mut [(some ga)]) w4 := (Mut.grow Mut.none_ (fun k e => Or.inl (Mut.head k e)));replace E := E.trans M8;replace M6 := M6.step E XM6;replace E := erx (Mut [(some ga)]) w9;have hlx := hI.dec.len;have hnx := hI.dec.hn;have hsE := hs.hE;have hiE := hI.iE;have hfi := hI.fi;have hpp := hI.hp
   refine zf (srx (mvx rfl (mvx rfl (za rfl (qc Tryd.underlying9 rfl (za rfl (yt rfl rfl (rnx (zt rfl (fun h1 => ?_) (fun h1 => ?_))))))))))
   ·
    have h1 : x.i < s.size := by have h1 := of_decide_eq_true h1; omega
    refine zj (ze (zf (zx (zf (zx (srx (mvx rfl (mvx rfl (za rfl (yh (j := x.i) (b := bAt s (x.i)) Tryd.underlying9 rfl rfl rfl (yu (by omega)) ?_))))))))));by_cases hE2 : x.i < Z
    ·
     have hdone := stN_cont hs hI hE2;have hkeep := (ybx hs hI hdone).1;have hu2 := hu;rw [vb hdone] at hu2;have hc := hs.at_ hfi hE2;have hb := bAt_lt s x.i
     refine za rfl (ye rfl rfl (anx rfl (zu 40 (.bool false) rfl ((by rw [vy (by omega)] : (.bool (((bAt s (x.i) : Nat) : Int) == 95) : Value) = _)) (zy rfl (srx (mvx rfl (mvx rfl (za rfl (yh (j := x.i) (b := bAt s (x.i)) Tryd.underlying9 rfl rfl rfl (yu (by omega)) (za rfl (ye rfl rfl (anx rfl ?_))))))))))));by_cases hdot : bAt s x.i = 46
     ·
      have hstep : jx s x = { x with i := x.i + 1, dot := true, t := { x.t with dp := ((x.t.nd : Nat) : Int) } } := by unfold jx; rw [if_pos hdot]
      have hnodot : x.dot = false := by
       rcases hc with ⟨_, h3⟩ | ⟨h3, _⟩
       · omega
       · cases h4 : x.dot with
         | false => rfl
         | true => have := hI.dt h4; omega
      rw [hstep] at hkeep hu2
      refine zu 45 (.bool true) rfl ((by rw [hdot]; rfl : (.bool (((bAt s (x.i) : Nat) : Int) == 46) : Value) = _)) (yi rfl (zf (srx (mvx rfl (rnx (zu 50 (.bool false) rfl ((by rw [hnodot] : (.bool x.dot : Value) = _)) (zy rfl (zj (ze (srx (anx rfl (srx (mvx rfl (mvx rfl (za rfl (zk rfl (za rfl (zb Tryd.underlying125 rfl sz3 (by decide) rfl (za rfl (zl Tryd.underlying3 rfl rfl Ba (xj hlx (x.t.nd) rfl) (za rfl (zk rfl (za rfl (zb Tryd.underlying125 rfl sz3 (by decide) rfl (qf (qi sz3 rfl rfl Ba rfl rfl (in_ hlx (by decide : 801 < 804)) (zsq hlx ((x.t.nd : Nat) : Int)) ?_))))))))))))))))))))))))))
      intro w10 Bx Ea;replace Ba : Blk w10 ga 125 (yz { x.t with dp := ((x.t.nd : Nat) : Int) }) := Bx;replace E := E.step1 Ea Mut.head;refine rnx (yn (yv rfl (zg (zv (ze (zi (mvx rfl (za rfl (yg rfl rfl (zo (by omega)) (avx rfl (yf (yr 5 (.int .i64 ((x.i + 1 : Nat) : Int)) rfl (rfl) ?_))))))))))))
      exact ym ({ x with i := x.i + 1, dot := true, t := { x.t with dp := ((x.t.nd : Nat) : Int) } }) (by show Z - (x.i + 1) < Z - x.i; omega) ⟨rfl, rfl, rfl, rfl, rfl, rfl, trivial⟩ ⟨M8.step E XM8, (by exact Ba), hkeep, hu2⟩
     ·
      have hc : 48 ≤ bAt s x.i ∧ bAt s x.i ≤ 57 := by omega
      refine zu 45 (.bool false) rfl ((by rw [vy (by omega)] : (.bool (((bAt s (x.i) : Nat) : Int) == 46) : Value) = _)) (zy rfl (srx (mvx rfl (mvx rfl (za rfl (yh (j := x.i) (b := bAt s (x.i)) Tryd.underlying9 rfl rfl rfl (yu (by omega)) (za rfl (gz rfl rfl (mvx rfl (yd 63 (.bool true) rfl ((by rw [decide_eq_true (by omega)] : (.bool (decide (48 ≤ ((bAt s (x.i) : Nat) : Int))) : Value) = _)) (onx rfl (zq rfl (onx rfl (zq rfl (onx rfl (yh (j := x.i) (b := bAt s (x.i)) Tryd.underlying9 rfl rfl rfl (yu (by omega)) (onx rfl (gz rfl rfl (za rfl (zw rfl rfl (anx rfl (zu 58 (.bool true) rfl ((by rw [decide_eq_true (by omega)] : (.bool (decide (((bAt s (x.i) : Nat) : Int) ≤ 57)) : Value) = _)) (yi rfl (srx (anx rfl (zf (srx (mvx rfl (mvx rfl (za rfl (yh (j := x.i) (b := bAt s (x.i)) Tryd.underlying9 rfl rfl rfl (yu (by omega)) (za rfl (ye rfl rfl (mvx rfl (yo 73 rfl (fun h3 => ?_) (fun h3 => ?_))))))))))))))))))))))))))))))))))))
      ·
       have h3 : bAt s x.i = 48 := by have h3 := eq_of_beq h3; omega
       refine onx rfl (zq rfl (onx rfl (zk rfl (onx rfl (zb Tryd.underlying125 rfl sz3 (by decide) rfl (onx rfl (zl Tryd.underlying3 rfl rfl Ba (xj hlx (x.t.nd) rfl) (onx rfl (ye rfl rfl (za rfl (zw rfl rfl (rnx (zt rfl (fun h4 => ?_) (fun h4 => ?_))))))))))))))
       ·
        have h4 : x.t.nd = 0 := by have h4 := eq_of_beq h4; omega
        have hstep : jx s x = { x with i := x.i + 1, dig := true, t := { x.t with dp := x.t.dp - 1 } } := by unfold jx; rw [if_neg hdot, if_pos ⟨h3, h4⟩]
        rw [hstep] at hkeep hu2
        refine srx (mvx rfl (za rfl (zk rfl (za rfl (zb Tryd.underlying125 rfl sz3 (by decide) rfl (za rfl (zl Tryd.underlying3 rfl rfl Ba (zlq hlx x.t.dp rfl) (za rfl (yw rfl rfl (zo (by omega)) (za rfl (zk rfl (za rfl (zb Tryd.underlying125 rfl sz3 (by decide) rfl (qf (qi sz3 rfl rfl Ba rfl rfl (in_ hlx (by decide : 801 < 804)) (zsq hlx (x.t.dp - 1)) ?_)))))))))))))))
        intro w11 Bx Ea;replace Ba : Blk w11 ga 125 (yz { x.t with dp := x.t.dp - 1 }) := Bx;replace E := E.step1 Ea Mut.head;refine rnx (yn (zg (yv rfl (zg (zv (ze (zi (mvx rfl (za rfl (yg rfl rfl (zo (by omega)) (avx rfl (yf (yr 5 (.int .i64 ((x.i + 1 : Nat) : Int)) rfl (rfl) ?_)))))))))))))
        exact ym ({ x with i := x.i + 1, dig := true, t := { x.t with dp := x.t.dp - 1 } }) (by show Z - (x.i + 1) < Z - x.i; omega) ⟨rfl, rfl, rfl, rfl, rfl, rfl, trivial⟩ ⟨M8.step E XM8, (by exact Ba), hkeep, hu2⟩
       ·
        have hnz : ¬ (bAt s x.i = 48 ∧ x.t.nd = 0) := fun h => absurd h4 (by rw [h.2]; decide)
        refine zj (ze (zf (srx (mvx rfl (za rfl (zk rfl (za rfl (zb Tryd.underlying125 rfl sz3 (by decide) rfl (za rfl (zl Tryd.underlying3 rfl rfl Ba (xj hlx (x.t.nd) rfl) (za rfl (yt rfl rfl (rnx (zt rfl (fun h5 => ?_) (fun h5 => ?_)))))))))))))))
        ·
         have h5 : x.t.nd < 800 := by have h5 := of_decide_eq_true h5; omega
         have hst := putIn hdot hnz h5;have hst2 : (x.t.d.set x.t.nd (bAt s x.i)).length = 800 := by rw [List.length_set]; exact hlx
         have hly : ({ x.t with d := x.t.d.set x.t.nd (bAt s x.i) } : Dec).d.length = 800 := hst2;rw [hst] at hkeep hu2;refine zf ?_;have OY : ∀ q9, (Mut (xq [])) q9 → q9 < (World.drew w9).heap.size → (Mut [(some ga)]) q9 := fun k h _ => (Mut.none_) k h;refine cw_any mixed (ak_cut 11 rfl ?_)
         refine aw_drawn (Mut [(some ga)]) (Mut.grow Mut.none_ (yj Ba.lt)) [] [] (oz [Fx.of (.pointer (some ⟨ga, 0, none⟩)),
          Fx.of (.pointer (some ⟨ga, 0, none⟩)),
          Fx.of (.pointer (some ⟨ga, 0, none⟩)),
          Fx.of (.pointer (some ⟨ga, 800, none⟩)),
          Fx.of (.int .i64 ((x.t.nd : Nat) : Int)),
          Fx.of (.string s),
          Fx.of (.int .i64 ((x.i : Nat) : Int)),
          Fx.of (.int .u8 ((bAt s x.i : Nat) : Int)),
          Fx.of (.pointer (some ⟨ga, 0, none⟩)),
          Fx.of (.pointer (some ⟨ga, 0, none⟩)),
          Fx.of (.pointer (some ⟨ga, x.t.nd, none⟩))]) rfl trivial (fun _ h => by cases h) ?_ ?_
         · refine ⟨?_, ?_, ?_, ?_, ?_, ?_, ?_, ?_, ?_, ?_, ?_, trivial⟩
           · intro vs X wq K;exact zq rfl ⟨Below.refl _ _, Left.of rfl⟩
           · intro vs X wq K;exact zq rfl ⟨Below.refl _ _, Left.of rfl⟩
           · intro vs X wq K;obtain ⟨_, e1, k1⟩ := K.dep 1 rfl rfl rfl;refine zh 93 (.pointer (some ⟨ga, 0, none⟩)) rfl e1 ?_;exact zk rfl ⟨Below.refl _ _, Left.of rfl⟩
           · intro vs X wq K;obtain ⟨_, e2, k2⟩ := K.dep 2 rfl rfl rfl;refine zh 94 (.pointer (some ⟨ga, 0, none⟩)) rfl e2 ?_;exact zb Tryd.underlying125 rfl sz3 (by decide) rfl ⟨Below.refl _ _, Left.of rfl⟩
           · intro vs X wq K;have LE := K.1;obtain ⟨_, e3, k3⟩ := K.dep 3 rfl rfl rfl;refine zh 95 (.pointer (some ⟨ga, 800, none⟩)) rfl e3 ?_;exact zl Tryd.underlying3 rfl rfl (Ba.drew.extN LE NotIn.nil) (xj hlx x.t.nd rfl) ⟨Below.refl _ _, Left.of rfl⟩
           · intro vs X wq K;exact zq rfl ⟨Below.refl _ _, Left.of rfl⟩
           · intro vs X wq K;exact zq rfl ⟨Below.refl _ _, Left.of rfl⟩
           · intro vs X wq K;obtain ⟨_, e5, k5⟩ := K.dep 5 rfl rfl rfl;refine zh 97 (.string s) rfl e5 ?_;obtain ⟨_, e6, k6⟩ := K.dep 6 rfl rfl rfl;refine zh 98 (.int .i64 ((x.i : Nat) : Int)) rfl e6 ?_;exact yh (j := x.i) (b := bAt s x.i) Tryd.underlying9 rfl rfl rfl (yu (by omega)) ⟨Below.refl _ _, Left.of rfl⟩
           · intro vs X wq K;obtain ⟨_, e0, k0⟩ := K.dep 0 rfl rfl rfl;refine zh 92 (.pointer (some ⟨ga, 0, none⟩)) rfl e0 ?_;exact zk rfl ⟨Below.refl _ _, Left.of rfl⟩
           · intro vs X wq K;obtain ⟨_, e8, k8⟩ := K.dep 8 rfl rfl rfl;refine zh 100 (.pointer (some ⟨ga, 0, none⟩)) rfl e8 ?_;exact zb Tryd.underlying125 rfl xn (by decide) rfl ⟨Below.refl _ _, Left.of rfl⟩
           · intro vs X wq K;obtain ⟨_, e9, k9⟩ := K.dep 9 rfl rfl rfl;refine zh 101 (.pointer (some ⟨ga, 0, none⟩)) rfl e9 ?_;obtain ⟨_, e4, k4⟩ := K.dep 4 rfl rfl rfl;refine zh 96 (.int .i64 ((x.t.nd : Nat) : Int)) rfl e4 ?_;exact qo (j := x.t.nd) Tryd.underlying123 sz5 rfl rfl rfl (by omega) ⟨Below.refl _ _, Left.of rfl⟩
         intro vs w12 LE AO AL AF AA;have LBa := Ba;replace Ba := Ba.drew.extN LE NotIn.nil;replace E := E.drew.trans (LE.mono OY);obtain ⟨_, e7, k7⟩ := AL.2.2.2.2.2.2.2.1;obtain ⟨_, e10, k10⟩ := AL.2.2.2.2.2.2.2.2.2.2.1
         refine je (τ := [(0, _), (1, _), (4, _), (5, _), (6, _), (7, _), (99, .int .u8 ((bAt s x.i : Nat) : Int)), (102, .pointer (some ⟨ga, x.t.nd, none⟩))]) ⟨rfl, rfl, rfl, rfl, rfl, rfl, congrArg some e7, congrArg some e10, trivial⟩ ?_;clear AL AF AA LE AO OY e7 e10 k7 k10 LBa
         refine ew_ak (ak_of_rs (by kernel_rfl) (fun _ _ d_ _ _ h => by cases d_ <;> exact h) (qf (qi sz5 rfl rfl Ba rfl rfl (in_ hlx (by omega)) (set_d hlx (by omega)) ?_)));intro w13 Bx Ea;replace Ba : Blk w13 ga 125 (yz { x.t with d := x.t.d.set x.t.nd (bAt s x.i) }) := Bx;replace E := E.step1 Ea Mut.head
         refine rnx (zi (mvx rfl (za rfl (zk rfl (za rfl (zb Tryd.underlying125 rfl sz3 (by decide) rfl (za rfl (zl Tryd.underlying3 rfl rfl Ba (xj hly (x.t.nd) rfl) (za rfl (yg rfl rfl (zo (by omega)) (za rfl (zk rfl (za rfl (zb Tryd.underlying125 rfl sz3 (by decide) rfl (yd 107 (.int .i64 ((x.t.nd + 1 : Nat) : Int)) rfl (rfl) (qf (qi sz3 rfl rfl Ba rfl rfl (in_ hly (by decide : 800 < 804)) (ybq hly (x.t.nd + 1)) ?_)))))))))))))))))
         intro w14 Bx Ea;replace Ba : Blk w14 ga 125 (yz { x.t with d := x.t.d.set x.t.nd (bAt s x.i), nd := x.t.nd + 1 }) := Bx;replace E := E.step1 Ea Mut.head
         refine rnx (yn (yv rfl (zg (zv (ze (zi (mvx rfl (za rfl (yg rfl rfl (zo (by omega)) (avx rfl (yf (yr 5 (.int .i64 ((x.i + 1 : Nat) : Int)) rfl (rfl) ?_))))))))))))
         exact ym ({ x with i := x.i + 1, dig := true, t := { x.t with d := x.t.d.set x.t.nd (bAt s x.i), nd := x.t.nd + 1 } }) (by show Z - (x.i + 1) < Z - x.i; omega) ⟨rfl, rfl, rfl, rfl, rfl, rfl, trivial⟩ ⟨M8.step E XM8, (by exact Ba), hkeep, hu2⟩
        ·
         have h5 : ¬ x.t.nd < 800 := by have h5 := of_decide_eq_false h5; omega
         have hst := putOut hdot hnz h5;refine srx (mvx rfl (mvx rfl (za rfl (yh (j := x.i) (b := bAt s (x.i)) Tryd.underlying9 rfl rfl rfl (yu (by omega)) (za rfl (qn rfl rfl (rnx (zt rfl (fun h6 => ?_) (fun h6 => ?_)))))))))
         ·
          have h6 : bAt s x.i ≠ 48 := fun e => absurd h6 (by rw [e]; decide);rw [if_pos h6] at hst;rw [hst] at hkeep hu2;refine zi (mvx rfl (za rfl (zk rfl (za rfl (zb Tryd.underlying125 rfl sz4 (by decide) rfl (qf (qi sz4 rfl rfl Ba rfl rfl (in_ hlx (by decide : 803 < 804)) (ybz hlx true) ?_)))))));intro w15 Bx Ea
          replace Ba : Blk w15 ga 125 (yz { x.t with tr := true }) := Bx;replace E := E.step1 Ea Mut.head;refine rnx (yn (yv rfl (zg (zv (ze (zi (mvx rfl (za rfl (yg rfl rfl (zo (by omega)) (avx rfl (yf (yr 5 (.int .i64 ((x.i + 1 : Nat) : Int)) rfl (rfl) ?_))))))))))))
          exact ym ({ x with i := x.i + 1, dig := true, t := { x.t with tr := true } }) (by show Z - (x.i + 1) < Z - x.i; omega) ⟨rfl, rfl, rfl, rfl, rfl, rfl, trivial⟩ ⟨M8.step E XM8, (by exact Ba), hkeep, hu2⟩
         ·
          have h6 : bAt s x.i = 48 := by
           rcases Nat.decEq (bAt s x.i) 48 with h7 | h7
           · rw [bne_iff_ne.2 (by omega)] at h6; cases h6
           · exact h7
          rw [if_neg (fun h => h h6)] at hst;rw [hst] at hkeep hu2;refine zj (ze (yn (yv rfl (zg (zv (ze (zi (mvx rfl (za rfl (yg rfl rfl (zo (by omega)) (avx rfl (yf (yr 5 (.int .i64 ((x.i + 1 : Nat) : Int)) rfl (rfl) ?_)))))))))))))
          exact ym ({ x with i := x.i + 1, dig := true, t := { x.t with tr := x.t.tr } }) (by show Z - (x.i + 1) < Z - x.i; omega) ⟨rfl, rfl, rfl, rfl, rfl, rfl, trivial⟩ ⟨M8.step E XM8, (by exact Ba), hkeep, hu2⟩
      ·
       have hnz : ¬ (bAt s x.i = 48 ∧ x.t.nd = 0) := fun h => absurd h3 (by rw [h.1]; decide)
       refine za rfl (zc rfl (za rfl (zc rfl (za rfl (zc rfl (za rfl (zc rfl (za rfl (zc rfl (za rfl (ya rfl rfl (rnx (zy rfl (zj (ze (zf (srx (mvx rfl (za rfl (zk rfl (za rfl (zb Tryd.underlying125 rfl sz3 (by decide) rfl (za rfl (zl Tryd.underlying3 rfl rfl Ba (xj hlx (x.t.nd) rfl) (za rfl (yt rfl rfl (rnx (zt rfl (fun h5 => ?_) (fun h5 => ?_)))))))))))))))))))))))))))))
       ·
        have h5 : x.t.nd < 800 := by have h5 := of_decide_eq_true h5; omega
        have hst := putIn hdot hnz h5;have hst2 : (x.t.d.set x.t.nd (bAt s x.i)).length = 800 := by rw [List.length_set]; exact hlx
        have hly : ({ x.t with d := x.t.d.set x.t.nd (bAt s x.i) } : Dec).d.length = 800 := hst2;rw [hst] at hkeep hu2;refine zf ?_;have OY : ∀ q9, (Mut (xq [])) q9 → q9 < (World.drew w9).heap.size → (Mut [(some ga)]) q9 := fun k h _ => (Mut.none_) k h;refine cw_any mixed (ak_cut 11 rfl ?_)
        refine aw_drawn (Mut [(some ga)]) (Mut.grow Mut.none_ (yj Ba.lt)) [] [] (oz [Fx.of (.pointer (some ⟨ga, 0, none⟩)),
         Fx.of (.pointer (some ⟨ga, 0, none⟩)),
         Fx.of (.pointer (some ⟨ga, 0, none⟩)),
         Fx.of (.pointer (some ⟨ga, 800, none⟩)),
         Fx.of (.int .i64 ((x.t.nd : Nat) : Int)),
         Fx.of (.string s),
         Fx.of (.int .i64 ((x.i : Nat) : Int)),
         Fx.of (.int .u8 ((bAt s x.i : Nat) : Int)),
         Fx.of (.pointer (some ⟨ga, 0, none⟩)),
         Fx.of (.pointer (some ⟨ga, 0, none⟩)),
         Fx.of (.pointer (some ⟨ga, x.t.nd, none⟩))]) rfl trivial (fun _ h => by cases h) ?_ ?_
        · refine ⟨?_, ?_, ?_, ?_, ?_, ?_, ?_, ?_, ?_, ?_, ?_, trivial⟩
          · intro vs X wq K;exact zq rfl ⟨Below.refl _ _, Left.of rfl⟩
          · intro vs X wq K;exact zq rfl ⟨Below.refl _ _, Left.of rfl⟩
          · intro vs X wq K;obtain ⟨_, e1, k1⟩ := K.dep 1 rfl rfl rfl;refine zh 93 (.pointer (some ⟨ga, 0, none⟩)) rfl e1 ?_;exact zk rfl ⟨Below.refl _ _, Left.of rfl⟩
          · intro vs X wq K;obtain ⟨_, e2, k2⟩ := K.dep 2 rfl rfl rfl;refine zh 94 (.pointer (some ⟨ga, 0, none⟩)) rfl e2 ?_;exact zb Tryd.underlying125 rfl sz3 (by decide) rfl ⟨Below.refl _ _, Left.of rfl⟩
          · intro vs X wq K;have LE := K.1;obtain ⟨_, e3, k3⟩ := K.dep 3 rfl rfl rfl;refine zh 95 (.pointer (some ⟨ga, 800, none⟩)) rfl e3 ?_;exact zl Tryd.underlying3 rfl rfl (Ba.drew.extN LE NotIn.nil) (xj hlx x.t.nd rfl) ⟨Below.refl _ _, Left.of rfl⟩
          · intro vs X wq K;exact zq rfl ⟨Below.refl _ _, Left.of rfl⟩
          · intro vs X wq K;exact zq rfl ⟨Below.refl _ _, Left.of rfl⟩
          · intro vs X wq K;obtain ⟨_, e5, k5⟩ := K.dep 5 rfl rfl rfl;refine zh 97 (.string s) rfl e5 ?_;obtain ⟨_, e6, k6⟩ := K.dep 6 rfl rfl rfl;refine zh 98 (.int .i64 ((x.i : Nat) : Int)) rfl e6 ?_;exact yh (j := x.i) (b := bAt s x.i) Tryd.underlying9 rfl rfl rfl (yu (by omega)) ⟨Below.refl _ _, Left.of rfl⟩
          · intro vs X wq K;obtain ⟨_, e0, k0⟩ := K.dep 0 rfl rfl rfl;refine zh 92 (.pointer (some ⟨ga, 0, none⟩)) rfl e0 ?_;exact zk rfl ⟨Below.refl _ _, Left.of rfl⟩
          · intro vs X wq K;obtain ⟨_, e8, k8⟩ := K.dep 8 rfl rfl rfl;refine zh 100 (.pointer (some ⟨ga, 0, none⟩)) rfl e8 ?_;exact zb Tryd.underlying125 rfl xn (by decide) rfl ⟨Below.refl _ _, Left.of rfl⟩
          · intro vs X wq K;obtain ⟨_, e9, k9⟩ := K.dep 9 rfl rfl rfl;refine zh 101 (.pointer (some ⟨ga, 0, none⟩)) rfl e9 ?_;obtain ⟨_, e4, k4⟩ := K.dep 4 rfl rfl rfl;refine zh 96 (.int .i64 ((x.t.nd : Nat) : Int)) rfl e4 ?_;exact qo (j := x.t.nd) Tryd.underlying123 sz5 rfl rfl rfl (by omega) ⟨Below.refl _ _, Left.of rfl⟩
        intro vs w16 LE AO AL AF AA;have LBa := Ba;replace Ba := Ba.drew.extN LE NotIn.nil;replace E := E.drew.trans (LE.mono OY);obtain ⟨_, e7, k7⟩ := AL.2.2.2.2.2.2.2.1;obtain ⟨_, e10, k10⟩ := AL.2.2.2.2.2.2.2.2.2.2.1
        refine je (τ := [(0, _), (1, _), (4, _), (5, _), (6, _), (7, _), (99, .int .u8 ((bAt s x.i : Nat) : Int)), (102, .pointer (some ⟨ga, x.t.nd, none⟩))]) ⟨rfl, rfl, rfl, rfl, rfl, rfl, congrArg some e7, congrArg some e10, trivial⟩ ?_;clear AL AF AA LE AO OY e7 e10 k7 k10 LBa
        refine ew_ak (ak_of_rs (by kernel_rfl) (fun _ _ d_ _ _ h => by cases d_ <;> exact h) (qf (qi sz5 rfl rfl Ba rfl rfl (in_ hlx (by omega)) (set_d hlx (by omega)) ?_)));intro w17 Bx Ea;replace Ba : Blk w17 ga 125 (yz { x.t with d := x.t.d.set x.t.nd (bAt s x.i) }) := Bx;replace E := E.step1 Ea Mut.head
        refine rnx (zi (mvx rfl (za rfl (zk rfl (za rfl (zb Tryd.underlying125 rfl sz3 (by decide) rfl (za rfl (zl Tryd.underlying3 rfl rfl Ba (xj hly (x.t.nd) rfl) (za rfl (yg rfl rfl (zo (by omega)) (za rfl (zk rfl (za rfl (zb Tryd.underlying125 rfl sz3 (by decide) rfl (yd 107 (.int .i64 ((x.t.nd + 1 : Nat) : Int)) rfl (rfl) (qf (qi sz3 rfl rfl Ba rfl rfl (in_ hly (by decide : 800 < 804)) (ybq hly (x.t.nd + 1)) ?_)))))))))))))))))
        intro w18 Bx Ea;replace Ba : Blk w18 ga 125 (yz { x.t with d := x.t.d.set x.t.nd (bAt s x.i), nd := x.t.nd + 1 }) := Bx;replace E := E.step1 Ea Mut.head
        refine rnx (yn (yv rfl (zg (zv (ze (zi (mvx rfl (za rfl (yg rfl rfl (zo (by omega)) (avx rfl (yf (yr 5 (.int .i64 ((x.i + 1 : Nat) : Int)) rfl (rfl) ?_))))))))))))
        exact ym ({ x with i := x.i + 1, dig := true, t := { x.t with d := x.t.d.set x.t.nd (bAt s x.i), nd := x.t.nd + 1 } }) (by show Z - (x.i + 1) < Z - x.i; omega) ⟨rfl, rfl, rfl, rfl, rfl, rfl, trivial⟩ ⟨M8.step E XM8, (by exact Ba), hkeep, hu2⟩
       ·
        have h5 : ¬ x.t.nd < 800 := by have h5 := of_decide_eq_false h5; omega
        have hst := putOut hdot hnz h5;refine srx (mvx rfl (mvx rfl (za rfl (yh (j := x.i) (b := bAt s (x.i)) Tryd.underlying9 rfl rfl rfl (yu (by omega)) (za rfl (qn rfl rfl (rnx (zt rfl (fun h6 => ?_) (fun h6 => ?_)))))))))
        ·
         have h6 : bAt s x.i ≠ 48 := fun e => absurd h6 (by rw [e]; decide);rw [if_pos h6] at hst;rw [hst] at hkeep hu2;refine zi (mvx rfl (za rfl (zk rfl (za rfl (zb Tryd.underlying125 rfl sz4 (by decide) rfl (qf (qi sz4 rfl rfl Ba rfl rfl (in_ hlx (by decide : 803 < 804)) (ybz hlx true) ?_)))))));intro w19 Bx Ea
         replace Ba : Blk w19 ga 125 (yz { x.t with tr := true }) := Bx;replace E := E.step1 Ea Mut.head;refine rnx (yn (yv rfl (zg (zv (ze (zi (mvx rfl (za rfl (yg rfl rfl (zo (by omega)) (avx rfl (yf (yr 5 (.int .i64 ((x.i + 1 : Nat) : Int)) rfl (rfl) ?_))))))))))))
         exact ym ({ x with i := x.i + 1, dig := true, t := { x.t with tr := true } }) (by show Z - (x.i + 1) < Z - x.i; omega) ⟨rfl, rfl, rfl, rfl, rfl, rfl, trivial⟩ ⟨M8.step E XM8, (by exact Ba), hkeep, hu2⟩
        ·
         have h6 : bAt s x.i = 48 := by
          rcases Nat.decEq (bAt s x.i) 48 with h7 | h7
          · rw [bne_iff_ne.2 (by omega)] at h6; cases h6
          · exact h7
         rw [if_neg (fun h => h h6)] at hst;rw [hst] at hkeep hu2;refine zj (ze (yn (yv rfl (zg (zv (ze (zi (mvx rfl (za rfl (yg rfl rfl (zo (by omega)) (avx rfl (yf (yr 5 (.int .i64 ((x.i + 1 : Nat) : Int)) rfl (rfl) ?_)))))))))))))
         exact ym ({ x with i := x.i + 1, dig := true, t := { x.t with tr := x.t.tr } }) (by show Z - (x.i + 1) < Z - x.i; omega) ⟨rfl, rfl, rfl, rfl, rfl, rfl, trivial⟩ ⟨M8.step E XM8, (by exact Ba), hkeep, hu2⟩
    ·
     have e : x.i = Z := by omega
     have hb : bAt s x.i = 101 := by rw [e]; exact (hs.exp (by omega)).1
     have hdone : xf s x = true := by
      unfold xf;rw [Bool.or_eq_true];right
      rw [hb];rfl
     rw [qe hdone] at hu
     refine za rfl (ye rfl rfl (anx rfl (zu 40 (.bool false) rfl ((by rw [hb]; rfl : (.bool (((bAt s (x.i) : Nat) : Int) == 95) : Value) = _)) (zy rfl (srx (mvx rfl (mvx rfl (za rfl (yh (j := x.i) (b := bAt s (x.i)) Tryd.underlying9 rfl rfl rfl (yu (by omega)) (za rfl (ye rfl rfl (anx rfl (zu 45 (.bool false) rfl ((by rw [hb]; rfl : (.bool (((bAt s (x.i) : Nat) : Int) == 46) : Value) = _)) (zy rfl (srx (mvx rfl (mvx rfl (za rfl (yh (j := x.i) (b := bAt s (x.i)) Tryd.underlying9 rfl rfl rfl (yu (by omega)) (za rfl (gz rfl rfl (mvx rfl (yd 63 (.bool true) rfl ((by rw [hb]; rfl : (.bool (decide (48 ≤ ((bAt s (x.i) : Nat) : Int))) : Value) = _)) (onx rfl (zq rfl (onx rfl (zq rfl (onx rfl (yh (j := x.i) (b := bAt s (x.i)) Tryd.underlying9 rfl rfl rfl (yu (by omega)) (onx rfl (gz rfl rfl (za rfl (zw rfl rfl (anx rfl (zu 58 (.bool false) rfl ((by rw [hb]; rfl : (.bool (decide (((bAt s (x.i) : Nat) : Int) ≤ 57)) : Value) = _)) (zy rfl (zj (zm (ze (yn (yv rfl ?_)))))))))))))))))))))))))))))))))))))))))
     refine zg (zg (zv ?_));exact yp x ⟨rfl, rfl, rfl, rfl, rfl, rfl, trivial⟩ ⟨M6.step E XM6, (by exact Ba), hu⟩
   ·
    have h1 : ¬ x.i < s.size := by have h1 := of_decide_eq_false h1; omega
    have hdone : xf s x = true := by
     unfold xf;rw [decide_eq_true (by omega)]; rfl
    rw [qe hdone] at hu;refine yn (zg (zg (zv ?_)));exact yp x ⟨rfl, rfl, rfl, rfl, rfl, rfl, trivial⟩ ⟨M6.step E XM6, (by exact Ba), hu⟩
  ·
   have LTa := (yj Ba.lt);clear Ba;rintro x w7 ⟨M6, Ba, hx⟩;replace E := E.trans M6;replace LW := LW.step E XLW;replace E := erx (Mut [(some ga)]) w7;obtain ⟨hR, hRi⟩ := stA_ends neg hs;rw [← hx] at hR hRi;have hfp := hs.fp;have hpE := hs.pE;have hsE := hs.hE;have hdig : x.dig = true := hR.dg (by omega);have hlx := hR.dec.len;have hnx := hR.dec.hn;have hpp := hR.hp;have hti := hR.iE
   refine zf (srx (mvx rfl (za rfl (vw rfl (rnx (zu 118 (.bool false) rfl ((by rw [hdig]; rfl : (.bool (!x.dig) : Value) = _)) (zy rfl (zj (ze (zf (srx (mvx rfl (za rfl (vw rfl (rnx ?_)))))))))))))));replace LW := LW.step E XLW;replace E := erx (Mut [(some ga)]) w7
   refine qd (ι := Int) (fun d2 => [(0, .pointer (some ⟨ga, 0, none⟩)), (1, .string s), (4, .bool false), (5, .int .i64 ((x.i : Nat) : Int))]) (fun d2 w' => Ext (Mut [(some ga)]) w7 w' ∧ Blk w' ga 125 (yz { x.t with dp := d2 }) ∧ (d2 = (if x.dot then x.t.dp else ((x.t.nd : Nat) : Int)))) ?_ ?_
   ·
    have M20 := erx (Mut [(some ga)]) w7;have XM20 := grx (Mut [(some ga)]) w7;by_cases hdd : x.dot = true
    ·
     refine zu 120 (.bool false) rfl ((by rw [hdd]; rfl : (.bool (!x.dot) : Value) = _)) (zy rfl (zj ?_));replace Ba : Blk w7 ga 125 (yz { x.t with dp := x.t.dp }) := Ba;exact yp x.t.dp ⟨rfl, rfl, rfl, rfl, trivial⟩ ⟨M20.step E XM20, (by exact Ba), by rw [hdd, if_pos rfl]⟩
    ·
     refine zu 120 (.bool true) rfl ((by rw [Bool.eq_false_iff.2 hdd]; rfl : (.bool (!x.dot) : Value) = _)) (yi rfl (zi (mvx rfl (mvx rfl (za rfl (zk rfl (za rfl (zb Tryd.underlying125 rfl sz3 (by decide) rfl (za rfl (zl Tryd.underlying3 rfl rfl Ba (xj hlx (x.t.nd) rfl) (za rfl (zk rfl (za rfl (zb Tryd.underlying125 rfl sz3 (by decide) rfl (qf (qi sz3 rfl rfl Ba rfl rfl (in_ hlx (by decide : 801 < 804)) (zsq hlx ((x.t.nd : Nat) : Int)) ?_))))))))))))))))
     intro w22 Bx Ea;replace Ba : Blk w22 ga 125 (yz { x.t with dp := ((x.t.nd : Nat) : Int) }) := Bx;replace E := E.step1 Ea Mut.head;refine yf ?_;exact yp ((x.t.nd : Nat) : Int) ⟨rfl, rfl, rfl, rfl, trivial⟩ ⟨M20.step E XM20, (by exact Ba), by rw [if_neg hdd]⟩
   ·
    have LTa := (yj Ba.lt);clear Ba;rintro d2 w21 ⟨M20, Ba, hd2⟩;replace E := E.trans M20;replace LW := LW.step E XLW;replace E := erx (Mut [(some ga)]) w21;have hb2 : -100000 ≤ d2 ∧ d2 ≤ 100000 := by rw [hd2]; split <;> omega
    have hl2 : ({ x.t with dp := d2 } : Dec).d.length = 800 := hlx;have hP0 : setD s f neg = { x.t with dp := d2 + zax s Z } := by unfold setD; rw [← hx, hRi, hd2]
    by_cases he : Z < s.size
    ·
     obtain ⟨hx1, hx2, hx3, hx4⟩ := hs.exp he;have hb : bAt s x.i = 101 := by rw [hRi]; exact hx1
     refine zf (srx (mvx rfl (mvx rfl (za rfl (qc Tryd.underlying9 rfl (za rfl (yt rfl rfl (mvx rfl (yd 132 (.bool true) rfl ((by rw [decide_eq_true (by omega)] : (.bool (decide (((x.i : Nat) : Int) < ((s.size : Nat) : Int))) : Value) = _)) (onx rfl (zq rfl (onx rfl (zq rfl (onx rfl (yh (j := x.i) (b := bAt s (x.i)) Tryd.underlying9 rfl rfl rfl (yu (by omega)) (yd 135 (.int .u8 101) rfl ((by rw [hb]; rfl : (.int .u8 ((bAt s (x.i) : Nat) : Int) : Value) = _)) (onx rfl (zz en39 rfl ((pt39_1 _).mono ?_)))))))))))))))))))
     rintro e w23 ⟨rfl, hb⟩;refine ⟨_, rfl, ?_⟩;have Ec := Ext.of_below hb No;replace Ba := Ba.extN Ec NotIn.nil;replace E := E.trans Ec.no
     refine onx rfl (ye rfl rfl (za rfl (zw rfl rfl (rnx (yi rfl (srx (mvx rfl (za rfl (yg rfl rfl (zo (by omega)) (anx rfl (zf (srx (mvx rfl (mvx rfl (za rfl (qc Tryd.underlying9 rfl (za rfl (vr rfl rfl (rnx (zu 144 (.bool false) rfl ((by rw [decide_eq_false (by omega)] : (.bool (decide (((s.size : Nat) : Int) ≤ (((x.i : Nat) : Int) + 1))) : Value) = _)) (zy rfl (zj (ze (srx (anx rfl (zf (srx (mvx rfl (mvx rfl (za rfl (yh (j := x.i + 1) (b := bAt s (x.i + 1)) Tryd.underlying9 rfl rfl rfl (yu (by omega)) ?_)))))))))))))))))))))))))))))))
     rw [← hRi] at hx2;refine rnx ?_;replace LW := LW.step E XLW;replace E := erx (Mut [(some ga)]) w23
     refine qd (ι := Nat × Int) (fun (k, g) => [(0, .pointer (some ⟨ga, 0, none⟩)), (1, .string s), (4, .bool false), (5, .int .i64 ((k : Nat) : Int)), (8, .int .i64 g)]) (fun (k, g) w' => Ext (Mut [(some ga)]) w23 w' ∧ Blk w' ga 125 (yz { x.t with dp := d2 }) ∧ (k = q ∧ g = (if bAt s (x.i + 1) = 45 then -1 else 1))) ?_ ?_
     ·
      have M24 := erx (Mut [(some ga)]) w23;have XM24 := grx (Mut [(some ga)]) w23;refine zx (srx (za rfl (ye rfl rfl (anx rfl ?_))));by_cases c43 : bAt s (x.i + 1) = 43
      ·
       refine zu 148 (.bool true) rfl ((by rw [c43]; rfl : (.bool (((bAt s (x.i + 1) : Nat) : Int) == 43) : Value) = _)) (yi rfl (zi (mvx rfl (za rfl (yg rfl rfl (zo (by omega)) (avx rfl (yf (zm ?_))))))));exact yp (x.i + 2, 1) ⟨rfl, rfl, rfl, rfl, rfl, trivial⟩ ⟨M24.step E XM24, (by exact Ba), by omega, by rw [if_neg (by omega)]⟩
      ·
       refine zu 148 (.bool false) rfl ((by rw [vy (by omega)] : (.bool (((bAt s (x.i + 1) : Nat) : Int) == 43) : Value) = _)) (zy rfl (srx (za rfl (ye rfl rfl (anx rfl ?_)))));by_cases c45 : bAt s (x.i + 1) = 45
       ·
        refine zu 152 (.bool true) rfl ((by rw [c45]; rfl : (.bool (((bAt s (x.i + 1) : Nat) : Int) == 45) : Value) = _)) (yi rfl (srx (mvx rfl (za rfl (yg rfl rfl (zo (by omega)) (anx rfl (zi (avx rfl (yf (zm ?_))))))))))
        exact yp (x.i + 2, -1) ⟨rfl, rfl, rfl, rfl, rfl, trivial⟩ ⟨M24.step E XM24, (by exact Ba), by omega, by rw [if_pos c45]⟩
       ·
        refine zu 152 (.bool false) rfl ((by rw [vy (by omega)] : (.bool (((bAt s (x.i + 1) : Nat) : Int) == 45) : Value) = _)) (zy rfl (zj (zm ?_)));exact yp (x.i + 1, 1) ⟨rfl, rfl, rfl, rfl, rfl, trivial⟩ ⟨M24.step E XM24, (by exact Ba), by omega, by rw [if_neg c45]⟩
     ·
      have LTa := (yj Ba.lt);clear Ba;rintro ⟨k, g⟩ w25 ⟨M24, Ba, ⟨hk, hg⟩⟩;replace E := E.trans M24;replace LW := LW.step E XLW;replace E := erx (Mut [(some ga)]) w25;subst hk;have hdq := hx4 k (Nat.le_refl _) hx3
      refine zf (srx (mvx rfl (mvx rfl (za rfl (qc Tryd.underlying9 rfl (za rfl (vr rfl rfl (mvx rfl (yd 160 (.bool false) rfl ((by rw [decide_eq_false (by omega)] : (.bool (decide (((s.size : Nat) : Int) ≤ ((k : Nat) : Int))) : Value) = _)) (onx rfl (zq rfl (onx rfl (zq rfl (onx rfl (yh (j := k) (b := bAt s (k)) Tryd.underlying9 rfl rfl rfl (yu (by omega)) (onx rfl (yt rfl rfl (za rfl (ya rfl rfl (mvx rfl (yd 166 (.bool false) rfl ((by rw [decide_eq_false (by omega)] : (.bool (decide (((bAt s (k) : Nat) : Int) < 48)) : Value) = _)) (onx rfl (zq rfl (onx rfl (zq rfl (onx rfl (yh (j := k) (b := bAt s (k)) Tryd.underlying9 rfl rfl rfl (yu (by omega)) (onx rfl (qq rfl rfl (za rfl (ya rfl rfl (rnx (zu 171 (.bool false) rfl ((by rw [decide_eq_false (by omega)] : (.bool (decide (57 < ((bAt s (k) : Nat) : Int))) : Value) = _)) (zy rfl (zj (ze (srx (anx rfl (zf ?_)))))))))))))))))))))))))))))))))))))))
      replace LW := LW.step E XLW;replace E := erx (Mut [(some ga)]) w25;refine qd (ι := ExS) (fun y => [(0, .pointer (some ⟨ga, 0, none⟩)), (1, .string s), (4, .bool false), (5, .int .i64 ((y.i : Nat) : Int)), (8, .int .i64 g), (9, .int .i64 ((y.e : Nat) : Int))]) (fun y w' => Ext (Mut [(some ga)]) w25 w' ∧ Blk w' ga 125 (yz { x.t with dp := d2 }) ∧ (y = exA s k)) ?_ ?_
      ·
       have M26 := erx (Mut [(some ga)]) w25;have XM26 := grx (Mut [(some ga)]) w25;refine zx ?_;replace M26 := M26.step E XM26;replace E := erx (Mut [(some ga)]) w25
       refine qk (ι := ExS) (fun y => [(0, .pointer (some ⟨ga, 0, none⟩)), (1, .string s), (4, .bool false), (5, .int .i64 ((y.i : Nat) : Int)), (8, .int .i64 g), (9, .int .i64 ((y.e : Nat) : Int))]) (fun y w' => Ext (Mut [(some ga)]) w25 w' ∧ Blk w' ga 125 (yz { x.t with dp := d2 }) ∧ (ExI s k y ∧ qv (ki s) (xv s) y = exA s k)) (fun y => s.size - y.i) (⟨k, 0⟩) ⟨rfl, rfl, rfl, rfl, rfl, rfl, trivial⟩ ⟨Ext.refl _ _, (by exact Ba), ⟨⟨Nat.le_refl _, Nat.le_of_lt hx3⟩, by show 0 < 100000; decide⟩, rfl⟩ ?_
       have LTa := (yj Ba.lt);clear Ba;rintro y w29 ⟨M28, Ba, ⟨hI, hu⟩⟩;have XM28 : Gro (Mut [(some ga)]) (Mut [(some ga)]) w25 := (Mut.grow Mut.none_ (fun k e => Or.inl (Mut.head k e)));replace E := E.trans M28;replace M26 := M26.step E XM26;replace E := erx (Mut [(some ga)]) w29;have hhi := hI.hi;have hhe := hI.he
       refine zf (srx (mvx rfl (mvx rfl (za rfl (qc Tryd.underlying9 rfl (za rfl (yt rfl rfl (mvx rfl (yo 176 rfl (fun h7 => ?_) (fun h7 => ?_))))))))))
       ·
        have h7 : y.i < s.size := by have h7 := of_decide_eq_true h7; omega
        have hc := hx4 y.i hhi.1 h7;have hdone : ki s y = false := by unfold ki; rw [decide_eq_false (by omega), zpx hc]; rfl
        have hkeep := (ex_keeps hI hdone).1;rw [vb hdone] at hu
        refine onx rfl (zq rfl (onx rfl (zq rfl (onx rfl (yh (j := y.i) (b := bAt s (y.i)) Tryd.underlying9 rfl rfl rfl (yu (by omega)) (onx rfl (gz rfl rfl (onx rfl (zq rfl (yd 181 (.bool true) rfl ((by rw [decide_eq_true (by omega)] : (.bool (decide (48 ≤ ((bAt s (y.i) : Nat) : Int))) : Value) = _)) (onx rfl (zq rfl (onx rfl (zq rfl (onx rfl (yh (j := y.i) (b := bAt s (y.i)) Tryd.underlying9 rfl rfl rfl (yu (by omega)) (onx rfl (gz rfl rfl (onx rfl (zw rfl rfl (onx rfl (zq rfl (yd 187 (.bool true) rfl ((by rw [decide_eq_true (by omega)] : (.bool (decide (((bAt s (y.i) : Nat) : Int) ≤ 57)) : Value) = _)) (za rfl (zc rfl (za rfl (zc rfl (za rfl (zc rfl (za rfl (zc rfl (onx rfl (zw rfl rfl (za rfl (zw rfl rfl (rnx (yi rfl (zj (ze (zf (zx (zf (srx (mvx rfl (mvx rfl (za rfl (yh (j := y.i) (b := bAt s (y.i)) Tryd.underlying9 rfl rfl rfl (yu (by omega)) (za rfl (ye rfl rfl (rnx (zu 199 (.bool false) rfl ((by rw [vy (by omega)] : (.bool (((bAt s (y.i) : Nat) : Int) == 95) : Value) = _)) (zy rfl (zj (ze (zf ?_)))))))))))))))))))))))))))))))))))))))))))))))))))))))
        refine zi (mvx rfl (za rfl (yt rfl rfl (rnx (zt rfl (fun h8 => ?_) (fun h8 => ?_))))))
        ·
         have h8 : y.e < 10000 := by have h8 := of_decide_eq_true h8; omega
         have hstep : xv s y = ⟨y.i + 1, y.e * 10 + (bAt s y.i - 48)⟩ := by unfold xv; rw [if_pos h8]
         rw [hstep] at hkeep hu
         refine zi (mvx rfl (za rfl (gy rfl rfl (zo (by omega)) (mvx rfl (mvx rfl (za rfl (yh (j := y.i) (b := bAt s (y.i)) Tryd.underlying9 rfl rfl rfl (yu (by omega)) (za rfl (ja Tryd.underlying3 Tryd.underlying5 rfl (zo (by omega)) (za rfl (yg rfl rfl (zo (by omega)) (za rfl (yw rfl rfl (zo (by omega)) (avx rfl (yf (zm (ze (zi (mvx rfl (za rfl (yg rfl rfl (zo (by omega)) (avx rfl (yf (yr 9 (.int .i64 ((y.e * 10 + (bAt s y.i - 48) : Nat) : Int)) rfl ((by congr 1; omega : (.int .i64 (((((y.e : Nat) : Int) * 10) + ((bAt s (y.i) : Nat) : Int)) - 48) : Value) = _)) ?_))))))))))))))))))))))))
         exact ym (⟨y.i + 1, y.e * 10 + (bAt s y.i - 48)⟩) (by show s.size - (y.i + 1) < s.size - y.i; omega) ⟨rfl, rfl, rfl, rfl, rfl, rfl, trivial⟩ ⟨M28.step E XM28, (by exact Ba), hkeep, hu⟩
        ·
         have h8 : ¬ y.e < 10000 := by have h8 := of_decide_eq_false h8; omega
         have hstep : xv s y = ⟨y.i + 1, y.e⟩ := by unfold xv; rw [if_neg h8]
         rw [hstep] at hkeep hu;refine zj (zm (ze (zi (mvx rfl (za rfl (yg rfl rfl (zo (by omega)) (avx rfl (yf ?_))))))));exact ym (⟨y.i + 1, y.e⟩) (by show s.size - (y.i + 1) < s.size - y.i; omega) ⟨rfl, rfl, rfl, rfl, rfl, rfl, trivial⟩ ⟨M28.step E XM28, (by exact Ba), hkeep, hu⟩
       ·
        have h7 : ¬ y.i < s.size := by have h7 := of_decide_eq_false h7; omega
        have hdone : ki s y = true := by unfold ki; rw [decide_eq_true (by omega)]; rfl
        rw [qe hdone] at hu
        refine za rfl (zc rfl (za rfl (zc rfl (za rfl (zc rfl (za rfl (zc rfl (za rfl (zc rfl (za rfl (qu rfl rfl (za rfl (qu rfl rfl (za rfl (qu rfl rfl (za rfl (qu rfl rfl (za rfl (zc rfl (za rfl (zc rfl (za rfl (qu rfl rfl (za rfl (qu rfl rfl (za rfl (qu rfl rfl (za rfl (qu rfl rfl (za rfl (zc rfl (za rfl (ya rfl rfl (rnx (zy rfl (yn (zg (zg (zv ?_)))))))))))))))))))))))))))))))))))))))
        exact yp y ⟨rfl, rfl, rfl, rfl, rfl, rfl, trivial⟩ ⟨M26.step E XM26, (by exact Ba), hu⟩
      ·
       have LTa := (yj Ba.lt);clear Ba;rintro y w27 ⟨M26, Ba, hy⟩;replace E := E.trans M26;replace LW := LW.step E XLW;replace E := erx (Mut [(some ga)]) w27;obtain ⟨hI, hdx⟩ := zlz (s := s) (q := k) (by omega);rw [← hy] at hI hdx;have hxi := ex_out hx4 hI hdx;have hxe := hI.he;have hX : IntKind.i64.wrap (((y.e : Nat) : Int) * g) = zax s Z := by
        have e9 : zax s Z = ((y.e : Nat) : Int) * g := by
         unfold zax;rw [if_neg (by omega), ← hRi, hg, hy];rcases hx2 with ⟨h9, h10, h11⟩ | ⟨h9, h10⟩
         · rw [if_neg h11, if_neg h10, if_neg h11, ← h9, Int.mul_one]
         · rcases h10 with h10 | h10
           · rw [if_neg (by omega), if_pos h10, if_neg (by omega), ← h9, Int.mul_one]
           · rw [if_pos h10, if_pos h10, ← h9, Int.mul_neg, Int.mul_one]
        have h12 := zyk hs;rw [← e9];exact zo (by omega)
       have h12 := zyk hs
       refine zi (mvx rfl (za rfl (zk rfl (za rfl (zb Tryd.underlying125 rfl sz3 (by decide) rfl (za rfl (zl Tryd.underlying3 rfl rfl Ba (zlq hl2 d2 rfl) (mvx rfl (mvx rfl (za rfl (gy rfl rfl hX (za rfl (yg rfl rfl (zo (by omega)) (za rfl (zk rfl (za rfl (zb Tryd.underlying125 rfl sz3 (by decide) rfl (qf (qi sz3 rfl rfl Ba rfl rfl (in_ hl2 (by decide : 801 < 804)) (zsq hl2 (d2 + zax s Z)) ?_)))))))))))))))))))
       intro w30 Bx Ea;replace Ba : Blk w30 ga 125 (yz { x.t with dp := d2 + zax s Z }) := Bx;replace E := E.step1 Ea Mut.head
       refine rnx (zf (srx (mvx rfl (mvx rfl (za rfl (qc Tryd.underlying9 rfl (za rfl (qn rfl rfl (rnx (zu 223 (.bool false) rfl ((by rw [hxi]; simp : (.bool (((y.i : Nat) : Int) != ((s.size : Nat) : Int)) : Value) = _)) (zy rfl (zj (ze (srx (anx rfl (zr (zp (rs := [.tmp 4]) (vs := [_]) rfl ⟨rfl, trivial⟩ ?_)))))))))))))))))
       exact ⟨rfl, by rw [hP0]; exact Ba, (LW.step E XLW)⟩
    ·
     have hz : zax s Z = 0 := by unfold zax; rw [if_pos (by omega)]
     refine zf (srx (mvx rfl (mvx rfl (za rfl (qc Tryd.underlying9 rfl (za rfl (yt rfl rfl (mvx rfl (yd 132 (.bool false) rfl ((by rw [decide_eq_false (by omega)] : (.bool (decide (((x.i : Nat) : Int) < ((s.size : Nat) : Int))) : Value) = _)) (za rfl (zc rfl (za rfl (zc rfl (za rfl (zc rfl (za rfl (zc rfl (za rfl (zc rfl (za rfl (ya rfl rfl (rnx (zy rfl (zj (ze (zf (srx (mvx rfl (mvx rfl (za rfl (qc Tryd.underlying9 rfl (za rfl (qn rfl rfl (rnx (zu 223 (.bool false) rfl ((by rw [show x.i = s.size by omega]; simp : (.bool (((x.i : Nat) : Int) != ((s.size : Nat) : Int)) : Value) = _)) (zy rfl (zj (ze (srx (anx rfl (zr (zp (rs := [.tmp 4]) (vs := [_]) rfl ⟨rfl, trivial⟩ ?_))))))))))))))))))))))))))))))))))))))))))
     exact ⟨rfl, by rw [hP0, hz, Int.add_zero]; exact Ba, (LW.step E XLW)⟩
end
end Go.Proofs.YtmjbnhjgebjhlaaDoor
namespace Go.Proofs.YtmjbnhjgebjhlaaDoor
open Go.RowKit
set_option maxRecDepth 100000
theorem run_equalIN {P : Program} {w : World} {T U : TypeId} {v : Value} {ms : Array (String × TypeId)} (hd : P.underlying T = some (.interface ms)) : (Op.equal T (.iface U v) .nilIface).run P w = .ok false w := by
 have e : Op.maxDepth = 9999 + 1 := rfl;have key : ∀ d : Nat, (Op.equalIn (d + 1) T (.iface U v) .nilIface).run P w = .ok false w := by
  intro d;rw [Op.equalIn];simp only [Sem.run_bind, run_underlying hd, Result.andThen_ok]
  rfl
 unfold Op.equal;rw [e];exact key 9999
theorem ow_neqI {P : Program} {N : Nat} {ops : Array Oper} {Q : Exit → Act → World → Prop} {σ : Env} {w : World} {ty : TypeId} {pos : String} {af : Array Edge} {dst : Option Nat} {Post : Value → World → Prop} {T U D : TypeId} {v : Value} {x : Operand} {ms : Array (String × TypeId)} (hd : P.underlying T = some (.interface ms)) (hx : ev σ x = some (.iface D v)) (k : Post (.bool true) w) : OW P N ops Q ⟨dst, .binOp .neq T x (.const .nilIface) U, ty, pos, af, none⟩ σ w Post :=
 qb (fun ρ ha => by
  have e := run_equalIN (P := P) (w := w) (U := D) (v := v) hd;have hc : ρ (.const .nilIface) = .nilIface := ha rfl;simp only [execOp, ha hx, hc, eqGuard, binOp]
  simp only [Bool.not_true, Bool.false_eq_true, if_false, Sem.run_bind, e, Result.andThen_ok, Sem.run_pure]
  rfl) k
theorem range_err (fn s : ByteArray) (base bits : Int) (w : World) (hl : s.size < 100000) (hv : ∃ te pe, w.cell? ⟨2, 0, none⟩ = some (.iface te pe)) :
 Calls Tryd.prog 32 #[.string fn, .string s, .int .i64 base, .int .i64 bits, rangeE] w fun e w' => (∃ er, e = .returned er) ∧ Below w.heap.size w w' := by
 obtain ⟨te, pe, hv⟩ := hv;refine (AnyPu.strconv_toError_range (ρ := Tryd.laysPu14_ren) { Tryd.laysPu14 with } fn s base bits (.iface te pe) w (by omega) hv (.inr ⟨te, pe, rfl⟩)).mono ?_;rintro e w' ⟨N, rfl, _, _, hb⟩;exact ⟨⟨_, rfl⟩, hb⟩
theorem zrDec : jo Tryd.prog 125 (.agg (yz (zhq false))) := by
 unfold yz decL;exact (by kernel_rfl : (Tryd.prog.info? 125).map (·.zero) = some (some (.agg ((zhq false).d.map (fun b => (.int .u8 ((b : Nat) : Int) : Value)) ++ ([.int .i64 (((zhq false).nd : Nat) : Int), .int .i64 (zhq false).dp, .bool (zhq false).neg, .bool (zhq false).tr] : List Value)).toArray)))
theorem kc {s : ByteArray} {k i : Nat} : bAt (s.extract k s.size) i = bAt s (k + i) := by
 unfold bAt;rw [ByteArray.data_extract, Array.getElem?_extract];by_cases h : i < s.size - k
 · rw [if_pos (by show i < min s.size s.data.size - k; rw [show s.data.size = s.size from rfl, Nat.min_self]; exact h)]
 · rw [if_neg (by show ¬ i < min s.size s.data.size - k; rw [show s.data.size = s.size from rfl, Nat.min_self]; exact h)];have : s.data[k + i]? = none := Array.getElem?_eq_none (by show s.size ≤ k + i; omega);rw [this]
theorem yix (s : ByteArray) : s.extract 0 s.size = s := by
 apply ByteArray.ext
 rw [ByteArray.data_extract];exact Array.extract_eq_self_of_le (Nat.le_refl _)
theorem qg {s : ByteArray} {k : Nat} : (s.extract k s.size).size = s.size - k := by
 rw [ByteArray.size_extract, Nat.min_self]
theorem setD_dp {s : ByteArray} {f p Z q : Nat} (neg : Bool) (hs : Nm s f p Z q) (hl : s.size < 100000) : -20000000 ≤ (setD s f neg).dp ∧ (setD s f neg).dp ≤ 20000000 := by
 obtain ⟨h, hi⟩ := stA_ends neg hs;have h1 := h.hp;have h2 := h.dec.hn;have h3 := h.iE;have h4 := hs.hE;have h5 := zyk hs;rw [← hi] at h5;unfold setD
 show -20000000 ≤ (if (stA s f neg).dot = true then (stA s f neg).t.dp else (((stA s f neg).t.nd : Nat) : Int)) + zax s (stA s f neg).i ∧ (if (stA s f neg).dot = true then (stA s f neg).t.dp else (((stA s f neg).t.nd : Nat) : Int)) + zax s (stA s f neg).i ≤ 20000000
 split <;> omega
theorem ru_shift {s : ByteArray} {f i : Nat} : gn (s.extract f s.size) i = gn s (f + i) := by
 unfold gn;rw [kc, qg];congr 1
 exact decide_eq_decide.2 (by omega)
theorem run_shift {s : ByteArray} {f a : Nat} (h : f + a ≤ s.size) : xo s (f + a) = f + xo (s.extract f s.size) a := by
 obtain ⟨h1, h2⟩ := km (s := s.extract f s.size) (a := a) (by rw [qg]; omega);have h3 := h1.lo;have h4 := h1.hi;rw [qg] at h4;refine runD_eq ⟨by omega, by omega, fun j hj hk => ?_⟩ (by rw [← ru_shift]; exact h2);have := h1.dig (j - f) (by omega) (by omega);rw [kc, show f + (j - f) = j by omega] at this;exact this
theorem extract_extract {s : ByteArray} {f k : Nat} : (s.extract f s.size).extract k (s.extract f s.size).size = s.extract (f + k) s.size := by
 rw [qg];apply ByteArray.ext
 rw [ByteArray.data_extract, ByteArray.data_extract, ByteArray.data_extract, Array.extract_extract];congr 1
 show min (f + (s.size - f)) s.size = s.size
 omega
theorem len_bytes (s : ByteArray) : s.toList.length = s.size := by rw [ByteArray.toList_eq]; rfl
theorem yhv {s : ByteArray} {k : Nat} : (s.extract k s.size).toList = [] ↔ s.size ≤ k := by
 have h := len_bytes (s.extract k s.size);rw [qg] at h;constructor
 · intro e;rw [e] at h;have h : 0 = s.size - k := h;omega
 · intro e;exact List.eq_nil_of_length_eq_zero (by omega)
theorem at_bytes (s : ByteArray) (i : Nat) : (s.toList[i]?).map (·.toNat) = (s.data[i]?).map (·.toNat) := by
 rw [ByteArray.toList_eq, Array.getElem?_toList]
theorem list_one {s : ByteArray} {c : UInt8} (h0 : 0 < s.size) : ((s.extract 0 1).toList == [c]) = decide (bAt s 0 = c.toNat) := by
 have hl := len_bytes (s.extract 0 1);rw [ByteArray.size_extract, Nat.sub_zero, Nat.min_eq_left (by omega)] at hl;obtain ⟨d, hd⟩ := List.length_eq_one_iff.1 hl;have h1 := at_bytes (s.extract 0 1) 0;rw [hd] at h1;have h2 : (s.extract 0 1).data[0]? = s.data[0]? := by
  rw [ByteArray.data_extract, Array.getElem?_extract, if_pos (by show 0 < min 1 s.size - 0; omega), Nat.zero_add]
 rw [h2, yu h0] at h1;have h1 : d.toNat = bAt s 0 := Option.some.inj h1;rw [hd, ← h1];by_cases h : d = c
 · subst h; simp
 · rw [decide_eq_false (fun e => h (UInt8.toNat_inj.1 e))];simp [h]
end Go.Proofs.YtmjbnhjgebjhlaaDoor
namespace Go.Proofs.YtmjbnhjgebjhlaaDoor
open Go.RowKit
set_option maxRecDepth 100000
attribute [local irreducible] OW RS
theorem shl63 (neg : Bool) : IntKind.u64.wrap (((b2n neg : Nat) : Int) * 2 ^ (min (63 : Int).toNat IntKind.u64.bits)) = ((sgB neg : Nat) : Int) := by
 cases neg <;> decide +kernel
section
variable (w : World) {bp op cp bf of cf bl ol cl : Nat}
theorem common_digit (s : ByteArray) (h : 48 ≤ bAt s 0 ∧ bAt s 0 ≤ 57) : Calls Tryd.prog 67 #[.string s, .string ⟨#[105, 110, 102, 105, 110, 105, 116, 121]⟩] w fun e w' => e = .returned (.int .i64 0) ∧ Below w.heap.size w w' := by
 have hs : 0 < s.size := ox (by omega);refine yl Tryd.func67 rfl Tryd.ntmps67 rfl ?_;have LW := erx (No) w;have XLW := grx (No) w;have E := erx (No) w
 refine srx (anx rfl (srx (mvx rfl (za rfl (qc Tryd.underlying9 rfl (mvx rfl (za rfl (qc Tryd.underlying9 rfl (za rfl (ow_min rfl rfl (anx rfl (zf (srx (anx rfl (zx (cw_unroll (zf (srx (mvx rfl (mvx rfl (za rfl (yt rfl rfl (rnx (zu 15 (.bool true) rfl ((by rw [decide_eq_true (by split <;> omega)] : (.bool (decide (0 < (if ((s.size : Nat) : Int) < 8 then ((s.size : Nat) : Int) else 8))) : Value) = _)) (yi rfl (zj (ze (zf (zx (srx (mvx rfl ?_)))))))))))))))))))))))))))))))
 refine mvx rfl (za rfl (yh (j := 0) (b := bAt s 0) Tryd.underlying9 rfl rfl rfl (yu hs) (anx rfl (zf (srx (mvx rfl (za rfl (gz rfl rfl (mvx rfl (yd 23 (.bool false) rfl ((by rw [decide_eq_false (by omega)] : (.bool (decide (65 ≤ ((bAt s 0 : Nat) : Int))) : Value) = _)) (za rfl (zc rfl (za rfl (zc rfl (za rfl (ya rfl rfl (rnx (zy rfl (zj (ze (srx (mvx rfl (mvx rfl (mvx rfl (za rfl (yh (j := 0) (b := 105) Tryd.underlying9 rfl rfl rfl (by kernel_rfl) (za rfl (qn rfl rfl (rnx (zu 33 (.bool true) rfl ((by rw [bne_iff_ne.2 (by omega)] : (.bool (((bAt s 0 : Nat) : Int) != 105) : Value) = _)) (yi rfl (srx (mvx rfl (anx rfl (zr (zn (zd ?_)))))))))))))))))))))))))))))))))))))
 refine zd (zn (zd (zp (rs := [.tmp 4]) (vs := [_]) rfl ⟨rfl, trivial⟩ ?_)));exact ⟨rfl, (LW.step E XLW).toBelow⟩
theorem special_neg (s : ByteArray) (h45 : bAt s 0 = 45) (h : 48 ≤ bAt s 1 ∧ bAt s 1 ≤ 57) : Calls Tryd.prog 53 #[.string s] w fun e w' => e = .returned (.tuple #[.float .f64 0, .int .i64 0, .bool false]) ∧ Below w.heap.size w w' := by
 have hs : 1 < s.size := ox (by omega);refine yl Tryd.func53 rfl Tryd.ntmps53 rfl ?_;have LW := erx (No) w;have XLW := grx (No) w;have E := erx (No) w
 refine srx (avx rfl (avx rfl (anx rfl (zf (srx (mvx rfl (za rfl (qc Tryd.underlying9 rfl (za rfl (ye rfl rfl (rnx (zu 10 (.bool false) rfl ((by rw [vy (by omega)] : (.bool (((s.size : Nat) : Int) == 0) : Value) = _)) (zy rfl (zj (ze (srx (anx rfl (srx (anx rfl (zf (srx (mvx rfl (za rfl (yh (j := 0) (b := bAt s 0) Tryd.underlying9 rfl rfl rfl (yu (by omega)) (yd 12 (.int .u8 45) rfl ((by rw [h45]; rfl : (.int .u8 ((bAt s 0 : Nat) : Int) : Value) = _)) (rnx (zx (zf (zx ?_)))))))))))))))))))))))))))))
 refine zf (zx (zf (zx (zf (zf (zf (srx (za rfl (ye rfl rfl (anx rfl (zy rfl (zi (za rfl (ye rfl rfl (anx rfl (yi rfl (yn (zg (zg (zv (ze (zf (srx (mvx rfl (za rfl (yh (j := 0) (b := bAt s 0) Tryd.underlying9 rfl rfl rfl (yu (by omega)) (yd 23 (.int .u8 45) rfl ((by rw [h45]; rfl : (.int .u8 ((bAt s 0 : Nat) : Int) : Value) = _)) (za rfl (ye rfl rfl (rnx (yi rfl (zi (anx rfl (zf ?_))))))))))))))))))))))))))))))))))
 refine zi (anx rfl (zi (mvx rfl (za rfl (vo (l := 1) (h := s.size) Tryd.underlying9 rfl ⟨_, rfl⟩ rfl (by omega) (by omega) (avx rfl (yf (zm (ze (zf (srx (mvx rfl (za rfl (zz en67 rfl ((common_digit _ (s.extract 1 s.size) (by rw [kc]; exact h)).mono ?_)))))))))))))));rintro e w1 ⟨rfl, hb⟩;refine ⟨_, rfl, ?_⟩;replace E := blx E hb
 refine anx rfl (zf (srx (mvx rfl (za rfl (yt rfl rfl (mvx rfl (za rfl (zc rfl (za rfl (zc rfl (za rfl (ya rfl rfl (rnx (zy rfl (zj (ze (srx (mvx rfl (za rfl (ye rfl rfl (mvx rfl (onx rfl (zq rfl (onx rfl (ye rfl rfl (za rfl (ya rfl rfl (rnx (zy rfl (zj (ze (yn (yv rfl (zg (zv (ze (srx (avx rfl (avx rfl (avx rfl ?_))))))))))))))))))))))))))))))))))))))))
 refine rnx (zr (zp (rs := [.tmp 2, .tmp 3, .tmp 4]) (vs := [_, _, _]) rfl ⟨rfl, rfl, rfl, trivial⟩ ?_));exact ⟨rfl, (LW.step E XLW).toBelow⟩
theorem special_any (s : ByteArray) (f : Nat) (neg : Bool) (hsg : SgnAt s f neg) (h : 48 ≤ bAt s f ∧ bAt s f ≤ 57) : Calls Tryd.prog 53 #[.string s] w fun e w' => e = .returned (.tuple #[.float .f64 0, .int .i64 0, .bool false]) ∧ Below w.heap.size w w' := by
 rcases hsg with ⟨_, rfl⟩ | ⟨_, rfl, h45⟩
 · exact special_digit w s (bAt s 0) (yu (ox (by omega))) h
 · exact special_neg w s h45 h
theorem atof_any (s : ByteArray) (f : Nat) (neg : Bool) {p Z q : Nat} (hsg : SgnAt s f neg) (hs : Nm s f p Z q) (hl : s.size < 100000) (hT : Tabs bp op cp bf of cf bl ol cl w) : Calls Tryd.prog 51 #[.string s] w fun e w' => e = .returned (.tuple #[.float .f64 (atV s f neg), .int .i64 ((s.size : Nat) : Int), atE s f neg]) ∧ Below w.heap.size w w' := by
 have hfd := hs.first;have hmm := rdM_lt hs;refine yl Tryd.func51 rfl Tryd.ntmps51 rfl ?_;have HF : Per (No) w (fun _ => True) := Per.true_;have LW := erx (No) w;have XLW := grx (No) w;have E := erx (No) w;replace HF := HF.on E;replace LW := LW.step E XLW;replace E := erx (No) w;replace HF := HF.and (Per.tabs hT (fun _ h => h.elim))
 refine srx (avx rfl (avx rfl (anx rfl (zf (srx (mvx rfl (za rfl (zz en53 rfl ((special_any _ s f neg hsg hfd).mono ?_)))))))));rintro e w1 ⟨rfl, hb⟩;refine ⟨_, rfl, ?_⟩;replace E := blx E hb
 refine mvx rfl (za rfl (yc rfl rfl (za rfl (yc rfl rfl (za rfl (yc rfl rfl (avx rfl (avx rfl (anx rfl (srx (mvx rfl (rnx (zy rfl (zj (ze (srx (mvx rfl (za rfl (zz en54 rfl ((readf_any _ s f neg hsg hs hl).mono ?_))))))))))))))))))));rintro e w2 ⟨rfl, hb⟩;refine ⟨_, rfl, ?_⟩;replace E := blx E hb
 refine mvx rfl (za rfl (yc rfl rfl (za rfl (yc rfl rfl (za rfl (yc rfl rfl (za rfl (yc rfl rfl (za rfl (yc rfl rfl (za rfl (yc rfl rfl (za rfl (yc rfl rfl (avx rfl (avx rfl (avx rfl (avx rfl (avx rfl (avx rfl (anx rfl (zf (srx (mvx rfl (za rfl (vw rfl (rnx (zy rfl (zj (ze (zf (srx (mvx rfl (rnx (zy rfl (zj (ze (zf (srx (za rfl (yk Tryd.underlying4 rfl rfl (HF.on E).here.2.opt ?_)))))))))))))))))))))))))))))))))))))))))
 refine rnx (yi rfl (srx (mvx rfl (za rfl (zz en62 rfl ((bool2u _ neg).mono ?_))))));rintro e w3 ⟨rfl, hb⟩;refine ⟨_, rfl, ?_⟩;replace E := blx E hb
 refine za rfl (jl rfl rfl (by decide) (shl63 neg) (anx rfl (zf (srx (mvx rfl (za rfl (ye rfl rfl (rnx (zu 69 (.bool (decide (rdM s f = 0))) rfl ((by rw [zero_b] : (.bool (((rdM s f : Nat) : Int) == 0) : Value) = _)) (zt rfl (fun h1 => ?_) (fun h1 => ?_)))))))))))
 ·
  have h1 := of_decide_eq_true h1;refine srx (mvx rfl (za rfl (kv rfl rfl (ke (n := 0) (sgB_lt neg) (by decide)) (za rfl (jh (b := sgB neg ||| 0) ex63 rfl (mvx rfl (avx rfl (avx rfl (anx rfl (zr (zd (zd (zp (rs := [.tmp 2, .tmp 3, .tmp 4]) (vs := [_, _, _]) rfl ⟨rfl, rfl, rfl, trivial⟩ ?_)))))))))))))
  exact ⟨by rw [show atV s f neg = sgB neg ||| 0 by unfold atV; rw [if_pos h1], show atE s f neg = .nilIface by unfold atE; rw [if_pos h1]]; rfl, (LW.step E XLW).toBelow⟩
 ·
  have h1 := of_decide_eq_false h1;refine zj (ze (zf (srx (mvx rfl (za rfl (qq rfl rfl (rnx (zt rfl (fun h2 => ?_) (fun h2 => ?_)))))))))
  ·
   have h2 := of_decide_eq_true h2
   refine srx (mvx rfl (za rfl (kv rfl rfl (ke (n := 9218868437227405312) (sgB_lt neg) (by decide)) (za rfl (jh (b := sgB neg ||| 9218868437227405312) ex63 rfl (mvx rfl (za rfl (ow_mkI (by kernel_rfl) rfl (avx rfl (avx rfl (anx rfl (zr (zd (zd (zp (rs := [.tmp 2, .tmp 3, .tmp 4]) (vs := [_, _, _]) rfl ⟨rfl, rfl, rfl, trivial⟩ ?_)))))))))))))))
   exact ⟨by rw [show atV s f neg = sgB neg ||| 9218868437227405312 by unfold atV; rw [if_neg h1, if_pos h2], show atE s f neg = rangeE by unfold atE; rw [if_neg h1, if_pos h2]]; rfl, (LW.step E XLW).toBelow⟩
  ·
   have h2 := of_decide_eq_false h2;refine zj (ze (zf (srx (mvx rfl (za rfl (yt rfl rfl (rnx (zt rfl (fun h3 => ?_) (fun h3 => ?_)))))))))
   ·
    have h3 := of_decide_eq_true h3;refine srx (mvx rfl (za rfl (kv rfl rfl (ke (n := 0) (sgB_lt neg) (by decide)) (za rfl (jh (b := sgB neg ||| 0) ex63 rfl (mvx rfl (avx rfl (avx rfl (anx rfl (zr (zd (zd (zp (rs := [.tmp 2, .tmp 3, .tmp 4]) (vs := [_, _, _]) rfl ⟨rfl, rfl, rfl, trivial⟩ ?_)))))))))))))
    exact ⟨by rw [show atV s f neg = sgB neg ||| 0 by unfold atV; rw [if_neg h1, if_neg h2, if_pos h3], show atE s f neg = .nilIface by unfold atE; rw [if_neg h1, if_neg h2, if_pos h3]]; rfl, (LW.step E XLW).toBelow⟩
   ·
    have h3 := of_decide_eq_false h3;refine zj (ze (zf (srx (mvx rfl (za rfl (vw rfl (rnx ?_)))))));replace HF := HF.on E;replace LW := LW.step E XLW;replace E := erx (No) w3
    refine qd (ι := Unit) (fun _ => [(0, .string s), (3, .int .i64 ((s.size : Nat) : Int)), (4, .nilIface), (8, .int .u64 ((rdM s f : Nat) : Int)), (9, .int .i64 (rdX s f)), (11, .bool (rdT s f)), (16, .int .u64 ((sgB neg : Nat) : Int))]) (fun _ w' => Ext (No) w3 w' ∧ (¬ (rdT s f = false ∧ (exF (rdM s f) (rdX s f) neg).2 = true))) ?_ ?_
    ·
     have M4 := erx (No) w3;have XM4 := grx (No) w3;refine zt rfl (fun h5 => ?_) (fun h5 => ?_)
     ·
      have h5 : rdT s f = false := by simpa using h5
      refine srx (mvx rfl (mvx rfl (mvx rfl (za rfl (zz en64 rfl ((exact_any _ (rdM s f) (rdX s f) neg (by omega) (HF.on E).here.2).mono ?_))))));rintro e w6 ⟨rfl, hb⟩;refine ⟨_, rfl, ?_⟩;replace E := blx E hb;refine mvx rfl (za rfl (yc rfl rfl (za rfl (yc rfl rfl (avx rfl (anx rfl (srx (mvx rfl (rnx (zt rfl (fun h6 => ?_) (fun h6 => ?_)))))))))))
      ·
       refine srx (mvx rfl (mvx rfl (avx rfl (avx rfl (anx rfl (zr (zd (zd (zp (rs := [.tmp 2, .tmp 3, .tmp 4]) (vs := [_, _, _]) rfl ⟨rfl, rfl, rfl, trivial⟩ ?_)))))))))
       exact ⟨by rw [show atV s f neg = (exF (rdM s f) (rdX s f) neg).1 by unfold atV; rw [if_neg h1, if_neg h2, if_neg h3, if_pos ⟨h5, h6⟩], show atE s f neg = .nilIface by unfold atE; rw [if_neg h1, if_neg h2, if_neg h3, if_pos ⟨h5, h6⟩]]; rfl, (LW.step E XLW).toBelow⟩
      ·
       refine zj ?_;exact yp () ⟨rfl, rfl, rfl, rfl, rfl, rfl, rfl, trivial⟩ ⟨M4.step E XM4, fun h => absurd h.2 (by rw [h6]; decide)⟩
     ·
      refine zj ?_;exact yp () ⟨rfl, rfl, rfl, rfl, rfl, rfl, rfl, trivial⟩ ⟨M4.step E XM4, fun h => absurd h5 (by rw [h.1]; decide)⟩
    ·
     rintro _ w5 ⟨M4, h4⟩;replace E := E.trans M4;replace HF := HF.on E;replace LW := LW.step E XLW;replace E := erx (No) w5;have hj : 3 ≤ atJ s f ∧ atJ s f ≤ 658 := by unfold atJ; omega
     refine srx (mvx rfl (mvx rfl (mvx rfl (yd 101 (.int .i64 (((atJ s f : Nat) : Int) - 348)) rfl ((by congr 1; unfold atJ; omega : (.int .i64 (rdX s f) : Value) = _)) (za rfl (zz en65 rfl ((fast_any _ (rdM s f) (atJ s f) (sgB neg) (by omega) hj (sgB_lt neg) (HF.on E).here.2.pow).mono ?_)))))));rintro e w7 ⟨rfl, hb⟩;refine ⟨_, rfl, ?_⟩;replace E := blx E hb
     refine mvx rfl (za rfl (yc rfl rfl (za rfl (yc rfl rfl (avx rfl (anx rfl (zf (srx (mvx rfl (za rfl (vw rfl (rnx (zt rfl (fun h5 => ?_) (fun h5 => ?_))))))))))))))
     ·
      have h5 : rdT s f = false := by simpa using h5
      refine srx (mvx rfl (mvx rfl (mvx rfl (avx rfl (avx rfl (anx rfl (zr (zd (zd (zp (rs := [.tmp 2, .tmp 3, .tmp 4]) (vs := [_, _, _]) rfl ⟨rfl, rfl, rfl, trivial⟩ ?_))))))))))
      exact ⟨by rw [show atV s f neg = zyx (rdM s f) (atJ s f) (sgB neg) by unfold atV; rw [if_neg h1, if_neg h2, if_neg h3, if_neg h4, if_pos (.inl h5)]; try rfl, show atE s f neg = zyz (rdM s f) (atJ s f) (sgB neg) by unfold atE; rw [if_neg h1, if_neg h2, if_neg h3, if_neg h4, if_pos (.inl h5)]; try rfl]; rfl, (LW.step E XLW).toBelow⟩
     ·
      have h5 : ¬ rdT s f = false := fun e => absurd h5 (by rw [e]; decide)
      refine zj (ze (srx (mvx rfl (za rfl (yg rfl rfl (wrap_u64 (by omega)) (mvx rfl (mvx rfl (yd 113 (.int .u64 ((rdM s f + 1 : Nat) : Int)) rfl (rfl) (yd 114 (.int .i64 (((atJ s f : Nat) : Int) - 348)) rfl ((by congr 1; unfold atJ; omega : (.int .i64 (rdX s f) : Value) = _)) (za rfl (zz en65 rfl ((fast_any _ (rdM s f + 1) (atJ s f) (sgB neg) (by omega) hj (sgB_lt neg) (HF.on E).here.2.pow).mono ?_))))))))))))
      rintro e w8 ⟨rfl, hb⟩;refine ⟨_, rfl, ?_⟩;have Ec := Ext.of_below hb No;replace E := E.trans Ec.no;refine mvx rfl (za rfl (yc rfl rfl (za rfl (yc rfl rfl (avx rfl (anx rfl (srx (mvx rfl (mvx rfl (za rfl (ow_feql rfl rfl (rnx (zt rfl (fun h6 => ?_) (fun h6 => ?_))))))))))))))
      ·
       have h6 : atL s f neg = true := h6;refine srx (mvx rfl (mvx rfl (mvx rfl (avx rfl (avx rfl (anx rfl (zr (zd (zp (rs := [.tmp 2, .tmp 3, .tmp 4]) (vs := [_, _, _]) rfl ⟨rfl, rfl, rfl, trivial⟩ ?_)))))))))
       exact ⟨by rw [show atV s f neg = zyx (rdM s f) (atJ s f) (sgB neg) by unfold atV; rw [if_neg h1, if_neg h2, if_neg h3, if_neg h4, if_pos (.inr h6)]; try rfl, show atE s f neg = zyz (rdM s f) (atJ s f) (sgB neg) by unfold atE; rw [if_neg h1, if_neg h2, if_neg h3, if_neg h4, if_pos (.inr h6)]; try rfl]; rfl, (LW.step E XLW).toBelow⟩
      ·
       have h6 : ¬ (rdT s f = false ∨ atL s f neg = true) := fun h => h.elim h5 (fun h => by rw [show atL s f neg = false from h6] at h; cases h);have hdec := setD_ok neg hs;have hddp := setD_dp neg hs hl;refine zj (ze (srx (za rfl (jb zrDec ?_))));intro gc w9 Bc Ec Gc;replace Bc : Blk w9 gc 125 (yz (zhq false)) := Bc;have Gc : _ ≤ gc := Nat.le_trans E.size Gc
       have GLc := Nat.le_trans LW.size Gc;replace E := E.trans Ec.no;replace HF := HF.cons (yb Gc);replace E := E.cons (some gc);replace XLW := Mut.grow XLW (fun k e => Or.inr (Nat.le_trans LW.size ((yb Gc) k e)));have hg := hT.below.le GLc
       refine rnx (zf (srx (mvx rfl (mvx rfl (za rfl (vo (l := 0) (h := s.size) Tryd.underlying9 rfl rfl ⟨_, rfl⟩ (Nat.zero_le _) (Nat.le_refl _) (yd 127 (.string s) rfl ((by rw [yix] : (.string (s.extract 0 s.size) : Value) = _)) (za rfl (zz en60 rfl ((set_any _ gc s f neg hsg hs hl Bc).mono ?_))))))))));rintro e w10 ⟨rfl, hB, hE⟩;refine ⟨_, rfl, ?_⟩
       replace Bc := hB;clear hB;replace E := E.step1 hE Mut.head;clear hE;refine za rfl (vw rfl (rnx (zy rfl (zj (ze (srx (za rfl (zz en61 rfl ((bits_any _ gc (setD s f neg) hdec hddp Bc (HF.on E).here.2 hg).mono ?_)))))))));rintro e w11 ⟨rfl, ⟨t9, hB⟩, hE⟩;refine ⟨_, rfl, ?_⟩;replace Bc := hB;clear hB;replace E := E.step1 hE Mut.head;clear hE
       refine mvx rfl (za rfl (yc rfl rfl (za rfl (yc rfl rfl (avx rfl (anx rfl (srx (mvx rfl (za rfl (jh (b := zaq (setD s f neg)) ex63 rfl (anx rfl (zf (srx (mvx rfl (rnx (zt rfl (fun h7 => ?_) (fun h7 => ?_)))))))))))))))))
       ·
        refine zi (za rfl (ow_mkI (by kernel_rfl) rfl (anx rfl (srx (mvx rfl (mvx rfl (mvx rfl (avx rfl (avx rfl (anx rfl (zr (zp (rs := [.tmp 2, .tmp 3, .tmp 4]) (vs := [_, _, _]) rfl ⟨rfl, rfl, rfl, trivial⟩ ?_))))))))))))
        exact ⟨by rw [show atV s f neg = zaq (setD s f neg) by unfold atV; rw [if_neg h1, if_neg h2, if_neg h3, if_neg h4, if_neg h6], show atE s f neg = rangeE by unfold atE; rw [if_neg h1, if_neg h2, if_neg h3, if_neg h4, if_neg h6, if_pos h7]]; rfl, (LW.step E XLW).toBelow⟩
       ·
        refine zj (ze (srx (mvx rfl (mvx rfl (mvx rfl (avx rfl (avx rfl (anx rfl (zr (zp (rs := [.tmp 2, .tmp 3, .tmp 4]) (vs := [_, _, _]) rfl ⟨rfl, rfl, rfl, trivial⟩ ?_))))))))))
        exact ⟨by rw [show atV s f neg = zaq (setD s f neg) by unfold atV; rw [if_neg h1, if_neg h2, if_neg h3, if_neg h4, if_neg h6], show atE s f neg = .nilIface by unfold atE; rw [if_neg h1, if_neg h2, if_neg h3, if_neg h4, if_neg h6, if_neg (by rw [h7]; decide)]]; rfl, (LW.step E XLW).toBelow⟩
theorem prefix_any64 (s : ByteArray) (f : Nat) (neg : Bool) {p Z q : Nat} (hsg : SgnAt s f neg) (hs : Nm s f p Z q) (hl : s.size < 100000) (hT : Tabs bp op cp bf of cf bl ol cl w) : Calls Tryd.prog 46 #[.string s, .int .i64 64] w fun e w' => e = .returned (.tuple #[.float .f64 (atV s f neg), .int .i64 ((s.size : Nat) : Int), atE s f neg]) ∧ Below w.heap.size w w' := by
 refine yl Tryd.func46 rfl Tryd.ntmps46 rfl ?_;have LW := erx (No) w;have XLW := grx (No) w;have E := erx (No) w;refine srx (avx rfl (avx rfl (anx rfl (zf (srx (mvx rfl (za rfl (ye rfl rfl (rnx (zy rfl (zj (ze (srx (mvx rfl (za rfl (zz en51 rfl ((atof_any _ s f neg hsg hs hl hT).mono ?_)))))))))))))))));rintro e w1 ⟨rfl, hb⟩;refine ⟨_, rfl, ?_⟩
 replace E := blx E hb;refine za rfl (yc rfl rfl (za rfl (yc rfl rfl (za rfl (yc rfl rfl (avx rfl (avx rfl (anx rfl (zr (zp (rs := [.tmp 4, .tmp 5, .tmp 6]) (vs := [_, _, _]) rfl ⟨rfl, rfl, rfl, trivial⟩ ?_))))))))));exact ⟨rfl, (LW.step E XLW).toBelow⟩
theorem inner_any (s : ByteArray) (f : Nat) (neg : Bool) {p Z q : Nat} (hsg : SgnAt s f neg) (hs : Nm s f p Z q) (hl : s.size < 100000) (hT : Tabs bp op cp bf of cf bl ol cl w) : Calls Tryd.prog 37 #[.string s, .int .i64 64] w fun e w' => e = .returned (.tuple #[.float .f64 (atV s f neg), atE s f neg]) ∧ Below w.heap.size w w' := by
 refine yl Tryd.func37 rfl Tryd.ntmps37 rfl ?_;have LW := erx (No) w;have XLW := grx (No) w;have E := erx (No) w;refine srx (avx rfl (anx rfl (srx (mvx rfl (mvx rfl (za rfl (zz en46 rfl ((prefix_any64 _ s f neg hsg hs hl hT).mono ?_))))))));rintro e w1 ⟨rfl, hb⟩;refine ⟨_, rfl, ?_⟩;replace E := blx E hb
 refine mvx rfl (za rfl (yc rfl rfl (za rfl (yc rfl rfl (za rfl (yc rfl rfl (avx rfl (avx rfl (anx rfl (zf (srx (mvx rfl (mvx rfl (za rfl (qc Tryd.underlying9 rfl (za rfl (qn rfl rfl (rnx (zu 19 (.bool false) rfl ((by simp : (.bool (((s.size : Nat) : Int) != ((s.size : Nat) : Int)) : Value) = _)) (zy rfl (zj (ze (srx (mvx rfl (mvx rfl (avx rfl (anx rfl (zr (zp (rs := [.tmp 4, .tmp 5]) (vs := [_, _]) rfl ⟨rfl, rfl, trivial⟩ ?_)))))))))))))))))))))))))))))
 exact ⟨rfl, (LW.step E XLW).toBelow⟩
theorem parsef_any (s : ByteArray) (f : Nat) (neg : Bool) {p Z q : Nat} (hsg : SgnAt s f neg) (hs : Nm s f p Z q) (hl : s.size < 100000) (hT : Tabs bp op cp bf of cf bl ol cl w) (hE : ∃ te pe, w.cell? ⟨2, 0, none⟩ = some (.iface te pe)) : Calls Tryd.prog 28 #[.string s, .int .i64 64] w fun e w' => (∃ er, e = .returned (.tuple #[.float .f64 (atV s f neg), er])) ∧ Below w.heap.size w w' := by
 obtain ⟨te, pe, hE⟩ := hE;have hor := atE_or s f neg;obtain ⟨er, her⟩ : ∃ er, er = atE s f neg := ⟨_, rfl⟩;rw [← her] at hor;refine yl Tryd.func28 rfl Tryd.ntmps28 rfl ?_;have HF : Per (No) w (fun _ => True) := Per.true_;have LW := erx (No) w;have XLW := grx (No) w;have E := erx (No) w;replace HF := HF.on E;replace LW := LW.step E XLW;replace E := erx (No) w
 replace HF := HF.and (Per.cellA hE (fun _ h => h.elim));refine srx (avx rfl (anx rfl (srx (mvx rfl (mvx rfl (za rfl (zz en37 rfl ((inner_any _ s f neg hsg hs hl hT).mono ?_))))))));rintro e w1 ⟨rfl, hb⟩;refine ⟨_, rfl, ?_⟩;replace E := blx E hb;rw [← her];by_cases hn : er = .nilIface
 ·
  subst hn;refine mvx rfl (za rfl (yc rfl rfl (za rfl (yc rfl rfl (avx rfl (anx rfl (zf (srx (mvx rfl (za rfl (ow_neqN Tryd.underlying69 rfl (rnx (zy rfl (zj (ze (srx (mvx rfl (avx rfl (anx rfl (zr (zp (rs := [.tmp 4, .tmp 5]) (vs := [_, _]) rfl ⟨rfl, rfl, trivial⟩ ?_)))))))))))))))))))));exact ⟨⟨_, rfl⟩, (LW.step E XLW).toBelow⟩
 ·
  obtain rfl : er = rangeE := hor.resolve_left hn;refine mvx rfl (za rfl (yc rfl rfl (za rfl (yc rfl rfl (avx rfl (anx rfl (zf (srx (mvx rfl (za rfl (ow_neqI Tryd.underlying69 rfl (rnx (yi rfl (srx (mvx rfl (mvx rfl (mvx rfl (mvx rfl (za rfl (zz en32 rfl ((range_err _ s 0 64 _ hl ⟨te, pe, (HF.on E).here.2⟩).mono ?_)))))))))))))))))))))
  rintro e w2 ⟨⟨er2, rfl⟩, hb⟩;refine ⟨_, rfl, ?_⟩;replace E := blx E hb;refine avx rfl (anx rfl (zr (zd (zp (rs := [.tmp 4, .tmp 5]) (vs := [_, _]) rfl ⟨rfl, rfl, trivial⟩ ?_))));exact ⟨⟨_, rfl⟩, (LW.step E XLW).toBelow⟩
theorem parse_pos (s : ByteArray) {p Z q : Nat} (hs : Nm s 0 p Z q) (hl : s.size < 100000) (hT : Tabs bp op cp bf of cf bl ol cl w) (hE : ∃ te pe, w.cell? ⟨2, 0, none⟩ = some (.iface te pe)) : Calls Tryd.prog 28 #[.string s, .int .i64 64] w fun e w' => (∃ er, e = .returned (.tuple #[.float .f64 (atV s 0 false), er])) ∧ Below w.heap.size w w' := parsef_any w s 0 false (.inl ⟨rfl, rfl⟩) hs hl hT hE
end
end Go.Proofs.YtmjbnhjgebjhlaaDoor
namespace Go.Proofs.YtmjbnhjgebjhlaaDoor
open Go.RowKit
set_option maxRecDepth 100000
attribute [local irreducible] OW RS
theorem eq_nil (s : ByteArray) (k : Nat) : ((s.extract k s.size).toList == (⟨#[]⟩ : ByteArray).toList) = decide (s.size ≤ k) := by
 rw [bytes_list #[]];by_cases h : s.size ≤ k
 · rw [decide_eq_true h, yhv.2 h]; rfl
 · rw [decide_eq_false h];exact beq_eq_false_iff_ne.2 (fun e => h (yhv.1 e))
theorem ne_nil (s : ByteArray) (k : Nat) : (!((s.extract k s.size).toList == (⟨#[]⟩ : ByteArray).toList)) = decide (k < s.size) := by
 rw [eq_nil];by_cases h : k < s.size
 · rw [decide_eq_true h, decide_eq_false (by omega)]; rfl
 · rw [decide_eq_false h, decide_eq_true (by omega)]; rfl
theorem zyq {s : ByteArray} {f k z m : Nat} (hz : z = s.size - f) (hm : f + k = m) : (s.extract f s.size).extract k z = s.extract m s.size := by
 subst hz; subst hm;rw [← extract_extract, qg]
theorem nB_dot {s : ByteArray} {a : Nat} (h : bAt s a = 46) : nB s a = xo s (a + 1) := by unfold nB; rw [if_pos h]
theorem nB_no {s : ByteArray} {a : Nat} (h : ¬ bAt s a = 46) : nB s a = a := by unfold nB; rw [if_neg h]
theorem nC_e {s : ByteArray} {a : Nat} (h : bAt s a = 101) : nC s a = xo s (nQ s a) := by unfold nC; rw [if_pos h]
theorem nC_no {s : ByteArray} {a : Nat} (h : ¬ bAt s a = 101) : nC s a = a := by unfold nC; rw [if_neg h]
theorem nC_le {s : ByteArray} {b : Nat} (hb : b ≤ s.size) : nC s b ≤ s.size := by
 by_cases h : bAt s b = 101
 · rw [nC_e h];exact (km (nQ_le (ox (by omega)))).1.hi
 · rw [nC_no h]; exact hb
theorem sgB_add {x : Nat} (h : x ≤ 9218868437227405312) (neg : Bool) : sgB neg ||| x = sgB neg + x := by
 cases neg with
 | false => rw [show sgB false = 0 from rfl, Nat.zero_or, Nat.zero_add]
 | true =>
  have h2 := Nat.two_pow_add_eq_or_of_lt (show x < 2 ^ 63 by show x < 9223372036854775808; omega) 1;exact h2.symm
section
variable (w : World)
theorem ztq (s : ByteArray) (hl : s.size < 100000) : Calls Tryd.prog 35 #[.string s] w fun e w' => e = .returned (.int .i64 ((xo s 0 : Nat) : Int)) ∧ Below w.heap.size w w' := by
 have hle := Nat.zero_le s.size;refine yl Tryd.func35 rfl Tryd.ntmps35 rfl ?_;have LW := erx (No) w;have XLW := grx (No) w;have E := erx (No) w;refine srx (anx rfl (srx (anx rfl (zf (zx ?_)))));replace LW := LW.step E XLW;replace E := erx (No) w
 refine qk (ι := Nat) (fun n => [(0, .string s), (3, .int .i64 ((n : Nat) : Int))]) (fun n w' => Ext (No) w w' ∧ (RuI s 0 n ∧ qv (gn s) (fun i => i + 1) n = xo s 0)) (fun n => s.size - n) 0 ⟨rfl, rfl, trivial⟩ ⟨Ext.refl _ _, ⟨Nat.le_refl _, hle, fun j h1 h2 => absurd h1 (Nat.not_le.2 h2)⟩, rfl⟩ ?_;rintro n w2 ⟨M1, ⟨hI, hu⟩⟩;have XM1 := grx (No) w;replace E := E.trans M1
 replace LW := LW.step E XLW;replace E := erx (No) w2;have hlo := hI.lo;have hhi := hI.hi;refine zf (srx (mvx rfl (mvx rfl (za rfl (qc Tryd.underlying9 rfl (za rfl (yt rfl rfl (mvx rfl (yo 8 rfl (fun h1 => ?_) (fun h1 => ?_))))))))))
 ·
  have h1 : n < s.size := by have h1 := of_decide_eq_true h1; omega
  refine onx rfl (zq rfl (onx rfl (zq rfl (onx rfl (yh (j := n) (b := bAt s (n)) Tryd.underlying9 rfl rfl rfl (yu (by omega)) (onx rfl (vr rfl rfl (za rfl (zw rfl rfl (mvx rfl (yo 14 rfl (fun h2 => ?_) (fun h2 => ?_))))))))))))
  ·
   have h2 : 48 ≤ bAt s n := by have h2 := of_decide_eq_true h2; omega
   refine onx rfl (zq rfl (onx rfl (zq rfl (onx rfl (yh (j := n) (b := bAt s (n)) Tryd.underlying9 rfl rfl rfl (yu (by omega)) (onx rfl (gz rfl rfl (za rfl (zw rfl rfl (rnx (zt rfl (fun h3 => ?_) (fun h3 => ?_))))))))))))
   ·
    have h3 : bAt s n ≤ 57 := by have h3 := of_decide_eq_true h3; omega
    have hdone := ru_on h1 ⟨h2, h3⟩;have hk := ru_keeps hI hdone;rw [vb hdone] at hu;refine zj (ze (zx (zi (mvx rfl (za rfl (yg rfl rfl (zo (by omega)) (avx rfl (yf (zm ?_)))))))));exact ym (n + 1) (by omega) ⟨rfl, rfl, trivial⟩ ⟨M1.step E XM1, hk, hu⟩
   ·
    have h3 : ¬ bAt s n ≤ 57 := by have h3 := of_decide_eq_false h3; omega
    have hdone : gn s n = true := by
     cases hd : gn s n with
     | true => rfl
     | false => exact absurd (ru_go hd).2.2 h3
    rw [qe hdone] at hu;refine yn (zg (zg (zv (ze (srx (mvx rfl (anx rfl (zr (zp (rs := [.tmp 2]) (vs := [_]) rfl ⟨rfl, trivial⟩ ?_)))))))));exact ⟨by rw [← hu]; rfl, (LW.step E XLW).toBelow⟩
  ·
   have h2 : ¬ 48 ≤ bAt s n := by have h2 := of_decide_eq_false h2; omega
   have hdone : gn s n = true := by
    cases hd : gn s n with
    | true => rfl
    | false => exact absurd (ru_go hd).2.1 h2
   rw [qe hdone] at hu;refine za rfl (zc rfl (za rfl (zc rfl (za rfl (zc rfl (za rfl (zc rfl (za rfl (ya rfl rfl (rnx (zy rfl (yn (zg (zg (zv (ze (srx (mvx rfl (anx rfl (zr (zp (rs := [.tmp 2]) (vs := [_]) rfl ⟨rfl, trivial⟩ ?_)))))))))))))))))))))
   exact ⟨by rw [← hu]; rfl, (LW.step E XLW).toBelow⟩
 ·
  have h1 : ¬ n < s.size := by have h1 := of_decide_eq_false h1; omega
  have hdone : gn s n = true := by
   cases hd : gn s n with
   | true => rfl
   | false => exact absurd (ru_go hd).1 h1
  rw [qe hdone] at hu
  refine za rfl (zc rfl (za rfl (zc rfl (za rfl (zc rfl (za rfl (zc rfl (za rfl (ya rfl rfl (mvx rfl (za rfl (zc rfl (za rfl (zc rfl (za rfl (zc rfl (za rfl (zc rfl (za rfl (ya rfl rfl (rnx (zy rfl (yn (zg (zg (zv (ze (srx (mvx rfl (anx rfl (zr (zp (rs := [.tmp 2]) (vs := [_]) rfl ⟨rfl, trivial⟩ ?_))))))))))))))))))))))))))))))))
  exact ⟨by rw [← hu]; rfl, (LW.step E XLW).toBelow⟩
theorem prefix1_in (s : ByteArray) (c : UInt8) (hc : c.toNat ≠ 0) : Calls Tryd.prog 45 #[.string s, .string ⟨#[c]⟩] w fun e w' => e = .returned (.bool (decide (bAt s 0 = c.toNat))) ∧ Below w.heap.size w w' := by
 have h1s : ((⟨#[c]⟩ : ByteArray).size : Nat) = 1 := rfl;refine yl Tryd.func45 rfl Tryd.ntmps45 rfl ?_;have LW := erx (No) w;have XLW := grx (No) w;have E := erx (No) w;refine srx (anx rfl (srx (mvx rfl (za rfl (qc Tryd.underlying9 rfl (mvx rfl (za rfl (qc Tryd.underlying9 rfl (za rfl (vr rfl rfl (mvx rfl (yo 10 rfl (fun h1 => ?_) (fun h1 => ?_)))))))))))))
 ·
  have h1 : 0 < s.size := by have h1 := of_decide_eq_true h1; rw [h1s] at h1; omega
  refine onx rfl (zq rfl (onx rfl (zq rfl (onx rfl (qc Tryd.underlying9 rfl (onx rfl (vo (l := 0) (h := 1) Tryd.underlying9 rfl rfl ⟨_, rfl⟩ (by decide) (by omega) (onx rfl (zq rfl (onx rfl (xz rfl rfl (za rfl (zw rfl rfl (anx rfl (zr (yr 4 (.bool (decide (bAt s 0 = c.toNat))) rfl (by rw [bytes_list #[c], list_one h1]) (zp (rs := [.tmp 4]) (vs := [_]) rfl ⟨rfl, trivial⟩ ?_)))))))))))))))))
  exact ⟨rfl, (LW.step E XLW).toBelow⟩
 ·
  have h1 : ¬ 0 < s.size := by have h1 := of_decide_eq_false h1; rw [h1s] at h1; omega
  refine za rfl (zc rfl (za rfl (zc rfl (za rfl (zc rfl (za rfl (zc rfl (za rfl (zc rfl (za rfl (zc rfl (za rfl (ya rfl rfl (anx rfl (zr (zp (rs := [.tmp 4]) (vs := [_]) rfl ⟨rfl, trivial⟩ ?_))))))))))))))));exact ⟨by rw [decide_eq_false (by rw [bAt_end (by omega)]; omega)]; rfl, (LW.step E XLW).toBelow⟩
theorem ygq (s : ByteArray) (c : UInt8) (hc : c.toNat ≠ 0) : Calls Tryd.prog 36 #[.string s, .string ⟨#[c]⟩] w fun e w' => e = .returned (.bool (decide (bAt s 0 = c.toNat))) ∧ Below w.heap.size w w' := by
 refine yl Tryd.func36 rfl Tryd.ntmps36 rfl ?_;have LW := erx (No) w;have XLW := grx (No) w;have E := erx (No) w;refine srx (anx rfl (srx (mvx rfl (mvx rfl (za rfl (zz en45 rfl ((prefix1_in _ s c hc).mono ?_)))))));rintro e w1 ⟨rfl, hb⟩;refine ⟨_, rfl, ?_⟩;replace E := blx E hb;refine anx rfl (zr (zp (rs := [.tmp 4]) (vs := [_]) rfl ⟨rfl, trivial⟩ ?_))
 exact ⟨rfl, (LW.step E XLW).toBelow⟩
def signed (s : ByteArray) : Bool := decide (bAt s 0 = 45)
def cut1 (s : ByteArray) : Nat := if bAt s 0 = 45 then 1 else 0
theorem cut_in (s : ByteArray) : Calls Tryd.prog 33 #[.string s, .string ⟨#[45]⟩] w fun e w' => e = .returned (.tuple #[.string (s.extract (cut1 s) s.size), .bool (signed s)]) ∧ Below w.heap.size w w' := by
 refine yl Tryd.func33 rfl Tryd.ntmps33 rfl ?_;have LW := erx (No) w;have XLW := grx (No) w;have E := erx (No) w;refine srx (avx rfl (anx rfl (zf (srx (mvx rfl (mvx rfl (za rfl (zz en45 rfl ((prefix1_in _ s 45 (by decide)).mono ?_)))))))));rintro e w1 ⟨rfl, hb⟩;refine ⟨_, rfl, ?_⟩;replace E := blx E hb
 refine yd 8 (.bool (signed s)) rfl (rfl) (za rfl (vw rfl (rnx ?_)));by_cases h : bAt s 0 = 45
 ·
  have e1 : signed s = true := decide_eq_true h;have e2 : cut1 s = 1 := by unfold cut1; rw [if_pos h]
  have hs := ox (s := s) (i := 0) (by omega)
  refine zu 9 (.bool false) rfl ((by rw [e1]; rfl : (.bool (!(signed s)) : Value) = _)) (zy rfl (zj (ze (srx (mvx rfl (mvx rfl (za rfl (qc Tryd.underlying9 rfl (za rfl (vo (l := 1) (h := s.size) Tryd.underlying9 rfl ⟨_, rfl⟩ rfl (by omega) (by omega) (avx rfl (anx rfl (zr (zp (rs := [.tmp 4, .tmp 5]) (vs := [_, _]) rfl ⟨rfl, rfl, trivial⟩ ?_))))))))))))))
  exact ⟨by rw [e1, e2]; rfl, (LW.step E XLW).toBelow⟩
 ·
  have e1 : signed s = false := decide_eq_false h;have e2 : cut1 s = 0 := by unfold cut1; rw [if_neg h]
  refine zu 9 (.bool true) rfl ((by rw [e1]; rfl : (.bool (!(signed s)) : Value) = _)) (yi rfl (srx (mvx rfl (avx rfl (anx rfl (zr (zd (zp (rs := [.tmp 4, .tmp 5]) (vs := [_, _]) rfl ⟨rfl, rfl, trivial⟩ ?_))))))));exact ⟨by rw [e1, e2, yix]; rfl, (LW.step E XLW).toBelow⟩
theorem cut_any (s : ByteArray) : Calls Tryd.prog 25 #[.string s, .string ⟨#[45]⟩] w fun e w' => e = .returned (.tuple #[.string (s.extract (cut1 s) s.size), .bool (signed s)]) ∧ Below w.heap.size w w' := by
 refine yl Tryd.func25 rfl Tryd.ntmps25 rfl ?_;have LW := erx (No) w;have XLW := grx (No) w;have E := erx (No) w;refine srx (avx rfl (anx rfl (srx (mvx rfl (mvx rfl (za rfl (zz en33 rfl ((cut_in _ s).mono ?_))))))));rintro e w1 ⟨rfl, hb⟩;refine ⟨_, rfl, ?_⟩;replace E := blx E hb
 refine za rfl (yc rfl rfl (za rfl (yc rfl rfl (avx rfl (anx rfl (zr (zp (rs := [.tmp 4, .tmp 5]) (vs := [_, _]) rfl ⟨rfl, rfl, trivial⟩ ?_)))))));exact ⟨rfl, (LW.step E XLW).toBelow⟩
theorem numeral_any (s : ByteArray) (hl : s.size < 100000) : Calls Tryd.prog 27 #[.string s] w fun e w' => e = .returned (.bool (numB s 0)) ∧ Below w.heap.size w w' := by
 obtain ⟨n, hn⟩ : ∃ n, n = xo s 0 := ⟨_, rfl⟩;have hnI := (km (s := s) (Nat.zero_le _)).1;rw [← hn] at hnI;have hns := hnI.hi;obtain ⟨b, hbq⟩ : ∃ b, b = nB s n := ⟨_, rfl⟩;have hbs := nB_le (s := s) hns;rw [← hbq] at hbs;refine yl Tryd.func27 rfl Tryd.ntmps27 rfl ?_;have LW := erx (No) w;have XLW := grx (No) w;have E := erx (No) w
 refine srx (anx rfl (srx (mvx rfl (za rfl (zz en35 rfl ((ztq _ s hl).mono ?_))))));rintro e w1 ⟨rfl, hb⟩;refine ⟨_, rfl, ?_⟩;replace E := blx E hb;refine yd 5 (.int .i64 ((n : Nat) : Int)) rfl ((by rw [hn] : (.int .i64 ((xo s 0 : Nat) : Int) : Value) = _)) (anx rfl (zf (srx (mvx rfl (za rfl (ye rfl rfl (rnx (zt rfl (fun h1 => ?_) (fun h1 => ?_)))))))))
 ·
  have h1 : n = 0 := by have h1 := eq_of_beq h1; omega
  have e : numB s 0 = false := zxq (fun h => by have := h.1; rw [← hn] at this; omega);refine srx (anx rfl (zr (zd (zp (rs := [.tmp 2]) (vs := [_]) rfl ⟨rfl, trivial⟩ ?_))));exact ⟨by rw [e]; rfl, (LW.step E XLW).toBelow⟩
 ·
  have h1 : n ≠ 0 := fun e => absurd h1 (by rw [e]; decide);refine zj (ze (srx (mvx rfl (mvx rfl (za rfl (vo (l := n) (h := s.size) Tryd.underlying9 rfl ⟨_, rfl⟩ rfl (by omega) (by omega) (anx rfl (zf (srx (mvx rfl (za rfl (zz en36 rfl ((ygq _ (s.extract n s.size) 46 (by decide)).mono ?_)))))))))))));rintro e w2 ⟨rfl, hb⟩;refine ⟨_, rfl, ?_⟩
  replace E := blx E hb;refine yd 12 (.bool (decide (bAt s n = 46))) rfl ((by rw [kc, Nat.add_zero]; rfl : (.bool (decide (bAt (s.extract n s.size) 0 = (46 : UInt8).toNat)) : Value) = _)) (rnx ?_);replace LW := LW.step E XLW;replace E := erx (No) w2
  refine qd (ι := Unit) (fun _ => [(0, .string (s.extract b s.size))]) (fun _ w' => Ext (No) w2 w' ∧ ((bAt s n = 46 → n + 1 < b))) ?_ ?_
  ·
   have M3 := erx (No) w2;have XM3 := grx (No) w2;refine zt rfl (fun h3 => ?_) (fun h3 => ?_)
   ·
    have h3 := of_decide_eq_true h3;have hin := ox (s := s) (i := n) (by omega);obtain ⟨r, hr⟩ : ∃ r, r = xo (s.extract (n + 1) s.size) 0 := ⟨_, rfl⟩;have e1 : b = n + 1 + r := by rw [hbq, nB_dot h3, hr]; exact run_shift (f := n + 1) (a := 0) (by omega)
    refine zf (srx (mvx rfl (za rfl (vo (l := 1) (h := s.size - n) Tryd.underlying9 rfl ⟨_, rfl⟩ (qg).symm (by omega) (by rw [qg]; omega) (yd 14 (.string (s.extract (n + 1) s.size)) rfl ((by rw [zyq rfl rfl] : (.string ((s.extract n s.size).extract 1 (s.size - n)) : Value) = _)) (za rfl (zz en35 rfl ((ztq _ (s.extract (n + 1) s.size) (by rw [qg]; omega)).mono ?_))))))))
    rintro e w5 ⟨rfl, hb⟩;refine ⟨_, rfl, ?_⟩;replace E := blx E hb;refine yd 15 (.int .i64 ((r : Nat) : Int)) rfl ((by rw [hr] : (.int .i64 ((xo (s.extract (n + 1) s.size) 0 : Nat) : Int) : Value) = _)) (anx rfl (srx (mvx rfl (za rfl (ye rfl rfl (rnx (zt rfl (fun h4 => ?_) (fun h4 => ?_))))))))
    ·
     have h4 : r = 0 := by have h4 := eq_of_beq h4; omega
     have e : numB s 0 = false := zxq (fun h => by have := h.2.1; rw [← hn, ← hbq] at this; have := this h3; omega);refine srx (anx rfl (zr (zd (zd (zp (rs := [.tmp 2]) (vs := [_]) rfl ⟨rfl, trivial⟩ ?_)))));exact ⟨by rw [e]; rfl, (LW.step E XLW).toBelow⟩
    ·
     have h4 : r ≠ 0 := fun e => absurd h4 (by rw [e]; decide)
     refine zj (ze (zi (mvx rfl (mvx rfl (za rfl (yg rfl rfl (zo (by omega)) (yd 20 (.int .i64 ((r + 1 : Nat) : Int)) rfl (rfl) (za rfl (vo (l := r + 1) (h := s.size - n) Tryd.underlying9 rfl ⟨_, rfl⟩ (qg).symm (by omega) (by rw [qg]; omega) (avx rfl (yf (yr 0 (.string (s.extract b s.size)) rfl ((by rw [zyq (m := b) rfl (by omega)] : (.string ((s.extract n s.size).extract (r + 1) (s.size - n)) : Value) = _)) ?_))))))))))))
     exact yp () ⟨rfl, trivial⟩ ⟨M3.step E XM3, fun _ => by omega⟩
   ·
    have h3 := of_decide_eq_false h3;have e1 : b = n := by rw [hbq, nB_no h3]
    refine zj (yr 0 (.string (s.extract b s.size)) rfl ((by rw [e1] : (.string (s.extract n s.size) : Value) = _)) ?_);exact yp () ⟨rfl, trivial⟩ ⟨M3.step E XM3, fun h => absurd h h3⟩
  ·
   rintro _ w4 ⟨M3, h2⟩;replace E := E.trans M3;replace LW := LW.step E XLW;replace E := erx (No) w4;have hcs := nC_le (s := s) hbs.2;refine zf (srx (mvx rfl (za rfl (zz en36 rfl ((ygq _ (s.extract b s.size) 101 (by decide)).mono ?_)))));rintro e w6 ⟨rfl, hb⟩;refine ⟨_, rfl, ?_⟩;replace E := blx E hb
   refine yd 23 (.bool (decide (bAt s b = 101))) rfl ((by rw [kc, Nat.add_zero]; rfl : (.bool (decide (bAt (s.extract b s.size) 0 = (101 : UInt8).toNat)) : Value) = _)) (rnx ?_);replace LW := LW.step E XLW;replace E := erx (No) w6;refine qd (ι := Unit) (fun _ => [(0, .string (s.extract (nC s b) s.size))]) (fun _ w' => Ext (No) w6 w' ∧ ((bAt s b = 101 → nQ s b < nC s b))) ?_ ?_
   ·
    have M7 := erx (No) w6;have XM7 := grx (No) w6;refine zt rfl (fun h3 => ?_) (fun h3 => ?_)
    ·
     have h3 := of_decide_eq_true h3;have hin := ox (s := s) (i := b) (by omega);have hqs := nQ_le hin
     refine srx (mvx rfl (za rfl (vo (l := 1) (h := s.size - b) Tryd.underlying9 rfl ⟨_, rfl⟩ (qg).symm (by omega) (by rw [qg]; omega) (yd 25 (.string (s.extract (b + 1) s.size)) rfl ((by rw [zyq rfl rfl] : (.string ((s.extract b s.size).extract 1 (s.size - b)) : Value) = _)) (anx rfl (zf (zf ?_)))))));replace LW := LW.step E XLW
     replace M7 := M7.step E XM7;replace E := erx (No) w6;refine qd (ι := Bool) (fun g => [(0, .string (s.extract (b + 1) s.size)), (37, .bool g)]) (fun g w' => Ext (No) w6 w' ∧ (g = decide (bAt s (b + 1) = 43 ∨ bAt s (b + 1) = 45))) ?_ ?_
     ·
      have M9 := erx (No) w6;have XM9 := grx (No) w6;refine zi (mvx rfl (za rfl (ow_neqS rfl rfl (mvx rfl (yd 28 (.bool (decide (b + 1 < s.size))) rfl (by rw [ne_nil]) (yo 28 rfl (fun h6 => ?_) (fun h6 => ?_)))))))
      ·
       have h6 := of_decide_eq_true h6
       refine onx rfl (zq rfl (onx rfl (yh (j := 0) (b := bAt (s.extract (b + 1) s.size) 0) Tryd.underlying9 rfl rfl rfl (yu (by rw [qg]; omega)) (yd 30 (.int .u8 ((bAt s (b + 1) : Nat) : Int)) rfl ((by rw [kc] : (.int .u8 ((bAt (s.extract (b + 1) s.size) 0 : Nat) : Int) : Value) = _)) (onx rfl (ye rfl rfl (onx rfl (zq rfl (yo 32 rfl (fun h7 => ?_) (fun h7 => ?_))))))))))
       ·
        have h7 : bAt s (b + 1) = 43 := by have h7 := eq_of_beq h7; omega
        refine za rfl (zc rfl (za rfl (zc rfl (za rfl (zc rfl (onx rfl (zw rfl rfl (za rfl (zw rfl rfl (yf ?_))))))))));exact yp true ⟨rfl, rfl, trivial⟩ ⟨M9.step E XM9, (decide_eq_true (.inl h7)).symm⟩
       ·
        have h7 : ¬ bAt s (b + 1) = 43 := fun e => absurd h7 (by rw [e]; decide)
        refine onx rfl (zq rfl (onx rfl (yh (j := 0) (b := bAt (s.extract (b + 1) s.size) 0) Tryd.underlying9 rfl rfl rfl (yu (by rw [qg]; omega)) (yd 34 (.int .u8 ((bAt s (b + 1) : Nat) : Int)) rfl ((by rw [kc] : (.int .u8 ((bAt (s.extract (b + 1) s.size) 0 : Nat) : Int) : Value) = _)) (onx rfl (ye rfl rfl (onx rfl (ya rfl rfl (za rfl (zw rfl rfl (yf ?_)))))))))))
        by_cases h8 : bAt s (b + 1) = 45
        ·
         refine yr 37 (.bool true) rfl ((by rw [h8]; rfl : (.bool (((bAt s (b + 1) : Nat) : Int) == 45) : Value) = _)) ?_;exact yp true ⟨rfl, rfl, trivial⟩ ⟨M9.step E XM9, (decide_eq_true (.inr h8)).symm⟩
        ·
         refine yr 37 (.bool false) rfl ((by rw [vy (by omega)] : (.bool (((bAt s (b + 1) : Nat) : Int) == 45) : Value) = _)) ?_;exact yp false ⟨rfl, rfl, trivial⟩ ⟨M9.step E XM9, (decide_eq_false (by omega)).symm⟩
      ·
       have h6 := of_decide_eq_false h6;have h0 := bAt_end (s := s) (i := b + 1) (by omega);refine za rfl (zc rfl (za rfl (zc rfl (za rfl (zc rfl (za rfl (zc rfl (za rfl (qu rfl rfl (za rfl (qu rfl rfl (za rfl (qu rfl rfl (za rfl (zc rfl (za rfl (ya rfl rfl (yf ?_))))))))))))))))))
       exact yp false ⟨rfl, rfl, trivial⟩ ⟨M9.step E XM9, (decide_eq_false (by omega)).symm⟩
     ·
      rintro g w10 ⟨M9, hg⟩;replace E := E.trans M9;replace LW := LW.step E XLW;replace M7 := M7.step E XM7;replace E := erx (No) w10;replace LW := LW.step E XLW;replace M7 := M7.step E XM7;replace E := erx (No) w10;refine qd (ι := Unit) (fun _ => [(0, .string (s.extract (nQ s b) s.size))]) (fun _ w' => Ext (No) w10 w' ∧ (True)) ?_ ?_
      ·
       have M11 := erx (No) w10;have XM11 := grx (No) w10;refine zt rfl (fun h6 => ?_) (fun h6 => ?_)
       ·
        rw [hg] at h6;have h6 := of_decide_eq_true h6;have e1 : nQ s b = b + 2 := by unfold nQ; rw [if_pos h6]
        have hin2 := ox (s := s) (i := b + 1) (by omega)
        refine zi (mvx rfl (za rfl (vo (l := 1) (h := s.size - (b + 1)) Tryd.underlying9 rfl ⟨_, rfl⟩ (qg).symm (by omega) (by rw [qg]; omega) (avx rfl (yf (yr 0 (.string (s.extract (nQ s b) s.size)) rfl ((by rw [zyq (f := b + 1) (k := 1) (m := nQ s b) rfl (by omega)] : (.string ((s.extract (b + 1) s.size).extract 1 (s.size - (b + 1))) : Value) = _)) ?_))))))
        exact yp () ⟨rfl, trivial⟩ ⟨M11.step E XM11, trivial⟩
       ·
        rw [hg] at h6;have h6 := of_decide_eq_false h6;have e1 : nQ s b = b + 1 := by unfold nQ; rw [if_neg h6]
        refine zj (yr 0 (.string (s.extract (nQ s b) s.size)) rfl ((by rw [e1] : (.string (s.extract (b + 1) s.size) : Value) = _)) ?_);exact yp () ⟨rfl, trivial⟩ ⟨M11.step E XM11, trivial⟩
      ·
       rintro _ w12 ⟨M11, _⟩;replace E := E.trans M11;replace LW := LW.step E XLW;replace M7 := M7.step E XM7;replace E := erx (No) w12;obtain ⟨r, hr⟩ : ∃ r, r = xo (s.extract (nQ s b) s.size) 0 := ⟨_, rfl⟩;have e1 : nC s b = nQ s b + r := by rw [nC_e h3, hr]; exact run_shift (f := nQ s b) (a := 0) (by omega)
       refine zf (srx (mvx rfl (za rfl (zz en35 rfl ((ztq _ (s.extract (nQ s b) s.size) (by rw [qg]; omega)).mono ?_)))));rintro e w13 ⟨rfl, hb⟩;refine ⟨_, rfl, ?_⟩;replace E := blx E hb
       refine yd 41 (.int .i64 ((r : Nat) : Int)) rfl ((by rw [hr] : (.int .i64 ((xo (s.extract (nQ s b) s.size) 0 : Nat) : Int) : Value) = _)) (anx rfl (srx (mvx rfl (za rfl (ye rfl rfl (rnx (zt rfl (fun h4 => ?_) (fun h4 => ?_))))))))
       ·
        have h4 : r = 0 := by have h4 := eq_of_beq h4; omega
        have e : numB s 0 = false := zxq (fun h => by have := h.2.2.2; rw [← hn, ← hbq] at this; have := this h3; omega);refine srx (anx rfl (zr (zd (zd (zp (rs := [.tmp 2]) (vs := [_]) rfl ⟨rfl, trivial⟩ ?_)))));exact ⟨by rw [e]; rfl, (LW.step E XLW).toBelow⟩
       ·
        have h4 : r ≠ 0 := fun e => absurd h4 (by rw [e]; decide)
        refine zj (ze (zi (mvx rfl (mvx rfl (za rfl (vo (l := r) (h := s.size - nQ s b) Tryd.underlying9 rfl ⟨_, rfl⟩ (qg).symm (by omega) (by rw [qg]; omega) (avx rfl (yf (yr 0 (.string (s.extract (nC s b) s.size)) rfl ((by rw [zyq rfl e1.symm] : (.string ((s.extract (nQ s b) s.size).extract r (s.size - nQ s b)) : Value) = _)) ?_)))))))))
        exact yp () ⟨rfl, trivial⟩ ⟨M7.step E XM7, fun _ => by omega⟩
    ·
     have h3 := of_decide_eq_false h3;refine zj (yr 0 (.string (s.extract (nC s b) s.size)) rfl ((by rw [nC_no h3] : (.string (s.extract b s.size) : Value) = _)) ?_);exact yp () ⟨rfl, trivial⟩ ⟨M7.step E XM7, fun h => absurd h h3⟩
   ·
    rintro _ w8 ⟨M7, h5⟩;replace E := E.trans M7;replace LW := LW.step E XLW;replace E := erx (No) w8;refine srx (mvx rfl (za rfl (xz rfl rfl (anx rfl (zr (yr 2 (.bool (decide (s.size ≤ nC s b))) rfl (by rw [eq_nil]) ?_))))));by_cases h6 : s.size ≤ nC s b
    ·
     have e : numB s 0 = true := numB_on ⟨by rw [← hn]; omega, by rw [← hn, ← hbq]; exact h2, by rw [← hn, ← hbq]; omega, by rw [← hn, ← hbq]; exact h5⟩;refine zp (rs := [.tmp 2]) (vs := [_]) rfl ⟨rfl, trivial⟩ ?_;exact ⟨by rw [e, decide_eq_true h6]; rfl, (LW.step E XLW).toBelow⟩
    ·
     have e : numB s 0 = false := zxq (fun h => by have := h.2.2.1; rw [← hn, ← hbq] at this; omega);refine zp (rs := [.tmp 2]) (vs := [_]) rfl ⟨rfl, trivial⟩ ?_;exact ⟨by rw [e, decide_eq_false h6]; rfl, (LW.step E XLW).toBelow⟩
end
end Go.Proofs.YtmjbnhjgebjhlaaDoor
namespace Go.Proofs.YtmjbnhjgebjhlaaDoor
open Go.RowKit
set_option maxRecDepth 100000
attribute [local irreducible] OW RS
noncomputable def prX (s : ByteArray) : ByteArray := s.extract (cut1 s) s.size
noncomputable def prInf (s : ByteArray) : Bool := (prX s).toList == (⟨#[105, 110, 102]⟩ : ByteArray).toList
noncomputable def prNan (s : ByteArray) : Bool := (prX s).toList == (⟨#[110, 97, 110]⟩ : ByteArray).toList
noncomputable def prV (s : ByteArray) : Nat :=
 if 1000 < s.size then 0
 else if prInf s then sgB (signed s) + 9218868437227405312
 else if prNan s then 9221120237041090560
 else if numB (prX s) 0 then sgB (signed s) + atV (prX s) 0 false
 else 0
noncomputable def prE (s : ByteArray) : Int :=
 if 1000 < s.size then 2
 else if prInf s then 0
 else if prNan s then 0
 else if numB (prX s) 0 then 0
 else 4
theorem prX_size (s : ByteArray) : (prX s).size ≤ s.size := by unfold prX; rw [qg]; omega
theorem Sgn.le {v : Nat} (h : Sgn false v) : v ≤ 9218868437227405312 := h.tame
theorem yiz {v : Nat} (h : Sgn false v) (n : Bool) : yiq (sgB n + v) = sgB n + v := by
 have h1 := zjk h.tame n;rw [sgB_add h.tame] at h1;unfold yiq;rw [h1.num, if_neg (by decide)]
theorem word_signed {v : Nat} (h : Sgn false v) : Ieee.double.word (ng 13830554455654793216) (rg v) = sgB true + v := by
 have h1 : rg v = v := by
  have := h.tame;unfold rg;omega
 rw [h1, show ng 13830554455654793216 = true by decide +kernel];unfold Ieee.Format.word;rw [c1, if_pos rfl];show _ = 9223372036854775808 + v
 omega
theorem sgn_inf : Sgn false 9218868437227405312 := by
 have h := zjk (Nat.le_refl 9218868437227405312) false;rw [show sgB false = 0 from rfl, Nat.zero_or] at h;exact h
theorem rp26_1 : Gives 26 #[.int .i64 1] (.float .f64 9218868437227405312) := by
 intro w;refine yl Tryd.func26 rfl Tryd.ntmps26 rfl ?_;have LW := erx (No) w;have XLW := grx (No) w;have E := erx (No) w
 refine srx (anx rfl (srx (anx rfl (zf (srx (mvx rfl (za rfl (vr rfl rfl (rnx (yi rfl (zi (anx rfl (srx (mvx rfl (za rfl (jh (b := 9218868437227405312) ex34 rfl (anx rfl (zr (zp (rs := [.tmp 2]) (vs := [.float .f64 9218868437227405312]) rfl ⟨rfl, trivial⟩ ?_)))))))))))))))))));exact ⟨rfl, (LW.step E XLW).toBelow⟩
section
variable (w : World) {bp op cp bf of cf bl ol cl : Nat}
theorem realparse_any (s : ByteArray) (hT : Tabs bp op cp bf of cf bl ol cl w) (hE : ∃ te pe, w.cell? ⟨2, 0, none⟩ = some (.iface te pe)) : Calls Tryd.prog 21 #[.string s] w fun e w' => e = .returned (.tuple #[.int .u64 ((prV s : Nat) : Int), .int .i64 (prE s)]) ∧ Below w.heap.size w w' := by
 have hxs := prX_size s;obtain ⟨te, pe, hE⟩ := hE;refine yl Tryd.func21 rfl Tryd.ntmps21 rfl ?_;have HF : Per (No) w (fun _ => True) := Per.true_;have LW := erx (No) w;have XLW := grx (No) w;have E := erx (No) w;replace HF := HF.on E;replace LW := LW.step E XLW;replace E := erx (No) w;replace HF := HF.and (Per.tabs hT (fun _ h => h.elim));replace HF := HF.on E;replace LW := LW.step E XLW
 replace E := erx (No) w;replace HF := HF.and (Per.cellA hE (fun _ h => h.elim));refine srx (avx rfl (anx rfl (zf (srx (mvx rfl (za rfl (qc Tryd.underlying9 rfl (za rfl (qq rfl rfl (rnx (zt rfl (fun h1 => ?_) (fun h1 => ?_))))))))))))
 ·
  have h1 : 1000 < s.size := by have h1 := of_decide_eq_true h1; omega
  refine srx (avx rfl (anx rfl (zr (zd (zp (rs := [.tmp 2, .tmp 3]) (vs := [_, _]) rfl ⟨rfl, rfl, trivial⟩ ?_)))));exact ⟨by unfold prV prE; rw [if_pos h1, if_pos h1]; rfl, (LW.step E XLW).toBelow⟩
 ·
  have h1 : ¬ 1000 < s.size := by have h1 := of_decide_eq_false h1; omega
  refine zj (ze (srx (mvx rfl (za rfl (zz en25 rfl ((cut_any _ s).mono ?_))))));rintro e w1 ⟨rfl, hb⟩;refine ⟨_, rfl, ?_⟩;replace E := blx E hb;refine mvx rfl (za rfl (yc rfl rfl (za rfl (yc rfl rfl (avx rfl (anx rfl (srx (anx rfl (zf ?_)))))))));replace HF := HF.on E;replace LW := LW.step E XLW;replace E := erx (No) w1
  refine qd (ι := Nat) (fun v => [(5, .bool (signed s)), (6, .float .f64 v)]) (fun v w' => Ext (No) w1 w' ∧ (Sgn false v ∧ sgB (signed s) + v = prV s ∧ prE s = 0)) ?_ ?_
  ·
   have M2 := erx (No) w1;have XM2 := grx (No) w1;refine zx (srx (mvx rfl (za rfl (xz rfl rfl (anx rfl (zt rfl (fun h2 => ?_) (fun h2 => ?_)))))))
   ·
    have h2 : prInf s = true := h2;refine zi (za rfl (zz en26 rfl ((rp26_1 _).mono ?_)));rintro e w4 ⟨rfl, hb⟩;refine ⟨_, rfl, ?_⟩;replace E := blx E hb;refine avx rfl (yf (zm ?_));exact yp 9218868437227405312 ⟨rfl, rfl, trivial⟩ ⟨M2.step E XM2, sgn_inf, by unfold prV; rw [if_neg h1, if_pos h2], by unfold prE; rw [if_neg h1, if_pos h2]⟩
   ·
    have h2 : ¬ prInf s = true := by rw [show prInf s = false from h2]; decide
    refine srx (mvx rfl (za rfl (xz rfl rfl (anx rfl (zt rfl (fun h3 => ?_) (fun h3 => ?_))))))
    ·
     have h3 : prNan s = true := h3;refine srx (avx rfl (anx rfl (zr (zn (zd (zp (rs := [.tmp 2, .tmp 3]) (vs := [_, _]) rfl ⟨rfl, rfl, trivial⟩ ?_))))));exact ⟨by unfold prV prE; rw [if_neg h1, if_neg h1, if_neg h2, if_neg h2, if_pos h3, if_pos h3]; rfl, (LW.step E XLW).toBelow⟩
    ·
     have h3 : ¬ prNan s = true := by rw [show prNan s = false from h3]; decide
     refine srx (mvx rfl (za rfl (zz en27 rfl ((numeral_any _ (prX s) (by omega)).mono ?_))));rintro e w5 ⟨rfl, hb⟩;refine ⟨_, rfl, ?_⟩;replace E := blx E hb;refine anx rfl (zt rfl (fun h4 => ?_) (fun h4 => ?_))
     ·
      have hnm := num_nm (Nat.zero_le _) (numB_is h4);refine zi (mvx rfl (za rfl (zz en28 rfl ((parse_pos _ (prX s) hnm (by omega) (HF.on E).here.1.2 ⟨te, pe, (HF.on E).here.2⟩).mono ?_))));rintro e w6 ⟨⟨er, rfl⟩, hb⟩;refine ⟨_, rfl, ?_⟩;replace E := blx E hb
      refine mvx rfl (za rfl (yc rfl rfl (za rfl (yc rfl rfl (avx rfl (yf (zm ?_)))))));exact yp (atV (prX s) 0 false) ⟨rfl, rfl, trivial⟩ ⟨M2.step E XM2, atV_sgn false hnm, by unfold prV; rw [if_neg h1, if_neg h2, if_neg h3, if_pos h4], by unfold prE; rw [if_neg h1, if_neg h2, if_neg h3, if_pos h4]⟩
     ·
      have h4 : ¬ numB (prX s) 0 = true := by rw [h4]; decide
      refine srx (avx rfl (anx rfl (zr (zn (zd (zp (rs := [.tmp 2, .tmp 3]) (vs := [_, _]) rfl ⟨rfl, rfl, trivial⟩ ?_))))));exact ⟨by unfold prV prE; rw [if_neg h1, if_neg h1, if_neg h2, if_neg h2, if_neg h3, if_neg h3, if_neg h4, if_neg h4]; rfl, (LW.step E XLW).toBelow⟩
  ·
   rintro v w3 ⟨M2, ⟨hv, hpv, hpe⟩⟩;replace E := E.trans M2;replace LW := LW.step E XLW;replace E := erx (No) w3;refine zf (srx (mvx rfl (rnx (zt rfl (fun h5 => ?_) (fun h5 => ?_)))))
   ·
    refine zi (mvx rfl (za rfl (zz en29 rfl ((copysign_any _ v hv.lt 13830554455654793216 (by decide)).mono ?_))));rintro e w7 ⟨rfl, hb⟩;refine ⟨_, rfl, ?_⟩;replace E := blx E hb
    refine yd 32 (.float .f64 (sgB true + v)) rfl ((by rw [word_signed hv] : (.float .f64 (Ieee.double.word (ng 13830554455654793216) (rg v)) : Value) = _)) (anx rfl (srx (mvx rfl (za rfl (zz en30 rfl ((bare_any _ (sgB true + v)).mono ?_))))));rintro e w8 ⟨rfl, hb⟩;refine ⟨_, rfl, ?_⟩;replace E := blx E hb
    refine avx rfl (anx rfl (zr (zp (rs := [.tmp 2, .tmp 3]) (vs := [_, _]) rfl ⟨rfl, rfl, trivial⟩ ?_)));exact ⟨by rw [yiz hv, ← hpv, hpe, h5]; rfl, (LW.step E XLW).toBelow⟩
   ·
    refine zj (ze (srx (mvx rfl (za rfl (zz en30 rfl ((bare_any _ v).mono ?_))))));rintro e w9 ⟨rfl, hb⟩;refine ⟨_, rfl, ?_⟩;replace E := blx E hb;have hb0 := yiz hv false;rw [show sgB false = 0 from rfl, Nat.zero_add] at hb0;refine avx rfl (anx rfl (zr (zp (rs := [.tmp 2, .tmp 3]) (vs := [_, _]) rfl ⟨rfl, rfl, trivial⟩ ?_)))
    exact ⟨by rw [hb0, ← hpv, hpe, h5, show sgB false = 0 from rfl, Nat.zero_add]; rfl, (LW.step E XLW).toBelow⟩
end
end Go.Proofs.YtmjbnhjgebjhlaaDoor
namespace Go.Proofs.YtmjbnhjgebjhlaaDoor
open Go.RowKit
def ThreeB (w : World) (n1 n2 : Bool) (A B : Option Addr) (c d : Nat) (xs ys : List Nat) (b : World) : Prop :=
 Two w n1 n2 A B c d xs ys b ∧ (b.cell? ⟨w.heap.size + 1 + 1, 0, none⟩ = some (.bool false) ∧ b.cell? ⟨w.heap.size + 1 + 1, 1, none⟩ = some (.slice none 0 0) ∧ b.frozen? ⟨w.heap.size + 1 + 1, 0, none⟩ = false ∧ b.frozen? ⟨w.heap.size + 1 + 1, 1, none⟩ = false)
def threeB (w : World) (n1 n2 : Bool) (A B : Option Addr) (c d : Nat) (xs ys : List Nat) : World := (two w n1 n2 A B c d xs ys).alloc (.cells #[.bool false, .slice none 0 0] 61)
section
variable (n1 n2 : Bool) (A B : Option Addr) (c d : Nat) (xs ys : List Nat) (w : World)
set_option maxRecDepth 100000
end
section
variable {i j : Int} (A B : Option Addr) (c d : Nat) (w : World) (hi : i.natAbs < B18 ^ 30) (hj : j.natAbs < B18 ^ 30) (hx : Nums w A (limbs i)) (hy : Nums w B (limbs j))
include hi
include hx
include hj hy
end
set_option maxRecDepth 100000
theorem jg {W w' : World} {f : Int} (hb : Below W.heap.size W w') : kg W 0 f (.returned (.tuple #[.agg #[.bool false, .slice none 0 0], .int .i64 f])) w' :=
 ⟨none, 0, by rw [zgq]; rfl, by rw [zgq]; exact Own.nil _ _, hb⟩
theorem ko {w : World} {base c g : Nat} {A : Option Addr} {xs : List Nat} {t : TypeId} {cs : Array Value} (h : Own w base A c xs) (hb : Blk w g t cs) (ht : 30 ≠ t) : Apart (Value.slice A xs.length c).ownBlock (some g) :=
 fun k e f => own_blk_ne h.1 hb ht (e.trans f.symm)
theorem Per.ownN {l : List (Option Nat)} {w : World} {base c : Nat} {A : Option Addr} {xs : List Nat} (h : Own w base A c xs) (hn : NotIn (Value.slice A xs.length c).ownBlock l) : Per (Mut l) w (fun b => Own b base A c xs) :=
 fun _ hb => ⟨ji h.1 hb hn, h.2⟩
section
variable (n1 n2 : Bool) (A B : Option Addr) (c d : Nat) (xs ys : List Nat) (w : World)
end
section
variable (i j : Int) (A B : Option Addr) (c d : Nat) (w : World) (hi : i.natAbs < B18 ^ 30) (hj : j.natAbs < B18 ^ 30) (hx : Nums w A (limbs i)) (hy : Nums w B (limbs j))
include hi hj hx hy
end
/-! ### what stands in the limbs -/
section
variable (i j : Int) (A B : Option Addr) (c d : Nat) (w : World) (hi : i.natAbs < B18 ^ 30) (hj : j.natAbs < B18 ^ 30) (hx : Nums w A (limbs i)) (hy : Nums w B (limbs j))
include hi hj hx hy
end
def RetNumE (W : World) (A0 : Option Addr) (xs0 : List Nat) (v f : Int) (e : Ending) (w' : World) : Prop := ∃ A c, e = .returned (.tuple #[.agg #[.bool (decide (v < 0)), .slice A (tens v).length c], .int .i64 f]) ∧ Nums8 w' A (tens v) ∧ ((∀ q, A = some q → W.heap.size ≤ q.block) ∨ (A = A0 ∧ tens v = xs0)) ∧ Below W.heap.size W w'
section
variable (i j : Int) (A B : Option Addr) (c d : Nat) (w : World) (hi : i.natAbs < B18 ^ 30) (hj : j.natAbs < B18 ^ 30) (hx : Nums8 w A (tens i)) (hy : Nums8 w B (tens j))
include hi hj hx hy
end
def vg (b : UInt8) : Bool := decide (48 ≤ b.toNat) && decide (b.toNat ≤ 57)
def dv (b : UInt8) : Nat := b.toNat - 48
def yy (r : List UInt8) : Nat := val 10 (r.reverse.map dv)
def gb (neg : Bool) (r : List UInt8) : Int := if r ≠ [] ∧ r.all vg = true ∧ yy r < B18 ^ 30 then sgn neg (yy r) else 0
def jp (r : List UInt8) : Int := if r ≠ [] ∧ r.all vg = true then (if yy r < B18 ^ 30 then 0 else 2) else 4
def textN (bs : List UInt8) : Bool := decide (bs.head? = some 45)
def textR (bs : List UInt8) : List UInt8 := if bs.head? = some 45 then bs.tail else bs
theorem dv_small {r : List UInt8} (h : r.all vg = true) : small 10 (r.map dv) := by
 intro x hx;obtain ⟨b, hb, rfl⟩ := List.mem_map.1 hx;have h1 := List.all_eq_true.1 h b hb;unfold vg at h1;unfold dv;simp at h1
 omega
theorem ba_get (s : ByteArray) (j : Nat) : s[j]? = s.data.toList[j]? := by
 show (if h : j < s.size then some s[j] else none) = _
 by_cases h : j < s.size
 · rw [dif_pos h, List.getElem?_eq_getElem (by simpa using h)]; rfl
 · rw [dif_neg h, List.getElem?_eq_none (by simpa using h)]
def dvals (l : List UInt8) : List Value := l.map fun b => .int .u8 ((b.toNat : Int) - 48)
theorem dig_of {b : UInt8} (h1 : 48 ≤ b.toNat) (h2 : b.toNat ≤ 57) : vg b = true := by unfold vg; simp [h1, h2]
def RetRead (W : World) (v f : Int) (e : Ending) (w' : World) : Prop := ∃ A c, e = .returned (.tuple #[.agg #[.bool (decide (v < 0)), .slice A (tens v).length c], .int .i64 f]) ∧ Own8 w' W.heap.size A c (tens v) ∧ Below W.heap.size W w'
theorem zuk {neg : Bool} {r : List UInt8} (h : r.all vg = false) : gb neg r = 0 ∧ jp r = 4 := by
 unfold gb jp;simp [h]
section
variable (s : ByteArray) (r : List UInt8) (w : World)
end
section
variable (s : ByteArray) (w : World)
theorem text_empty {neg : Bool} : gb neg [] = 0 ∧ jp [] = 4 := by unfold gb jp; simp
end
end Go.Proofs.YtmjbnhjgebjhlaaDoor
namespace Go.Proofs.YtmjbnhjgebjhlaaDoor
set_option maxRecDepth 100000
def inI (v n : Int) : Bool := decide (0 ≤ v) && decide (v < n)
def yq (set : Bool) (v n : Int) : Bool := if set then inI v n else decide (v = 0)
def kOK (nf : Nat) (f : LFn) (i : LIns) : Bool :=
 if rK i.op = 1 then decide (0 ≤ i.k)
 else if rK i.op = 2 then inI i.k f.consts.length
 else if rK i.op = 3 then inI i.k f.names.length
 else if rK i.op = 4 then inI i.k f.frees
 else if rK i.op = 5 then decide (0 < i.k) && decide (i.k < (nf : Int))
 else if rK i.op = 10 then decide (rLo i.op ≤ i.k) && decide (i.k ≤ rHi i.op)
 else decide (i.k = 0)
def fsAt (fs : List LFn) (k : Int) : Int := ((fs[k.toNat]?).map (·.frees)).getD 0
def lOK (fs : List LFn) (f : LFn) (i : LIns) : Bool := i.l.all (fun r => inI r f.regs) &&
 (if rL i.op = -2 then true else if rL i.op = -3 then decide (i.l.length % 2 = 0) else if rL i.op = -4 then decide ((i.l.length : Int) = fsAt fs i.k) else if rL i.op = -1 then decide (i.l.length = 0) else decide ((i.l.length : Int) = rL i.op))
def xt (fs : List LFn) (f : LFn) (at_ : Nat) (i : LIns) : Bool := (flN i.op != 0) && (yq (uD i.op) i.d f.regs && (yq (uA i.op) i.a f.regs && (yq (uB i.op) i.b f.regs && (yq (uT i.op) i.t f.ins.length && (kOK fs.length f i && (lOK fs f i && ((!(decide (i.op = 40)) || f.gen) && ((decide (at_ + 1 < f.ins.length) || (decide (i.op = 18) || (decide (i.op = 41) || decide (i.op = 42))))))))))))
noncomputable def zdx (c : Int × ByteArray) : Bool :=
 if c.1 = 3 then decide (c.2.size ≤ 20000)
 else if c.2.data.toList.head?.all (fun b => !vg b) = true then false
 else if c.1 = 1 then decide (jp c.2.data.toList = 0)
 else if c.1 = 2 then decide (prE c.2 = 0) else false
noncomputable def kq (f : LFn) (n : Nat) : Bool := decide (0 ≤ f.regs) && (decide (f.regs ≤ 65536) && (decide (0 ≤ f.params) && (decide (f.params ≤ f.regs) && (decide (0 ≤ f.frees) && (decide (0 ≤ f.bound) && (decide (f.ins.length ≠ 0) && (decide (f.name.size ≤ 20000) && (f.names.all (fun s => decide (s.size ≤ 20000)) && (f.consts.all zdx && ((decide (0 < n) || (decide (f.params = 0) && (decide (f.frees = 0) && !f.gen)))))))))))))
def rgC (f : LFn) (r : LReg) : Bool := decide (0 ≤ r.fr) && (decide (r.fr ≤ r.to) && (decide (r.to ≤ (f.ins.length : Int)) && (inI r.tg f.ins.length && inI r.d f.regs)))
def xw (fs : List LFn) (f : LFn) : Nat → List LIns → Option Nat
 | _, [] => none
 | at_, i :: l => if xt fs f at_ i then xw fs f (at_ + 1) l else some at_
noncomputable def goF (fs : List LFn) : Nat → List LFn → Int × Int × Int
 | _, [] => (0, 0, 0)
 | n, f :: l => if kq f n then (match xw fs f 0 f.ins with
  | some at_ => ((n : Int), (at_ : Int), 3)
  | none => if f.rgs.all (rgC f) then goF fs (n + 1) l else ((n : Int), -2, 3)) else ((n : Int), -1, 3)
noncomputable def zlv (fs : List LFn) : Int × Int × Int := if fs.length < 1 ∨ 4000 < fs.length then (-1, -1, 3) else goF fs 0 fs
end Go.Proofs.YtmjbnhjgebjhlaaDoor
namespace Go.Proofs.YtmjbnhjgebjhlaaDoor
open Go.RowKit
set_option maxRecDepth 100000
attribute [local irreducible] OW RS
theorem bitL (op : Int) : (flN op).testBit 4 = uT op := rfl
theorem range_op {op : Int} (h : (flN op).testBit 15 = true) : op = 2 ∨ op = 14 ∨ op = 15 ∨ op = 16 ∨ op = 44 := by
 by_cases h0 : op < 0 ∨ 44 < op
 · have e : flN op = 0 := by unfold flN; rw [if_pos h0]
   rw [e] at h; simp at h
 · have key : ∀ k : Fin 45, (flN (k.val : Int)).testBit 15 = true → k.val = 2 ∨ k.val = 14 ∨ k.val = 15 ∨ k.val = 16 ∨ k.val = 44 := by decide +kernel
   have e : op = ((op.toNat : Nat) : Int) := by omega
   rw [e] at h;have := key ⟨op.toNat, by omega⟩ h;simp only at this
   omega
def spLo (op : Int) : Int := if op = 2 then 0 else if op = 14 then 1 else if op = 15 then 1 else if op = 16 then 1 else 0
def spHi (op : Int) : Int := if op = 2 then 2 else if op = 14 then 7 else if op = 15 then 2 else if op = 16 then 10 else 34
theorem span_row {op : Int} (h : (flN op).testBit 15 = true) : spLo op = rLo op ∧ spHi op = rHi op := by
 rcases range_op h with rfl | rfl | rfl | rfl | rfl <;> decide
theorem zck (nf : Nat) (f : LFn) (i : LIns) : kOK nf f i = if (flN i.op).testBit 10 = true then decide (0 ≤ i.k) else if (flN i.op).testBit 11 = true then inI i.k f.consts.length else if (flN i.op).testBit 12 = true then inI i.k f.names.length else if (flN i.op).testBit 13 = true then inI i.k f.frees
 else if (flN i.op).testBit 14 = true then decide (0 < i.k) && decide (i.k < (nf : Int)) else if (flN i.op).testBit 15 = true then decide (rLo i.op ≤ i.k) && decide (i.k ≤ rHi i.op) else decide (i.k = 0) := by
 unfold kOK rK;generalize (flN i.op).testBit 10 = b1
 generalize (flN i.op).testBit 11 = b2
 generalize (flN i.op).testBit 12 = b3
 generalize (flN i.op).testBit 13 = b4
 generalize (flN i.op).testBit 14 = b5
 generalize (flN i.op).testBit 15 = b6
 cases b1 <;> cases b2 <;> cases b3 <;> cases b4 <;> cases b5 <;> cases b6 <;> rfl
def fnC (p : Pl) (f : LFn) : List Value := [.string f.name, .int .i64 f.params, .int .i64 f.regs, .int .i64 f.frees, .bool f.gen, .int .i64 f.bound, .slice p.an f.names.length p.cn, .slice p.ac f.consts.length p.cc, .slice p.ai f.ins.length p.ci, .slice p.ar f.rgs.length p.cr]
attribute [local irreducible] flN uD uA uB uT uL rL rK rLo rHi
section
variable (w : World)
theorem zcv (b : Bool) (v n : Int) : Calls Tryd.prog 14 #[.bool b, .int .i64 v, .int .i64 n] w fun e w' => e = .returned (.bool (yq b v n)) ∧ Below w.heap.size w w' := by
 refine yl Tryd.func14 rfl Tryd.ntmps14 rfl ?_;have LW := erx (No) w;have XLW := grx (No) w;have E := erx (No) w;refine srx (anx rfl (srx (mvx rfl (mvx rfl (yo 8 rfl (fun h1 => ?_) (fun h1 => ?_))))))
 ·
  refine onx rfl (zq rfl (onx rfl (vr rfl rfl (za rfl (zw rfl rfl (mvx rfl (yo 12 rfl (fun h2 => ?_) (fun h2 => ?_))))))))
  ·
   replace h2 := of_decide_eq_true h2;refine onx rfl (zq rfl (onx rfl (zq rfl (onx rfl (yt rfl rfl (za rfl (zw rfl rfl (mvx rfl (yo 17 rfl (fun h3 => ?_) (fun h3 => ?_))))))))))
   ·
    replace h3 := of_decide_eq_true h3;refine za rfl (zc rfl (za rfl (zc rfl (za rfl (zc rfl (za rfl (qu rfl rfl (za rfl (qu rfl rfl (za rfl (zc rfl (za rfl (zw rfl rfl (anx rfl (zr (zp (rs := [.tmp 6]) (vs := [_]) rfl ⟨rfl, trivial⟩ ?_))))))))))))))))
    exact ⟨by refine congrArg (fun z => Ending.returned (.bool z)) ?_; first | rfl | (simp_all [yq, inI]; done) | (simp_all [yq, inI]; omega) | (simp_all [yq, inI]; intros; omega) | (simp_all [yq, inI]; rfl), (LW.step E XLW).toBelow⟩
   ·
    replace h3 := of_decide_eq_false h3;refine onx rfl (zq rfl (onx rfl (vw rfl (onx rfl (zq rfl (yo 20 rfl (fun h4 => ?_) (fun h4 => ?_)))))))
    ·
     refine onx rfl (zq rfl (onx rfl (ye rfl rfl (onx rfl (zw rfl rfl (za rfl (ya rfl rfl (anx rfl (zr (zp (rs := [.tmp 6]) (vs := [_]) rfl ⟨rfl, trivial⟩ ?_))))))))))
     exact ⟨by refine congrArg (fun z => Ending.returned (.bool z)) ?_; first | rfl | (simp_all [yq, inI]; done) | (simp_all [yq, inI]; omega) | (simp_all [yq, inI]; intros; omega) | (simp_all [yq, inI]; rfl), (LW.step E XLW).toBelow⟩
    ·
     refine za rfl (zc rfl (za rfl (zc rfl (onx rfl (ya rfl rfl (za rfl (ya rfl rfl (anx rfl (zr (zp (rs := [.tmp 6]) (vs := [_]) rfl ⟨rfl, trivial⟩ ?_))))))))))
     exact ⟨by refine congrArg (fun z => Ending.returned (.bool z)) ?_; first | rfl | (simp_all [yq, inI]; done) | (simp_all [yq, inI]; omega) | (simp_all [yq, inI]; intros; omega) | (simp_all [yq, inI]; rfl), (LW.step E XLW).toBelow⟩
  ·
   replace h2 := of_decide_eq_false h2;refine za rfl (zc rfl (za rfl (zc rfl (za rfl (zc rfl (za rfl (ya rfl rfl (mvx rfl (onx rfl (zq rfl (onx rfl (vw rfl (onx rfl (zq rfl (yo 20 rfl (fun h5 => ?_) (fun h5 => ?_))))))))))))))))
   ·
    refine onx rfl (zq rfl (onx rfl (ye rfl rfl (onx rfl (zw rfl rfl (za rfl (ya rfl rfl (anx rfl (zr (zp (rs := [.tmp 6]) (vs := [_]) rfl ⟨rfl, trivial⟩ ?_))))))))))
    exact ⟨by refine congrArg (fun z => Ending.returned (.bool z)) ?_; first | rfl | (simp_all [yq, inI]; done) | (simp_all [yq, inI]; omega) | (simp_all [yq, inI]; intros; omega) | (simp_all [yq, inI]; rfl), (LW.step E XLW).toBelow⟩
   ·
    refine za rfl (zc rfl (za rfl (zc rfl (onx rfl (ya rfl rfl (za rfl (ya rfl rfl (anx rfl (zr (zp (rs := [.tmp 6]) (vs := [_]) rfl ⟨rfl, trivial⟩ ?_))))))))))
    exact ⟨by refine congrArg (fun z => Ending.returned (.bool z)) ?_; first | rfl | (simp_all [yq, inI]; done) | (simp_all [yq, inI]; omega) | (simp_all [yq, inI]; intros; omega) | (simp_all [yq, inI]; rfl), (LW.step E XLW).toBelow⟩
 ·
  refine za rfl (zc rfl (za rfl (zc rfl (za rfl (ya rfl rfl (mvx rfl (za rfl (zc rfl (za rfl (zc rfl (za rfl (zc rfl (za rfl (ya rfl rfl (mvx rfl (onx rfl (zq rfl (onx rfl (vw rfl (onx rfl (zq rfl (yo 20 rfl (fun h6 => ?_) (fun h6 => ?_)))))))))))))))))))))))
  ·
   refine onx rfl (zq rfl (onx rfl (ye rfl rfl (onx rfl (zw rfl rfl (za rfl (ya rfl rfl (anx rfl (zr (zp (rs := [.tmp 6]) (vs := [_]) rfl ⟨rfl, trivial⟩ ?_))))))))))
   exact ⟨by refine congrArg (fun z => Ending.returned (.bool z)) ?_; first | rfl | (simp_all [yq, inI]; done) | (simp_all [yq, inI]; omega) | (simp_all [yq, inI]; intros; omega) | (simp_all [yq, inI]; rfl), (LW.step E XLW).toBelow⟩
  ·
   refine za rfl (zc rfl (za rfl (zc rfl (onx rfl (ya rfl rfl (za rfl (ya rfl rfl (anx rfl (zr (zp (rs := [.tmp 6]) (vs := [_]) rfl ⟨rfl, trivial⟩ ?_))))))))))
   exact ⟨by refine congrArg (fun z => Ending.returned (.bool z)) ?_; first | rfl | (simp_all [yq, inI]; done) | (simp_all [yq, inI]; omega) | (simp_all [yq, inI]; intros; omega) | (simp_all [yq, inI]; rfl), (LW.step E XLW).toBelow⟩
theorem span_any (op : Int) : Calls Tryd.prog 22 #[.int .i64 op] w fun e w' => e = .returned (.tuple #[.int .i64 (spLo op), .int .i64 (spHi op)]) ∧ Below w.heap.size w w' := by
 refine yl Tryd.func22 rfl Tryd.ntmps22 rfl ?_;have LW := erx (No) w;have XLW := grx (No) w;have E := erx (No) w;refine srx (avx rfl (anx rfl (zf (srx (mvx rfl (rnx (zx (srx (za rfl (ye rfl rfl (anx rfl (zt rfl (fun h1 => ?_) (fun h1 => ?_)))))))))))))
 ·
  refine zu 5 (.bool true) rfl (congrArg Value.bool h1) ?_;replace h1 := eq_of_beq h1;subst h1;refine srx (avx rfl (anx rfl (zr (zn (zd (zp (rs := [.tmp 2, .tmp 3]) (vs := [_, _]) rfl ⟨rfl, rfl, trivial⟩ ?_))))));exact ⟨by first | rfl | (simp_all [spLo, spHi]; done) | (simp_all [spLo, spHi]; rfl), (LW.step E XLW).toBelow⟩
 ·
  refine zu 5 (.bool false) rfl (congrArg Value.bool h1) ?_;replace h1 := beq_eq_false_iff_ne.1 h1;refine srx (za rfl (ye rfl rfl (anx rfl (zt rfl (fun h2 => ?_) (fun h2 => ?_)))))
  ·
   refine zu 7 (.bool true) rfl (congrArg Value.bool h2) ?_;replace h2 := eq_of_beq h2;subst h2;refine srx (avx rfl (anx rfl (zr (zn (zd (zp (rs := [.tmp 2, .tmp 3]) (vs := [_, _]) rfl ⟨rfl, rfl, trivial⟩ ?_))))));exact ⟨by first | rfl | (simp_all [spLo, spHi]; done) | (simp_all [spLo, spHi]; rfl), (LW.step E XLW).toBelow⟩
  ·
   refine zu 7 (.bool false) rfl (congrArg Value.bool h2) ?_;replace h2 := beq_eq_false_iff_ne.1 h2;refine srx (za rfl (ye rfl rfl (anx rfl (zt rfl (fun h3 => ?_) (fun h3 => ?_)))))
   ·
    refine zu 9 (.bool true) rfl (congrArg Value.bool h3) ?_;replace h3 := eq_of_beq h3;subst h3;refine srx (avx rfl (anx rfl (zr (zn (zd (zp (rs := [.tmp 2, .tmp 3]) (vs := [_, _]) rfl ⟨rfl, rfl, trivial⟩ ?_))))));exact ⟨by first | rfl | (simp_all [spLo, spHi]; done) | (simp_all [spLo, spHi]; rfl), (LW.step E XLW).toBelow⟩
   ·
    refine zu 9 (.bool false) rfl (congrArg Value.bool h3) ?_;replace h3 := beq_eq_false_iff_ne.1 h3;refine srx (za rfl (ye rfl rfl (anx rfl (zt rfl (fun h4 => ?_) (fun h4 => ?_)))))
    ·
     refine zu 11 (.bool true) rfl (congrArg Value.bool h4) ?_;replace h4 := eq_of_beq h4;subst h4;refine srx (avx rfl (anx rfl (zr (zn (zd (zp (rs := [.tmp 2, .tmp 3]) (vs := [_, _]) rfl ⟨rfl, rfl, trivial⟩ ?_))))));exact ⟨by first | rfl | (simp_all [spLo, spHi]; done) | (simp_all [spLo, spHi]; rfl), (LW.step E XLW).toBelow⟩
    ·
     refine zu 11 (.bool false) rfl (congrArg Value.bool h4) ?_;replace h4 := beq_eq_false_iff_ne.1 h4;refine zj (zm (ze (srx (avx rfl (anx rfl (zr (zp (rs := [.tmp 2, .tmp 3]) (vs := [_, _]) rfl ⟨rfl, rfl, trivial⟩ ?_)))))));exact ⟨by first | rfl | (simp_all [spLo, spHi]; done) | (simp_all [spLo, spHi]; rfl), (LW.step E XLW).toBelow⟩
end
section
variable (w : World) (A : Option Addr) (nf cp : Nat) (p : Pl) (f : LFn) (i : LIns) (B : Option Addr) (c : Nat)
theorem rightK_any : Calls Tryd.prog 18 #[.agg #[.slice A nf cp], fnV p f, .agg #[.int .i64 i.op, .int .i64 i.d, .int .i64 i.a, .int .i64 i.b, .int .i64 i.t, .int .i64 i.k, .slice B i.l.length c], .int .i64 ((flN i.op : Nat) : Int)] w fun e w' => e = .returned (.bool (kOK nf f i)) ∧ Below w.heap.size w w' := by
 refine yl Tryd.func18 rfl Tryd.ntmps18 rfl ?_;have HF : Per (No) w (fun _ => True) := Per.true_;have LW := erx (No) w;have XLW := grx (No) w;have E := erx (No) w;refine srx (za rfl (jy rfl ?_));intro gb1 w2 Bb1 Eb1 Gb1;have Gb1 : _ ≤ gb1 := Nat.le_trans E.size Gb1;have GLb1 := Nat.le_trans LW.size Gb1;replace E := E.trans Eb1.no;replace HF := HF.cons (yb Gb1)
 replace E := E.cons (some gb1);replace XLW := Mut.grow XLW (fun k e => Or.inr (Nat.le_trans LW.size ((yb Gb1) k e)));replace HF := HF.on E;replace LW := LW.step E XLW;have SB : ∀ q9, No q9 → Mut [(some gb1)] q9 := (Mut.skip Mut.nil_);replace HF := HF.less SB;replace XLW := fun k h => XLW k (SB k h);clear SB;replace E := erx (No) w2;replace HF := HF.and (Per.blkN Bb1 NotIn.nil)
 refine za rfl (jy rfl ?_);intro gb3 w4 Bb3 Eb3 Gb3;have Gb3 : _ ≤ gb3 := Nat.le_trans E.size Gb3;have GLb3 := Nat.le_trans LW.size Gb3;replace E := E.trans Eb3.no;replace HF := HF.cons (yb Gb3);replace E := E.cons (some gb3);replace XLW := Mut.grow XLW (fun k e => Or.inr (Nat.le_trans LW.size ((yb Gb3) k e)));replace HF := HF.on E;replace LW := LW.step E XLW
 have SB : ∀ q9, No q9 → Mut [(some gb3)] q9 := (Mut.skip Mut.nil_);replace HF := HF.less SB;replace XLW := fun k h => XLW k (SB k h);clear SB;replace E := erx (No) w4;replace HF := HF.and (Per.blkN Bb3 NotIn.nil);refine za rfl (jy rfl ?_);intro gb5 w6 Bb5 Eb5 Gb5;have Gb5 : _ ≤ gb5 := Nat.le_trans E.size Gb5;have GLb5 := Nat.le_trans LW.size Gb5;replace E := E.trans Eb5.no
 replace HF := HF.cons (yb Gb5);replace E := E.cons (some gb5);replace XLW := Mut.grow XLW (fun k e => Or.inr (Nat.le_trans LW.size ((yb Gb5) k e)));replace HF := HF.on E;replace LW := LW.step E XLW;have SB : ∀ q9, No q9 → Mut [(some gb5)] q9 := (Mut.skip Mut.nil_);replace HF := HF.less SB;replace XLW := fun k h => XLW k (SB k h);clear SB;replace E := erx (No) w6
 replace HF := HF.and (Per.blkN Bb5 NotIn.nil)
 refine anx rfl (zf (zx (srx (mvx rfl (za rfl (vc rfl rfl (vh i.op 1024 (by decide)) (za rfl (qn rfl rfl (anx rfl (zu 11 (.bool ((flN i.op).testBit 10)) rfl ((by rw [show (1024 : Nat) = 2 ^ 10 from rfl, jf] : (.bool (((flN i.op &&& 1024 : Nat) : Int) != 0) : Value) = _)) (zt rfl (fun q10 => ?_) (fun q10 => ?_))))))))))))
 ·
  refine srx (za rfl (zb Tryd.underlying40 rfl sz3 (by decide) rfl (za rfl (zl Tryd.underlying3 rfl rfl (HF.on E).here.2 rfl (za rfl (vr rfl rfl (anx rfl (zr (zn (zd (zp (rs := [.tmp 8]) (vs := [_]) rfl ⟨rfl, trivial⟩ ?_)))))))))));exact ⟨by rw [zck, if_pos q10]; rfl, (LW.step E XLW).toBelow⟩
 ·
  refine srx (mvx rfl (za rfl (vc rfl rfl (vh i.op 2048 (by decide)) (za rfl (qn rfl rfl (anx rfl (zu 18 (.bool ((flN i.op).testBit 11)) rfl ((by rw [show (2048 : Nat) = 2 ^ 11 from rfl, jf] : (.bool (((flN i.op &&& 2048 : Nat) : Int) != 0) : Value) = _)) (zt rfl (fun q11 => ?_) (fun q11 => ?_)))))))))
  ·
   refine srx (za rfl (zb Tryd.underlying40 rfl sz3 (by decide) rfl (za rfl (zl Tryd.underlying3 rfl rfl (HF.on E).here.2 rfl (za rfl (zb Tryd.underlying37 rfl sz33 (by decide) rfl (za rfl (zl Tryd.underlying33 rfl rfl (HF.on E).here.1.2 rfl (za rfl (vi Tryd.underlying33 rfl (za rfl (zz en14 rfl ((zcv _ true i.k f.consts.length).mono ?_)))))))))))))
   rintro e w7 ⟨rfl, hb⟩;refine ⟨_, rfl, ?_⟩;replace E := blx E hb;refine anx rfl (zr (zn (zd (zp (rs := [.tmp 8]) (vs := [_]) rfl ⟨rfl, trivial⟩ ?_))));exact ⟨by rw [zck, if_neg (by rw [q10]; decide), if_pos q11]; rfl, (LW.step E XLW).toBelow⟩
  ·
   refine srx (mvx rfl (za rfl (vc rfl rfl (vh i.op 4096 (by decide)) (za rfl (qn rfl rfl (anx rfl (zu 28 (.bool ((flN i.op).testBit 12)) rfl ((by rw [show (4096 : Nat) = 2 ^ 12 from rfl, jf] : (.bool (((flN i.op &&& 4096 : Nat) : Int) != 0) : Value) = _)) (zt rfl (fun q12 => ?_) (fun q12 => ?_)))))))))
   ·
    refine srx (za rfl (zb Tryd.underlying40 rfl sz3 (by decide) rfl (za rfl (zl Tryd.underlying3 rfl rfl (HF.on E).here.2 rfl (za rfl (zb Tryd.underlying37 rfl sz32 (by decide) rfl (za rfl (zl Tryd.underlying32 rfl rfl (HF.on E).here.1.2 rfl (za rfl (vi Tryd.underlying32 rfl (za rfl (zz en14 rfl ((zcv _ true i.k f.names.length).mono ?_)))))))))))))
    rintro e w8 ⟨rfl, hb⟩;refine ⟨_, rfl, ?_⟩;replace E := blx E hb;refine anx rfl (zr (zn (zd (zp (rs := [.tmp 8]) (vs := [_]) rfl ⟨rfl, trivial⟩ ?_))));exact ⟨by rw [zck, if_neg (by rw [q10]; decide), if_neg (by rw [q11]; decide), if_pos q12]; rfl, (LW.step E XLW).toBelow⟩
   ·
    refine srx (mvx rfl (za rfl (vc rfl rfl (vh i.op 8192 (by decide)) (za rfl (qn rfl rfl (anx rfl (zu 38 (.bool ((flN i.op).testBit 13)) rfl ((by rw [show (8192 : Nat) = 2 ^ 13 from rfl, jf] : (.bool (((flN i.op &&& 8192 : Nat) : Int) != 0) : Value) = _)) (zt rfl (fun q13 => ?_) (fun q13 => ?_)))))))))
    ·
     refine srx (za rfl (zb Tryd.underlying40 rfl sz3 (by decide) rfl (za rfl (zl Tryd.underlying3 rfl rfl (HF.on E).here.2 rfl (za rfl (zb Tryd.underlying37 rfl sz3 (by decide) rfl (za rfl (zl Tryd.underlying3 rfl rfl (HF.on E).here.1.2 rfl (za rfl (zz en14 rfl ((zcv _ true i.k f.frees).mono ?_)))))))))));rintro e w9 ⟨rfl, hb⟩
     refine ⟨_, rfl, ?_⟩;replace E := blx E hb;refine anx rfl (zr (zn (zd (zp (rs := [.tmp 8]) (vs := [_]) rfl ⟨rfl, trivial⟩ ?_))));exact ⟨by rw [zck, if_neg (by rw [q10]; decide), if_neg (by rw [q11]; decide), if_neg (by rw [q12]; decide), if_pos q13]; rfl, (LW.step E XLW).toBelow⟩
    ·
     refine srx (mvx rfl (za rfl (vc rfl rfl (vh i.op 16384 (by decide)) (za rfl (qn rfl rfl (anx rfl (zu 47 (.bool ((flN i.op).testBit 14)) rfl ((by rw [show (16384 : Nat) = 2 ^ 14 from rfl, jf] : (.bool (((flN i.op &&& 16384 : Nat) : Int) != 0) : Value) = _)) (zt rfl (fun q14 => ?_) (fun q14 => ?_)))))))))
     ·
      refine srx (za rfl (zb Tryd.underlying40 rfl sz3 (by decide) rfl (za rfl (zl Tryd.underlying3 rfl rfl (HF.on E).here.2 rfl (za rfl (qq rfl rfl (mvx rfl (yo 54 rfl (fun t1 => ?_) (fun t1 => ?_)))))))))
      ·
       replace t1 := of_decide_eq_true t1
       refine onx rfl (zb Tryd.underlying40 rfl sz3 (by decide) rfl (onx rfl (zl Tryd.underlying3 rfl rfl (HF.on E).here.2 rfl (onx rfl (zb Tryd.underlying24 rfl sz22 (by decide) rfl (onx rfl (zl Tryd.underlying22 rfl rfl (HF.on E).here.1.1.2 rfl (onx rfl (vi Tryd.underlying22 rfl (onx rfl (yt rfl rfl (za rfl (zw rfl rfl (anx rfl (zr (zn (zd (zp (rs := [.tmp 8]) (vs := [_]) rfl ⟨rfl, trivial⟩ ?_))))))))))))))))))
       exact ⟨by rw [zck, if_neg (by rw [q10]; decide), if_neg (by rw [q11]; decide), if_neg (by rw [q12]; decide), if_neg (by rw [q13]; decide), if_pos q14]; refine congrArg (fun z => Ending.returned (.bool z)) ?_; first | rfl | (simp_all; done) | (simp_all; omega) | (simp_all; intros; omega) | (simp_all; rfl), (LW.step E XLW).toBelow⟩
      ·
       replace t1 := of_decide_eq_false t1;refine za rfl (zc rfl (za rfl (zc rfl (za rfl (zc rfl (za rfl (zc rfl (za rfl (zc rfl (za rfl (zc rfl (za rfl (ya rfl rfl (anx rfl (zr (zn (zd (zp (rs := [.tmp 8]) (vs := [_]) rfl ⟨rfl, trivial⟩ ?_))))))))))))))))))
       exact ⟨by rw [zck, if_neg (by rw [q10]; decide), if_neg (by rw [q11]; decide), if_neg (by rw [q12]; decide), if_neg (by rw [q13]; decide), if_pos q14]; refine congrArg (fun z => Ending.returned (.bool z)) ?_; first | rfl | (simp_all; done) | (simp_all; omega) | (simp_all; intros; omega) | (simp_all; rfl), (LW.step E XLW).toBelow⟩
     ·
      refine srx (mvx rfl (za rfl (vc rfl rfl (vh i.op 32768 (by decide)) (za rfl (qn rfl rfl (anx rfl (zu 62 (.bool ((flN i.op).testBit 15)) rfl ((by rw [show (32768 : Nat) = 2 ^ 15 from rfl, jf] : (.bool (((flN i.op &&& 32768 : Nat) : Int) != 0) : Value) = _)) (zt rfl (fun q15 => ?_) (fun q15 => ?_)))))))))
      ·
       refine srx (za rfl (zb Tryd.underlying40 rfl sz3 (by decide) rfl (za rfl (zl Tryd.underlying3 rfl rfl (HF.on E).here.2 rfl (za rfl (zz en22 rfl ((span_any _ i.op).mono ?_)))))));rintro e w10 ⟨rfl, hb⟩;refine ⟨_, rfl, ?_⟩;replace E := blx E hb;obtain ⟨eL, eH⟩ := span_row q15
       refine mvx rfl (za rfl (yc rfl rfl (za rfl (yc rfl rfl (avx rfl (anx rfl (srx (za rfl (zb Tryd.underlying40 rfl sz3 (by decide) rfl (za rfl (zl Tryd.underlying3 rfl rfl (HF.on E).here.2 rfl (mvx rfl (za rfl (vr rfl rfl (mvx rfl (yo 76 rfl (fun t1 => ?_) (fun t1 => ?_)))))))))))))))))
       ·
        replace t1 := of_decide_eq_true t1;refine onx rfl (zb Tryd.underlying40 rfl sz3 (by decide) rfl (onx rfl (zl Tryd.underlying3 rfl rfl (HF.on E).here.2 rfl (onx rfl (zq rfl (onx rfl (gz rfl rfl (za rfl (zw rfl rfl (anx rfl (zr (zn (zd (zp (rs := [.tmp 8]) (vs := [_]) rfl ⟨rfl, trivial⟩ ?_))))))))))))))
        exact ⟨by rw [zck, if_neg (by rw [q10]; decide), if_neg (by rw [q11]; decide), if_neg (by rw [q12]; decide), if_neg (by rw [q13]; decide), if_neg (by rw [q14]; decide), if_pos q15, ← eL, ← eH]; refine congrArg (fun z => Ending.returned (.bool z)) ?_; first | rfl | (simp_all; done) | (simp_all; omega) | (simp_all; intros; omega) | (simp_all; rfl), (LW.step E XLW).toBelow⟩
       ·
        replace t1 := of_decide_eq_false t1;refine za rfl (zc rfl (za rfl (zc rfl (za rfl (zc rfl (za rfl (zc rfl (za rfl (ya rfl rfl (anx rfl (zr (zn (zd (zp (rs := [.tmp 8]) (vs := [_]) rfl ⟨rfl, trivial⟩ ?_))))))))))))))
        exact ⟨by rw [zck, if_neg (by rw [q10]; decide), if_neg (by rw [q11]; decide), if_neg (by rw [q12]; decide), if_neg (by rw [q13]; decide), if_neg (by rw [q14]; decide), if_pos q15, ← eL, ← eH]; refine congrArg (fun z => Ending.returned (.bool z)) ?_; first | rfl | (simp_all; done) | (simp_all; omega) | (simp_all; intros; omega) | (simp_all; rfl), (LW.step E XLW).toBelow⟩
      ·
       refine zj (zm (ze (srx (za rfl (zb Tryd.underlying40 rfl sz3 (by decide) rfl (za rfl (zl Tryd.underlying3 rfl rfl (HF.on E).here.2 rfl (za rfl (ye rfl rfl (anx rfl (zr (zp (rs := [.tmp 8]) (vs := [_]) rfl ⟨rfl, trivial⟩ ?_))))))))))))
       exact ⟨by rw [zck, if_neg (by rw [q10]; decide), if_neg (by rw [q11]; decide), if_neg (by rw [q12]; decide), if_neg (by rw [q13]; decide), if_neg (by rw [q14]; decide), if_neg (by rw [q15]; decide)]; refine congrArg (fun z => Ending.returned (.bool z)) ?_; first | rfl | (simp_all; done) | (simp_all; omega) | (simp_all; intros; omega) | (simp_all; rfl), (LW.step E XLW).toBelow⟩
end
end Go.Proofs.YtmjbnhjgebjhlaaDoor
namespace Go.Proofs.YtmjbnhjgebjhlaaDoor
open Go.RowKit
set_option maxRecDepth 100000
theorem zqq {α : Type} {l : List α} {P : α → Bool} {k : Nat} {y : α} (hy : l[k]? = some y) (h : (l.take k).all P = true) (hp : P y = true) : (l.take (k + 1)).all P = true := by
 rw [List.take_add_one, hy, List.all_append, h];simp [hp]
theorem jn {α : Type} {l : List α} {P : α → Bool} {k : Nat} {y : α} (hy : l[k]? = some y) (hp : P y = false) : l.all P = false := by
 rw [List.all_eq_false];exact ⟨y, List.mem_of_getElem? hy, by rw [hp]; decide⟩
theorem zzk {α : Type} {l : List α} {P : α → Bool} {k : Nat} (h : (l.take k).all P = true) (hk : ¬ k < l.length) : l.all P = true := by rwa [List.take_of_length_le (by omega)] at h
structure FsA (n : Nat) (w : World) (A : Option Addr) (fs : List LFn) : Prop where
 len : fs.length ≤ 140737488351232
 row : RowS n w 10 (fun w g o f => ∃ p, FnA n w p f ∧ zdz w g o (fnC p f)) A fs
 strs : ∀ f ∈ fs, ∀ c ∈ f.consts, c.2.size ≤ 140737488355328
theorem FsA.low {n : Nat} {X : Nat → Prop} {w w' : World} {A : Option Addr} {fs : List LFn} (h : FsA n w A fs) (k : Low n X w w') : FsA n w' A fs :=
 ⟨h.len, h.row.low fun g o f hg ⟨p, h1, h2⟩ => ⟨p, h1.low k, k.cells hg h2⟩, h.strs⟩
theorem FsA.no {n : Nat} {w w' : World} {A : Option Addr} {fs : List LFn} (h : FsA n w A fs) (k : Ext No w w') : FsA n w' A fs := h.low (X := No) ⟨k, fun _ h => h.elim⟩
theorem Per.fsA {n : Nat} {X : Nat → Prop} {w : World} {A : Option Addr} {fs : List LFn} (h : FsA n w A fs) (hX : ∀ k, X k → n ≤ k) : Per X w (fun z => FsA n z A fs) := fun _ hb => h.low ⟨hb, hX⟩
theorem FsA.at {n : Nat} {w : World} {A : Option Addr} {fs : List LFn} (h : FsA n w A fs) {j : Nat} {f : LFn} (hj : fs[j]? = some f) : ∃ g o p, A = some ⟨g, o, none⟩ ∧ g < n ∧ FnA n w p f ∧ zdz w g (o + j * 10) (fnC p f) := by
 obtain ⟨g, o, e, hg, p, h1, h2⟩ := h.row.at hj;exact ⟨g, o, p, e, hg, h1, h2⟩
theorem fsAt_of {fs : List LFn} {k : Nat} {f : LFn} (h : fs[k]? = some f) : fsAt fs ((k : Nat) : Int) = f.frees := by
 unfold fsAt;rw [show ((k : Nat) : Int).toNat = k from rfl, h]; rfl
theorem yhz (v n : Int) : yq true v n = inI v n := rfl
theorem op_36 {op : Int} (h : (flN op).testBit 9 = true) : (flN op).testBit 10 = false ∧ (flN op).testBit 11 = false ∧ (flN op).testBit 12 = false ∧ (flN op).testBit 13 = false ∧ (flN op).testBit 14 = true := by
 by_cases h0 : op < 0 ∨ 44 < op
 · have e : flN op = 0 := by unfold flN; rw [if_pos h0]
   rw [e] at h; simp at h
 · have key : ∀ k : Fin 45, (flN (k.val : Int)).testBit 9 = true → (flN (k.val : Int)).testBit 10 = false ∧ (flN (k.val : Int)).testBit 11 = false ∧ (flN (k.val : Int)).testBit 12 = false ∧ (flN (k.val : Int)).testBit 13 = false ∧ (flN (k.val : Int)).testBit 14 = true := by decide +kernel
   have e : op = ((op.toNat : Nat) : Int) := by omega
   rw [e] at h ⊢;exact key ⟨op.toNat, by omega⟩ h
theorem kOK_36 {nf : Nat} {f : LFn} {i : LIns} (h : kOK nf f i = true) (h9 : (flN i.op).testBit 9 = true) : 0 < i.k ∧ i.k < (nf : Int) := by
 obtain ⟨h10, h11, h12, h13, h14⟩ := op_36 h9;rw [zck, h10, h11, h12, h13, h14] at h;simp at h
 omega
theorem zsk (fs : List LFn) (f : LFn) (i : LIns) : lOK fs f i = (i.l.all (fun r => inI r f.regs) && (if (flN i.op).testBit 5 = true then true else if (flN i.op).testBit 6 = true then decide (i.l.length % 2 = 0) else if (flN i.op).testBit 7 = true then decide ((i.l.length : Int) = 1) else if (flN i.op).testBit 8 = true then decide ((i.l.length : Int) = 2) else if (flN i.op).testBit 9 = true then decide ((i.l.length : Int) = fsAt fs i.k) else decide (i.l.length = 0))) := by
 unfold lOK rL;generalize (flN i.op).testBit 5 = b1
 generalize (flN i.op).testBit 6 = b2
 generalize (flN i.op).testBit 7 = b3
 generalize (flN i.op).testBit 8 = b4
 generalize (flN i.op).testBit 9 = b5
 cases b1 <;> cases b2 <;> cases b3 <;> cases b4 <;> cases b5 <;> rfl
theorem IntsA.cellA {n : Nat} {w : World} {A : Option Addr} {xs : List Int} (h : IntsA n w A xs) {j g o : Nat} {x : Int} (hj : xs[j]? = some x) (hA : A = some ⟨g, o, none⟩) : w.cell? ⟨g, o + j, none⟩ = some (.int .i64 x) := by
 obtain ⟨g', o', e, _, hc⟩ := h.cell hj;rw [hA] at e;cases e
 exact hc
theorem FsA.cellA {n : Nat} {w : World} {A : Option Addr} {fs : List LFn} (h : FsA n w A fs) {j g o : Nat} {f : LFn} (hj : fs[j]? = some f) (hA : A = some ⟨g, o, none⟩) : w.cell? ⟨g, o + j * 10 + 3, none⟩ = some (.int .i64 f.frees) := by
 obtain ⟨g', o', p, e, _, _, hc⟩ := h.at hj;rw [hA] at e;cases e
 exact hc 3 _ rfl
theorem InsA.at {n : Nat} {w : World} {A : Option Addr} {xs : List LIns} (h : InsA n w A xs) {j : Nat} {x : LIns} (hj : xs[j]? = some x) : ∃ g o B c, A = some ⟨g, o, none⟩ ∧ g < n ∧ 8 * x.l.length ≤ 140737488351232 ∧ IntsA n w B x.l ∧ zdz w g (o + j * 7) (insV x B c) := by
 obtain ⟨g, o, e, hg, _, B, c, h1, h2, h3⟩ := h.row.at hj;exact ⟨g, o, B, c, e, hg, h1, h2, h3⟩
end Go.Proofs.YtmjbnhjgebjhlaaDoor

/- Texts of this claim. -/
import Derived.Test.YtmjbnhjgebjhlaaDoorS16
namespace Go.Proofs.YtmjbnhjgebjhlaaDoor
open Go.RowKit
set_option maxRecDepth 100000
attribute [local irreducible] OW RS
theorem powtab_at {j : Nat} (h : j < 9) : (pows.map (fun z => Value.int .i64 z))[j]? = some (.int .i64 ((pt j : Nat) : Int)) := by
 have key : ∀ i : Fin 9, pows[i.val]? = some ((pt i.val : Nat) : Int) := by decide +kernel
 rw [List.getElem?_map, key ⟨j, h⟩]; rfl
theorem pt_far {j : Nat} (h : 9 ≤ j) : pt j = 27 := by unfold pt; rw [if_pos h]
theorem and_i2047 {k : Nat} (h : k ≤ 2047) : IntKind.i64.wrap (BitVec.ofInt IntKind.i64.bits ((k : Nat) : Int) &&& BitVec.ofInt IntKind.i64.bits 2047).toNat = ((k : Nat) : Int) := by
 have key : ∀ v : Fin 2048, IntKind.i64.wrap (BitVec.ofInt IntKind.i64.bits ((v.val : Nat) : Int) &&& BitVec.ofInt IntKind.i64.bits 2047).toNat = ((v.val : Nat) : Int) := by decide +kernel
 exact key ⟨k, by omega⟩
theorem shl_52 {k : Nat} (h : k ≤ 2047) : IntKind.u64.wrap (((k : Nat) : Int) * 2 ^ (min ((52 : Int)).toNat IntKind.u64.bits)) = ((k * 4503599627370496 : Nat) : Int) := by
 have e := zpx k 52 (by decide);have e2 : k * 2 ^ 52 % 18446744073709551616 = k * 4503599627370496 := Nat.mod_eq_of_lt (by show k * 4503599627370496 < 18446744073709551616; omega);rw [e2] at e;exact e
theorem and_lo {m : Nat} (h : m < 18446744073709551616) : IntKind.u64.wrap (BitVec.ofInt IntKind.u64.bits ((m : Nat) : Int) &&& BitVec.ofInt IntKind.u64.bits 4503599627370495).toNat = ((m &&& 4503599627370495 : Nat) : Int) := xg (n := 4503599627370495) h (by decide)
theorem and_hi {m : Nat} (h : m < 18446744073709551616) : IntKind.u64.wrap (BitVec.ofInt IntKind.u64.bits ((m : Nat) : Int) &&& BitVec.ofInt IntKind.u64.bits 4503599627370496).toNat = ((m &&& 4503599627370496 : Nat) : Int) := xg (n := 4503599627370496) h (by decide)
theorem fbR_neg {t : Dec} (ht : DecI t) (h0 : 0 < t.nd) (hd : -330 ≤ t.dp ∧ t.dp ≤ 310) : (fbR t).t.neg = t.neg := by
 have h := vf (done := zdz) (step := zcv) (fun s => FbRI s ∧ s.t.neg = t.neg) (fun s => msR s.t) (fun s h hd => ?_) ⟨ygx ht h0 hd, rfl⟩
 · exact h.1.2
 · obtain ⟨h1, h2⟩ := ygz h.1 hd;obtain ⟨_, _, _, _, h5⟩ := kg (k := pt s.t.dp.toNat) h.1.dec (pt_le _).1 h.1.pos;exact ⟨⟨h1, h5.trans h.2⟩, h2⟩
theorem fbL_neg {t : Dec} (ht : DecI t) (h0 : 0 < t.nd) (hd : -330 ≤ t.dp ∧ t.dp ≤ 310) : (fbL t).t.neg = t.neg := by
 obtain ⟨h1, h2⟩ := fbR_ends ht h0 hd;have h := vf (done := zjk) (step := zdx) (fun s => FbLI s ∧ s.t.neg = t.neg) (fun s => msL s.t) (fun s h hd => ?_) ⟨ygq h1 h2, fbR_neg ht h0 hd⟩
 · exact h.1.2
 · obtain ⟨h3, h4⟩ := ygk h.1 hd;obtain ⟨_, _, _, _, _, h5⟩ := ziz (k := pt (-s.t.dp).toNat) h.1.dec h.1.pos (pt_shl _);exact ⟨⟨h3, h5.trans h.2⟩, h4⟩
theorem shrD_neg {t : Dec} {k : Nat} (h : ShI ⟨t, k⟩) : (shrD t k).neg = t.neg := by
 have h1 := vf (done := zmx) (step := zuz) (fun s => ShI s ∧ s.t.neg = t.neg) (fun s => s.k) (fun s h hd => ?_) ⟨h, rfl⟩
 · have h2 : ShI (shA t k) ∧ (shA t k).t.neg = t.neg := h1.1;obtain ⟨_, _, _, _, h5⟩ := kg (k := (shA t k).k) h2.1.dec h2.1.k1.1 h2.1.pos;exact h5.trans h2.2
 · obtain ⟨h3, h4⟩ := sh_keeps h.1 hd;obtain ⟨_, _, _, _, h5⟩ := kg (k := 60) h.1.dec (by decide) h.1.pos;exact ⟨⟨h3, h5.trans h.2⟩, h4⟩
def xj (m k : Nat) : Nat := (m &&& 4503599627370495) ||| k * 4503599627370496
theorem slowC_or {m k : Nat} (hk : k ≤ 2047) : IntKind.u64.wrap (BitVec.ofInt IntKind.u64.bits ((m &&& 4503599627370495 : Nat) : Int) ||| BitVec.ofInt IntKind.u64.bits ((k * 4503599627370496 : Nat) : Int)).toNat = ((xj m k : Nat) : Int) :=
 kh (Nat.lt_of_le_of_lt Nat.and_le_right (by decide)) (by omega)
theorem slowC_lt {m k : Nat} (hk : k ≤ 2047) : xj m k < 18446744073709551616 :=
 or_lt (k := 64) (Nat.lt_of_le_of_lt Nat.and_le_right (by decide)) (by show k * 4503599627370496 < 18446744073709551616; omega)
theorem slowC_neg {m k : Nat} (hk : k ≤ 2047) : IntKind.u64.wrap (BitVec.ofInt IntKind.u64.bits ((xj m k : Nat) : Int) ||| BitVec.ofInt IntKind.u64.bits 9223372036854775808).toNat = ((xj m k ||| 9223372036854775808 : Nat) : Int) :=
 kh (n := 9223372036854775808) (slowC_lt hk) (by decide)
section
variable (w : World) {bp op cp bf of cf bl ol cl : Nat}
set_option maxHeartbeats 2000000 in
theorem bits_any (ga : Nat) (t : Dec) (ht : DecI t) (hdp0 : -20000000 ≤ t.dp ∧ t.dp ≤ 20000000) (hB : Blk w ga 125 (yz t)) (hT : Tabs bp op cp bf of cf bl ol cl w) (hg : TabsB bp bf bl ga) :
 Calls Tryd.prog 61 #[.pointer (some ⟨ga, 0, none⟩), .pointer (some ⟨5, 0, none⟩)] w fun e w' => e = .returned (.tuple #[.int .u64 ((zbk t : Nat) : Int), .bool (xe t).2.2]) ∧ (∃ t', Blk w' ga 125 (yz t')) ∧ Ext (Mut [some ga]) w w' := by
 have hl := ht.len;have hnd := ht.hn;refine yk Tryd.func61 rfl Tryd.ntmps61 rfl ?_;have Ba := hB;have HF : Per (Mut [(some ga)]) w (fun _ => True) := Per.true_;have LW := erx (Mut [(some ga)]) w;have XLW := grx (Mut [(some ga)]) w;have E := erx (Mut [(some ga)]) w;replace HF := HF.on E;replace LW := LW.step E XLW;replace E := erx (Mut [(some ga)]) w
 replace HF := HF.and (Per.tabsB hT hg (fun q h => h.elim (fun e => Nat.le_of_eq (Option.some.inj e).symm) (fun e => e.elim)));replace HF := HF.on E;replace LW := LW.step E XLW;replace E := erx (Mut [(some ga)]) w;replace HF := HF.and (Per.cellB (HF.on E).here.2.man hg.info (fun q h => h.elim (fun e => Nat.le_of_eq (Option.some.inj e).symm) (fun e => e.elim)));replace HF := HF.on E
 replace LW := LW.step E XLW;replace E := erx (Mut [(some ga)]) w;replace HF := HF.and (Per.cellB (HF.on E).here.1.2.exp hg.info (fun q h => h.elim (fun e => Nat.le_of_eq (Option.some.inj e).symm) (fun e => e.elim)));replace HF := HF.on E;replace LW := LW.step E XLW;replace E := erx (Mut [(some ga)]) w
 replace HF := HF.and (Per.cellB (HF.on E).here.1.1.2.bias hg.info (fun q h => h.elim (fun e => Nat.le_of_eq (Option.some.inj e).symm) (fun e => e.elim)));refine srx (avx rfl (anx rfl (cw_scope 4 ?_)));replace HF := HF.on E;replace LW := LW.step E XLW;replace E := erx (Mut [(some ga)]) w
 refine cw_tail (l := 0) (ι := Nat × Nat × Bool × Dec) (fun (m, k, ov, u) => [(0, .pointer (some ⟨ga, 0, none⟩)), (1, .pointer (some ⟨5, 0, none⟩)), (5, .bool ov), (6, .int .i64 (((k : Nat) : Int) - 1023)), (7, .int .u64 ((m : Nat) : Int))]) (fun (m, k, ov, u) w' => Ext (Mut [(some ga)]) w w' ∧ Blk w' ga 125 (yz u) ∧ (xe t = (m, k, ov) ∧ m < 18446744073709551616 ∧ k ≤ 2047 ∧ u.d.length = 800 ∧ u.neg = t.neg)) rfl ?_ ?_
 ·
  intro TLM1;have M1 := erx (Mut [(some ga)]) w;have XM1 := grx (Mut [(some ga)]) w;replace HF := HF.on E;replace LW := LW.step E XLW;replace M1 := M1.step E XM1;replace E := erx (Mut [(some ga)]) w
  refine cw_tail (l := 1) (ι := Dec) (fun u => [(0, .pointer (some ⟨ga, 0, none⟩)), (1, .pointer (some ⟨5, 0, none⟩))]) (fun u w' => Ext (Mut [(some ga)]) w w' ∧ Blk w' ga 125 (yz u) ∧ (xe t = (0, 2047, true) ∧ u.d.length = 800 ∧ u.neg = t.neg)) rfl ?_ ?_
  ·
   intro TLM3;have M3 := erx (Mut [(some ga)]) w;have XM3 := grx (Mut [(some ga)]) w;refine srx (anx rfl (srx (anx rfl (zf (srx (mvx rfl (za rfl (zg rfl (za rfl (zb Tryd.underlying125 rfl sz3 (by decide) rfl (za rfl (zl Tryd.underlying3 rfl rfl Ba (xm hl t.nd rfl) (za rfl (ye rfl rfl (rnx (zt rfl (fun h1 => ?_) (fun h1 => ?_)))))))))))))))))
   ·
    have h1 : t.nd = 0 := by have h1 := eq_of_beq h1; omega
    have hfb : xe t = (0, 0, false) := by unfold xe; rw [if_pos h1]
    refine srx (anx rfl (srx (mvx rfl (za rfl (zg rfl (za rfl (zb Tryd.underlying115 rfl sz3 (by decide) rfl (za rfl (yi Tryd.underlying3 rfl rfl (HF.on E).here.2 (anx rfl (zdk (jm ?_))))))))))));exact zdq rfl TLM1 (0, 0, false, t) ⟨rfl, rfl, rfl, rfl, rfl, trivial⟩ ⟨M1.step E XM1, (by exact Ba), hfb, by decide, by decide, hl, rfl⟩
   ·
    have h1 : t.nd ≠ 0 := fun e => absurd h1 (by rw [e]; decide);refine zk (ze (zf (srx (mvx rfl (za rfl (zg rfl (za rfl (zb Tryd.underlying125 rfl sz3 (by decide) rfl (za rfl (zl Tryd.underlying3 rfl rfl Ba (znq hl t.dp rfl) (za rfl (qo rfl rfl (rnx (zt rfl (fun h2 => ?_) (fun h2 => ?_)))))))))))))))
    ·
     have h2 := of_decide_eq_true h2;have hfb : xe t = (0, 2047, true) := by unfold xe; rw [if_neg h1, if_pos h2]
     refine zdk (jm ?_);exact zdq rfl TLM3 t ⟨rfl, rfl, trivial⟩ ⟨M3.step E XM3, (by exact Ba), hfb, hl, rfl⟩
    ·
     have h2 := of_decide_eq_false h2;refine zk (ze (zf (srx (mvx rfl (za rfl (zg rfl (za rfl (zb Tryd.underlying125 rfl sz3 (by decide) rfl (za rfl (zl Tryd.underlying3 rfl rfl Ba (znq hl t.dp rfl) (za rfl (yv rfl rfl (rnx (zt rfl (fun h3 => ?_) (fun h3 => ?_)))))))))))))))
     ·
      have h3 := of_decide_eq_true h3;have hfb : xe t = (0, 0, false) := by unfold xe; rw [if_neg h1, if_neg h2, if_pos h3]
      refine srx (anx rfl (srx (mvx rfl (za rfl (zg rfl (za rfl (zb Tryd.underlying115 rfl sz3 (by decide) rfl (za rfl (yi Tryd.underlying3 rfl rfl (HF.on E).here.2 (anx rfl (zdk (jm ?_))))))))))));exact zdq rfl TLM1 (0, 0, false, t) ⟨rfl, rfl, rfl, rfl, rfl, trivial⟩ ⟨M1.step E XM1, (by exact Ba), hfb, by decide, by decide, hl, rfl⟩
     ·
      have h3 := of_decide_eq_false h3;have hpos : 0 < t.nd := by omega
      have hfb0 : xe t = fbMid (fbL t).t ((fbL t).e - 1) := by unfold xe; rw [if_neg h1, if_neg h2, if_neg h3]
      refine zk (ze (srx (anx rfl (zf ?_))));replace HF := HF.on E;replace M1 := M1.step E XM1;replace M3 := M3.step E XM3;replace E := erx (Mut [(some ga)]) w
      refine qe (ι := FbS) (fun s => [(0, .pointer (some ⟨ga, 0, none⟩)), (1, .pointer (some ⟨5, 0, none⟩)), (4, .int .u64 0), (5, .bool false), (6, .int .i64 s.e), (7, .int .u64 0)]) (fun s w' => Ext (Mut [(some ga)]) w w' ∧ Blk w' ga 125 (yz s.t) ∧ (s = fbR t)) ?_ ?_
      ·
       have M5 := erx (Mut [(some ga)]) w;have XM5 := grx (Mut [(some ga)]) w;refine zy ?_;replace HF := HF.on E;replace M5 := M5.step E XM5;replace E := erx (Mut [(some ga)]) w
       refine qq (ι := FbS) (fun s => [(0, .pointer (some ⟨ga, 0, none⟩)), (1, .pointer (some ⟨5, 0, none⟩)), (4, .int .u64 0), (5, .bool false), (6, .int .i64 s.e), (7, .int .u64 0)]) (fun s w' => Ext (Mut [(some ga)]) w w' ∧ Blk w' ga 125 (yz s.t) ∧ (FbRI s ∧ qt zdz zcv s = fbR t)) (fun s => msR s.t) (⟨t, 0⟩) ⟨rfl, rfl, rfl, rfl, rfl, rfl, trivial⟩ ⟨Ext.refl _ _, (by exact Ba), ygx ht hpos (by omega), rfl⟩ ?_
       have LTa := (yj Ba.lt);clear Ba;rintro s w8 ⟨M7, Ba, ⟨hI, hu⟩⟩;have XM7 : Gro (Mut [(some ga)]) (Mut [(some ga)]) w := (Mut.grow Mut.none_ (fun k e => Or.inl (Mut.head k e)));replace E := E.trans M7;replace HF := HF.on E;replace M5 := M5.step E XM5;replace E := erx (Mut [(some ga)]) w8;have hls := hI.dec.len;have hsd := hI.dp;have hse := hI.e;have hsp := hI.pos
       refine zf (srx (mvx rfl (za rfl (zg rfl (za rfl (zb Tryd.underlying125 rfl sz3 (by decide) rfl (za rfl (zl Tryd.underlying3 rfl rfl Ba (znq hls s.t.dp rfl) (za rfl (qo rfl rfl (rnx (zt rfl (fun h4 => ?_) (fun h4 => ?_)))))))))))))
       ·
        have h4 := of_decide_eq_true h4;have hdone : zdz s = false := decide_eq_false (by omega);obtain ⟨hkeep, hms⟩ := ygz hI hdone;obtain ⟨P, hP⟩ : ∃ P, P = pt s.t.dp.toNat := ⟨_, rfl⟩;have hP1 := pt_le s.t.dp.toNat;have hst : zcv s = ⟨vz s.t P, s.e + ((P : Nat) : Int)⟩ := by rw [hP]; rfl
        rw [← hP] at hP1;rw [qv hdone] at hu;rw [hst] at hu hkeep hms;refine zk (ze (zy (srx (anx rfl (zf (zf ?_))))));replace HF := HF.on E;replace M7 := M7.step E XM7;replace E := erx (Mut [(some ga)]) w8
        refine qe (ι := Bool) (fun g => [(0, .pointer (some ⟨ga, 0, none⟩)), (1, .pointer (some ⟨5, 0, none⟩)), (4, .int .u64 0), (5, .bool false), (6, .int .i64 s.e), (7, .int .u64 0), (8, .int .i64 0), (46, .bool g)]) (fun g w' => Ext (Mut [(some ga)]) w8 w' ∧ Blk w' ga 125 (yz s.t) ∧ (g = decide (9 ≤ s.t.dp))) ?_ ?_
        ·
         have M9 := erx (Mut [(some ga)]) w8;have XM9 := grx (Mut [(some ga)]) w8;have OY : ∀ q9, (Mut (xw [])) q9 → q9 < (World.drew w8).heap.size → (Mut [(some ga)]) q9 := fun k h _ => (Mut.none_) k h;refine vt (Mut [(some ga)]) (Mut.grow Mut.none_ (yj Ba.lt)) [] [] (xy [Fx.of (.pointer (some ⟨ga, 0, none⟩)),
          Fx.of (.pointer (some ⟨ga, 0, none⟩)),
          Fx.of (.pointer (some ⟨ga, 801, none⟩)),
          Fx.of (.int .i64 s.t.dp),
          Fx.of (.slice (some ⟨bp, op, none⟩) 9 cp),
          Fx.of (.int .i64 9),
          Fx.of (.bool (decide (9 ≤ s.t.dp)))]) mixed rfl trivial (fun _ h => by cases h) ?_ ?_
         · refine ⟨?_, ?_, ?_, ?_, ?_, ?_, ?_, trivial⟩
           · intro vs X wq K;exact zn rfl ⟨Below.refl _ _, Left.of rfl⟩
           · intro vs X wq K;obtain ⟨_, e0, k0⟩ := K.dep 0 rfl rfl rfl;refine zi 40 (.pointer (some ⟨ga, 0, none⟩)) rfl e0 ?_;exact zg rfl ⟨Below.refl _ _, Left.of rfl⟩
           · intro vs X wq K;obtain ⟨_, e1, k1⟩ := K.dep 1 rfl rfl rfl;refine zi 41 (.pointer (some ⟨ga, 0, none⟩)) rfl e1 ?_;exact zb Tryd.underlying125 rfl sz3 (by decide) rfl ⟨Below.refl _ _, Left.of rfl⟩
           · intro vs X wq K;have LE := K.1;obtain ⟨_, e2, k2⟩ := K.dep 2 rfl rfl rfl;refine zi 42 (.pointer (some ⟨ga, 801, none⟩)) rfl e2 ?_;exact zl Tryd.underlying3 rfl rfl (Ba.drew.extN LE NotIn.nil) (znq hls s.t.dp rfl) ⟨Below.refl _ _, Left.of rfl⟩
           · intro vs X wq K;have LE := K.1;exact yi Tryd.underlying38 rfl rfl (HF.on (E.drew.trans (LE.mono OY))).here.1.1.1.2.powtab.head ⟨Below.refl _ _, Left.of rfl⟩
           · intro vs X wq K;obtain ⟨_, e4, k4⟩ := K.dep 4 rfl rfl rfl;refine zi 44 (.slice (some ⟨bp, op, none⟩) 9 cp) rfl e4 ?_;exact vj Tryd.underlying38 rfl ⟨Below.refl _ _, Left.of rfl⟩
           · intro vs X wq K;obtain ⟨_, e3, k3⟩ := K.dep 3 rfl rfl rfl;refine zi 43 (.int .i64 s.t.dp) rfl e3 ?_;obtain ⟨_, e5, k5⟩ := K.dep 5 rfl rfl rfl;refine zi 45 (.int .i64 9) rfl e5 ?_;exact vk rfl rfl ⟨Below.refl _ _, Left.of rfl⟩
         intro vs w11 LE AO AL AF AA;have LBa := Ba;replace Ba := Ba.drew.extN LE NotIn.nil;replace E := E.drew.trans (LE.mono OY);obtain ⟨_, e6, k6⟩ := AL.2.2.2.2.2.2.1;refine ja (τ := [(0, _), (1, _), (4, _), (5, _), (6, _), (7, _), (8, _), (46, .bool (decide (9 ≤ s.t.dp)))]) ⟨rfl, rfl, rfl, rfl, rfl, rfl, rfl, congrArg some e6, trivial⟩ ?_;clear AL AF AA LE AO OY e6 k6 LBa
         exact yq (decide (9 ≤ s.t.dp)) ⟨rfl, rfl, rfl, rfl, rfl, rfl, rfl, rfl, trivial⟩ ⟨M9.step E XM9, (by exact Ba), rfl⟩
        ·
         have LTa := (yj Ba.lt);clear Ba;rintro g w10 ⟨M9, Ba, hgg⟩;replace E := E.trans M9;replace HF := HF.on E;replace M7 := M7.step E XM7;replace E := erx (Mut [(some ga)]) w10;replace HF := HF.on E;replace M7 := M7.step E XM7;replace E := erx (Mut [(some ga)]) w10
         refine qe (ι := Unit) (fun _ => [(0, .pointer (some ⟨ga, 0, none⟩)), (1, .pointer (some ⟨5, 0, none⟩)), (4, .int .u64 0), (5, .bool false), (6, .int .i64 s.e), (7, .int .u64 0), (8, .int .i64 ((P : Nat) : Int))]) (fun _ w' => Ext (Mut [(some ga)]) w10 w' ∧ Blk w' ga 125 (yz s.t) ∧ (True)) ?_ ?_
         ·
          have M12 := erx (Mut [(some ga)]) w10;have XM12 := grx (Mut [(some ga)]) w10;refine zt rfl (fun h5 => ?_) (fun h5 => ?_)
          ·
           rw [hgg] at h5;have h5 := of_decide_eq_true h5;have e : P = 27 := by rw [hP]; exact pt_far (by omega)
           refine zj (avx rfl (yd (yr 8 (.int .i64 ((P : Nat) : Int)) rfl ((by rw [e]; rfl : (.int .i64 27 : Value) = _)) ?_)));exact yq () ⟨rfl, rfl, rfl, rfl, rfl, rfl, rfl, trivial⟩ ⟨M12.step E XM12, (by exact Ba), trivial⟩
          ·
           rw [hgg] at h5;have h5 := of_decide_eq_false h5;have OY : ∀ q9, (Mut (xw [])) q9 → q9 < (World.drew w10).heap.size → (Mut [(some ga)]) q9 := fun k h _ => (Mut.none_) k h;refine vt (Mut [(some ga)]) (Mut.grow Mut.none_ (yj Ba.lt)) [] [] (xy [Fx.of (.slice (some ⟨bp, op, none⟩) 9 cp),
            Fx.of (.pointer (some ⟨ga, 0, none⟩)),
            Fx.of (.pointer (some ⟨ga, 0, none⟩)),
            Fx.of (.pointer (some ⟨ga, 801, none⟩)),
            Fx.of (.int .i64 s.t.dp),
            Fx.of (.pointer (some ⟨bp, op + s.t.dp.toNat * 1, none⟩)),
            Fx.of (.int .i64 ((pt s.t.dp.toNat : Nat) : Int)),
            Fx.of (.int .i64 ((pt s.t.dp.toNat : Nat) : Int))]) mixed rfl trivial (fun _ h => by cases h) ?_ ?_
           · refine ⟨?_, ?_, ?_, ?_, ?_, ?_, ?_, ?_, trivial⟩
             · intro vs X wq K;have LE := K.1;exact yi Tryd.underlying38 rfl rfl (HF.on (E.drew.trans (LE.mono OY))).here.1.1.1.2.powtab.head ⟨Below.refl _ _, Left.of rfl⟩
             · intro vs X wq K;exact zn rfl ⟨Below.refl _ _, Left.of rfl⟩
             · intro vs X wq K;obtain ⟨_, e1, k1⟩ := K.dep 1 rfl rfl rfl;refine zi 48 (.pointer (some ⟨ga, 0, none⟩)) rfl e1 ?_;exact zg rfl ⟨Below.refl _ _, Left.of rfl⟩
             · intro vs X wq K;obtain ⟨_, e2, k2⟩ := K.dep 2 rfl rfl rfl;refine zi 49 (.pointer (some ⟨ga, 0, none⟩)) rfl e2 ?_;exact zb Tryd.underlying125 rfl sz3 (by decide) rfl ⟨Below.refl _ _, Left.of rfl⟩
             · intro vs X wq K;have LE := K.1;obtain ⟨_, e3, k3⟩ := K.dep 3 rfl rfl rfl;refine zi 50 (.pointer (some ⟨ga, 801, none⟩)) rfl e3 ?_;exact zl Tryd.underlying3 rfl rfl (Ba.drew.extN LE NotIn.nil) (znq hls s.t.dp rfl) ⟨Below.refl _ _, Left.of rfl⟩
             · intro vs X wq K;obtain ⟨_, e0, k0⟩ := K.dep 0 rfl rfl rfl;refine zi 47 (.slice (some ⟨bp, op, none⟩) 9 cp) rfl e0 ?_;obtain ⟨_, e4, k4⟩ := K.dep 4 rfl rfl rfl;refine zi 51 (.int .i64 s.t.dp) rfl e4 ?_;exact qh (j := s.t.dp.toNat) Tryd.underlying38 sz3 rfl rfl (by omega) (by omega) ⟨Below.refl _ _, Left.of rfl⟩
             · intro vs X wq K;have LE := K.1;obtain ⟨_, e5, k5⟩ := K.dep 5 rfl rfl rfl;refine zi 52 (.pointer (some ⟨bp, op + s.t.dp.toNat * 1, none⟩)) rfl e5 ?_;exact yi Tryd.underlying3 rfl rfl (by rw [Nat.mul_one]; exact (HF.on (E.drew.trans (LE.mono OY))).here.1.1.1.2.powtab.cells _ _ (powtab_at (by omega))) ⟨Below.refl _ _, Left.of rfl⟩
             · intro vs X wq K;obtain ⟨_, e6, k6⟩ := K.dep 6 rfl rfl rfl;refine zi 53 (.int .i64 ((pt s.t.dp.toNat : Nat) : Int)) rfl e6 ?_;exact js rfl ⟨Below.refl _ _, Left.of rfl⟩
           intro vs w14 LE AO AL AF AA;have LBa := Ba;replace Ba := Ba.drew.extN LE NotIn.nil;replace E := E.drew.trans (LE.mono OY);obtain ⟨_, e7, k7⟩ := AL.2.2.2.2.2.2.2.1;refine ja (τ := [(0, _), (1, _), (4, _), (5, _), (6, _), (7, _), (8, .int .i64 ((pt s.t.dp.toNat : Nat) : Int))]) ⟨rfl, rfl, rfl, rfl, rfl, rfl, congrArg some e7, trivial⟩ ?_;clear AL AF AA LE AO OY e7 k7 LBa
           refine yr 8 (.int .i64 ((P : Nat) : Int)) rfl ((by rw [hP] : (.int .i64 ((pt s.t.dp.toNat : Nat) : Int) : Value) = _)) ?_;exact yq () ⟨rfl, rfl, rfl, rfl, rfl, rfl, rfl, trivial⟩ ⟨M12.step E XM12, (by exact Ba), trivial⟩
         ·
          have LTa := (yj Ba.lt);clear Ba;rintro _ w13 ⟨M12, Ba, _⟩;replace E := E.trans M12;replace M7 := M7.step E XM7;replace E := erx (Mut [(some ga)]) w13
          refine srx (mvx rfl (mvx rfl (za rfl (zmk rfl (zo (by omega)) (yc 56 (.int .i64 (-((P : Nat) : Int))) rfl ((by congr 1; omega : (.int .i64 (0 - ((P : Nat) : Int)) : Value) = _)) (za rfl (ya en78 rfl ((shiftR_any _ ga P s.t ⟨hI.dec, hsp, by show 1 ≤ P ∧ P ≤ 300000; omega, by show -10000000 + 15 * ((P : Nat) : Int) ≤ s.t.dp ∧ s.t.dp ≤ 1000000; omega⟩ Ba).mono ?_))))))))
          rintro e w15 ⟨rfl, hB, hE⟩;refine ⟨_, rfl, ?_⟩;replace Ba := hB;clear hB;replace E := E.step1 hE Mut.head;clear hE;replace Ba : Blk w15 ga 125 (yz (vz s.t P)) := by rw [← shrD_one (by omega)]; exact Ba
          refine rnx (zj (mvx rfl (mvx rfl (za rfl (yh rfl rfl (zo (by omega)) (avx rfl (yd (zm ?_))))))));exact yn (⟨vz s.t P, s.e + ((P : Nat) : Int)⟩) (hms) ⟨rfl, rfl, rfl, rfl, rfl, rfl, trivial⟩ ⟨M7.step E XM7, (by exact Ba), hkeep, hu⟩
       ·
        have h4 := of_decide_eq_false h4;have hdone : zdz s = true := decide_eq_true (by omega);rw [qf hdone] at hu;refine yo (zh (zh (zu ?_)));exact yq s ⟨rfl, rfl, rfl, rfl, rfl, rfl, trivial⟩ ⟨M5.step E XM5, (by exact Ba), hu⟩
      ·
       have LTa := (yj Ba.lt);clear Ba;rintro s w6 ⟨M5, Ba, hs⟩;replace E := E.trans M5;replace HF := HF.on E;replace M1 := M1.step E XM1;replace M3 := M3.step E XM3;replace E := erx (Mut [(some ga)]) w6;obtain ⟨hR1, hR2⟩ := fbR_ends ht hpos (by omega);have hLs := ygq hR1 hR2;refine zf ?_;replace HF := HF.on E;replace M1 := M1.step E XM1;replace M3 := M3.step E XM3
       replace E := erx (Mut [(some ga)]) w6;refine qe (ι := FbS) (fun s => [(0, .pointer (some ⟨ga, 0, none⟩)), (1, .pointer (some ⟨5, 0, none⟩)), (4, .int .u64 0), (5, .bool false), (6, .int .i64 s.e), (7, .int .u64 0)]) (fun s w' => Ext (Mut [(some ga)]) w6 w' ∧ Blk w' ga 125 (yz s.t) ∧ (s = fbL t)) ?_ ?_
       ·
        have M16 := erx (Mut [(some ga)]) w6;have XM16 := grx (Mut [(some ga)]) w6;refine zy ?_;replace HF := HF.on E;replace M16 := M16.step E XM16;replace E := erx (Mut [(some ga)]) w6
        refine qq (ι := FbS) (fun s => [(0, .pointer (some ⟨ga, 0, none⟩)), (1, .pointer (some ⟨5, 0, none⟩)), (4, .int .u64 0), (5, .bool false), (6, .int .i64 s.e), (7, .int .u64 0)]) (fun s w' => Ext (Mut [(some ga)]) w6 w' ∧ Blk w' ga 125 (yz s.t) ∧ (FbLI s ∧ qt zjk zdx s = fbL t)) (fun s => msL s.t) s ⟨rfl, rfl, rfl, rfl, rfl, rfl, trivial⟩ ⟨Ext.refl _ _, (by exact Ba), by rw [hs]; exact hLs, by rw [hs]; rfl⟩ ?_
        have LTa := (yj Ba.lt);clear Ba;rintro s w19 ⟨M18, Ba, ⟨hI, hu⟩⟩;have XM18 : Gro (Mut [(some ga)]) (Mut [(some ga)]) w6 := (Mut.grow Mut.none_ (fun k e => Or.inl (Mut.head k e)));replace E := E.trans M18;replace HF := HF.on E;replace M16 := M16.step E XM16;replace E := erx (Mut [(some ga)]) w19;have hls := hI.dec.len;have hsd := hI.dp;have hse := hI.e;have hsp := hI.pos
        have hsg := hI.dec.dig 0 hsp;refine zf (zf ?_);replace HF := HF.on E;replace M16 := M16.step E XM16;replace M18 := M18.step E XM18;replace E := erx (Mut [(some ga)]) w19
        refine qe (ι := Bool) (fun g => [(0, .pointer (some ⟨ga, 0, none⟩)), (1, .pointer (some ⟨5, 0, none⟩)), (4, .int .u64 0), (5, .bool false), (6, .int .i64 s.e), (7, .int .u64 0), (80, .bool g)]) (fun g w' => Ext (Mut [(some ga)]) w19 w' ∧ Blk w' ga 125 (yz s.t) ∧ (g = decide (s.t.dp < 0 ∨ (s.t.dp = 0 ∧ dg s.t.d 0 < 53)))) ?_ ?_
        ·
         have M20 := erx (Mut [(some ga)]) w19;have XM20 := grx (Mut [(some ga)]) w19;refine zj (mvx rfl (za rfl (zg rfl (za rfl (zb Tryd.underlying125 rfl sz3 (by decide) rfl (za rfl (zl Tryd.underlying3 rfl rfl Ba (znq hls s.t.dp rfl) (za rfl (yv rfl rfl (mvx rfl (yp 66 rfl (fun h4 => ?_) (fun h4 => ?_))))))))))))
         ·
          have h4 := of_decide_eq_true h4
          refine za rfl (zc rfl (za rfl (zc rfl (za rfl (zc rfl (za rfl (zc rfl (za rfl (zc rfl (za rfl (zc rfl (za rfl (qr rfl rfl (za rfl (qr rfl rfl (za rfl (qr rfl rfl (za rfl (qr rfl rfl (za rfl (qr rfl rfl (za rfl (qr rfl rfl (za rfl (zc rfl (za rfl (zw rfl rfl (yd ?_))))))))))))))))))))))))))))
          exact yq true ⟨rfl, rfl, rfl, rfl, rfl, rfl, rfl, trivial⟩ ⟨M20.step E XM20, (by exact Ba), (decide_eq_true (.inl h4)).symm⟩
         ·
          have h4 := of_decide_eq_false h4;refine onx rfl (zn rfl (onx rfl (zg rfl (onx rfl (zb Tryd.underlying125 rfl sz3 (by decide) rfl (onx rfl (zl Tryd.underlying3 rfl rfl Ba (znq hls s.t.dp rfl) (onx rfl (ye rfl rfl (onx rfl (zn rfl (yp 72 rfl (fun h5 => ?_) (fun h5 => ?_)))))))))))))
          ·
           have h5 := eq_of_beq h5
           refine onx rfl (zn rfl (onx rfl (zg rfl (onx rfl (zb Tryd.underlying125 rfl xt (by decide) rfl (onx rfl (xq (j := 0) Tryd.underlying123 sz5 rfl rfl rfl (by decide) (onx rfl (zl Tryd.underlying5 rfl rfl Ba (dAt hls (dg s.t.d 0) 0 rfl (by decide)) (onx rfl (yv rfl rfl (onx rfl (zw rfl rfl (za rfl (yb rfl rfl (yd (yr 80 (.bool (decide (s.t.dp < 0 ∨ (s.t.dp = 0 ∧ dg s.t.d 0 < 53)))) rfl (ke (by omega)) ?_)))))))))))))))))
           exact yq (decide (s.t.dp < 0 ∨ (s.t.dp = 0 ∧ dg s.t.d 0 < 53))) ⟨rfl, rfl, rfl, rfl, rfl, rfl, rfl, trivial⟩ ⟨M20.step E XM20, (by exact Ba), rfl⟩
          ·
           have h5 : ¬ s.t.dp = 0 := fun e => absurd h5 (by rw [e]; decide);refine za rfl (zc rfl (za rfl (zc rfl (za rfl (zc rfl (za rfl (zc rfl (za rfl (zc rfl (za rfl (zc rfl (onx rfl (yb rfl rfl (za rfl (yb rfl rfl (yd ?_))))))))))))))))
           exact yq false ⟨rfl, rfl, rfl, rfl, rfl, rfl, rfl, trivial⟩ ⟨M20.step E XM20, (by exact Ba), (decide_eq_false (by omega)).symm⟩
        ·
         have LTa := (yj Ba.lt);clear Ba;rintro g w21 ⟨M20, Ba, hgg⟩;replace E := E.trans M20;replace HF := HF.on E;replace M16 := M16.step E XM16;replace M18 := M18.step E XM18;replace E := erx (Mut [(some ga)]) w21;refine zt rfl (fun h4 => ?_) (fun h4 => ?_)
         ·
          rw [hgg] at h4;have h4 := of_decide_eq_true h4;have hdone : zjk s = false := decide_eq_false (fun h => h h4);obtain ⟨hkeep, hms⟩ := ygk hI hdone;obtain ⟨P, hP⟩ : ∃ P, P = pt (-s.t.dp).toNat := ⟨_, rfl⟩;have hP1 := pt_le (-s.t.dp).toNat;have hP2 := pt_shl (-s.t.dp).toNat;have hst : zdx s = ⟨vc s.t P, s.e - ((P : Nat) : Int)⟩ := by rw [hP]; rfl
          rw [← hP] at hP1 hP2;rw [qv hdone] at hu;rw [hst] at hu hkeep hms;refine zk (ze (zy (srx (anx rfl (zf (zf ?_))))));replace HF := HF.on E;replace M18 := M18.step E XM18;replace E := erx (Mut [(some ga)]) w21
          refine qe (ι := Bool) (fun g => [(0, .pointer (some ⟨ga, 0, none⟩)), (1, .pointer (some ⟨5, 0, none⟩)), (4, .int .u64 0), (5, .bool false), (6, .int .i64 s.e), (7, .int .u64 0), (9, .int .i64 0), (88, .bool g)]) (fun g w' => Ext (Mut [(some ga)]) w21 w' ∧ Blk w' ga 125 (yz s.t) ∧ (g = decide (9 ≤ 0 - s.t.dp))) ?_ ?_
          ·
           have M22 := erx (Mut [(some ga)]) w21;have XM22 := grx (Mut [(some ga)]) w21;have OY : ∀ q9, (Mut (xw [])) q9 → q9 < (World.drew w21).heap.size → (Mut [(some ga)]) q9 := fun k h _ => (Mut.none_) k h;refine vt (Mut [(some ga)]) (Mut.grow Mut.none_ (yj Ba.lt)) [] [] (xy [Fx.of (.pointer (some ⟨ga, 0, none⟩)),
            Fx.of (.pointer (some ⟨ga, 0, none⟩)),
            Fx.of (.pointer (some ⟨ga, 801, none⟩)),
            Fx.of (.int .i64 s.t.dp),
            Fx.of (.int .i64 (0 - s.t.dp)),
            Fx.of (.slice (some ⟨bp, op, none⟩) 9 cp),
            Fx.of (.int .i64 9),
            Fx.of (.bool (decide (9 ≤ (0 - s.t.dp))))]) mixed rfl trivial (fun _ h => by cases h) ?_ ?_
           · refine ⟨?_, ?_, ?_, ?_, ?_, ?_, ?_, ?_, trivial⟩
             · intro vs X wq K;exact zn rfl ⟨Below.refl _ _, Left.of rfl⟩
             · intro vs X wq K;obtain ⟨_, e0, k0⟩ := K.dep 0 rfl rfl rfl;refine zi 81 (.pointer (some ⟨ga, 0, none⟩)) rfl e0 ?_;exact zg rfl ⟨Below.refl _ _, Left.of rfl⟩
             · intro vs X wq K;obtain ⟨_, e1, k1⟩ := K.dep 1 rfl rfl rfl;refine zi 82 (.pointer (some ⟨ga, 0, none⟩)) rfl e1 ?_;exact zb Tryd.underlying125 rfl sz3 (by decide) rfl ⟨Below.refl _ _, Left.of rfl⟩
             · intro vs X wq K;have LE := K.1;obtain ⟨_, e2, k2⟩ := K.dep 2 rfl rfl rfl;refine zi 83 (.pointer (some ⟨ga, 801, none⟩)) rfl e2 ?_;exact zl Tryd.underlying3 rfl rfl (Ba.drew.extN LE NotIn.nil) (znq hls s.t.dp rfl) ⟨Below.refl _ _, Left.of rfl⟩
             · intro vs X wq K;obtain ⟨_, e3, k3⟩ := K.dep 3 rfl rfl rfl;refine zi 84 (.int .i64 s.t.dp) rfl e3 ?_;exact zmk rfl (zo (by omega)) ⟨Below.refl _ _, Left.of rfl⟩
             · intro vs X wq K;have LE := K.1;exact yi Tryd.underlying38 rfl rfl (HF.on (E.drew.trans (LE.mono OY))).here.1.1.1.2.powtab.head ⟨Below.refl _ _, Left.of rfl⟩
             · intro vs X wq K;obtain ⟨_, e5, k5⟩ := K.dep 5 rfl rfl rfl;refine zi 86 (.slice (some ⟨bp, op, none⟩) 9 cp) rfl e5 ?_;exact vj Tryd.underlying38 rfl ⟨Below.refl _ _, Left.of rfl⟩
             · intro vs X wq K;obtain ⟨_, e4, k4⟩ := K.dep 4 rfl rfl rfl;refine zi 85 (.int .i64 (0 - s.t.dp)) rfl e4 ?_;obtain ⟨_, e6, k6⟩ := K.dep 6 rfl rfl rfl;refine zi 87 (.int .i64 9) rfl e6 ?_;exact vk rfl rfl ⟨Below.refl _ _, Left.of rfl⟩
           intro vs w24 LE AO AL AF AA;have LBa := Ba;replace Ba := Ba.drew.extN LE NotIn.nil;replace E := E.drew.trans (LE.mono OY);obtain ⟨_, e7, k7⟩ := AL.2.2.2.2.2.2.2.1;refine ja (τ := [(0, _), (1, _), (4, _), (5, _), (6, _), (7, _), (9, _), (88, .bool (decide (9 ≤ (0 - s.t.dp))))]) ⟨rfl, rfl, rfl, rfl, rfl, rfl, rfl, congrArg some e7, trivial⟩ ?_
           clear AL AF AA LE AO OY e7 k7 LBa;exact yq (decide (9 ≤ 0 - s.t.dp)) ⟨rfl, rfl, rfl, rfl, rfl, rfl, rfl, rfl, trivial⟩ ⟨M22.step E XM22, (by exact Ba), rfl⟩
          ·
           have LTa := (yj Ba.lt);clear Ba;rintro g w23 ⟨M22, Ba, hg2⟩;replace E := E.trans M22;replace HF := HF.on E;replace M18 := M18.step E XM18;replace E := erx (Mut [(some ga)]) w23;replace HF := HF.on E;replace M18 := M18.step E XM18;replace E := erx (Mut [(some ga)]) w23
           refine qe (ι := Unit) (fun _ => [(0, .pointer (some ⟨ga, 0, none⟩)), (1, .pointer (some ⟨5, 0, none⟩)), (4, .int .u64 0), (5, .bool false), (6, .int .i64 s.e), (7, .int .u64 0), (9, .int .i64 ((P : Nat) : Int))]) (fun _ w' => Ext (Mut [(some ga)]) w23 w' ∧ Blk w' ga 125 (yz s.t) ∧ (True)) ?_ ?_
           ·
            have M25 := erx (Mut [(some ga)]) w23;have XM25 := grx (Mut [(some ga)]) w23;refine zt rfl (fun h5 => ?_) (fun h5 => ?_)
            ·
             rw [hg2] at h5;have h5 := of_decide_eq_true h5;have e : P = 27 := by rw [hP]; exact pt_far (by omega)
             refine zj (avx rfl (yd (yr 9 (.int .i64 ((P : Nat) : Int)) rfl ((by rw [e]; rfl : (.int .i64 27 : Value) = _)) ?_)));exact yq () ⟨rfl, rfl, rfl, rfl, rfl, rfl, rfl, trivial⟩ ⟨M25.step E XM25, (by exact Ba), trivial⟩
            ·
             rw [hg2] at h5;have h5 := of_decide_eq_false h5;have OY : ∀ q9, (Mut (xw [])) q9 → q9 < (World.drew w23).heap.size → (Mut [(some ga)]) q9 := fun k h _ => (Mut.none_) k h;refine vt (Mut [(some ga)]) (Mut.grow Mut.none_ (yj Ba.lt)) [] [] (xy [Fx.of (.slice (some ⟨bp, op, none⟩) 9 cp),
              Fx.of (.pointer (some ⟨ga, 0, none⟩)),
              Fx.of (.pointer (some ⟨ga, 0, none⟩)),
              Fx.of (.pointer (some ⟨ga, 801, none⟩)),
              Fx.of (.int .i64 s.t.dp),
              Fx.of (.int .i64 (0 - s.t.dp)),
              Fx.of (.pointer (some ⟨bp, op + (-s.t.dp).toNat * 1, none⟩)),
              Fx.of (.int .i64 ((pt (-s.t.dp).toNat : Nat) : Int)),
              Fx.of (.int .i64 ((pt (-s.t.dp).toNat : Nat) : Int))]) mixed rfl trivial (fun _ h => by cases h) ?_ ?_
             · refine ⟨?_, ?_, ?_, ?_, ?_, ?_, ?_, ?_, ?_, trivial⟩
               · intro vs X wq K;have LE := K.1;exact yi Tryd.underlying38 rfl rfl (HF.on (E.drew.trans (LE.mono OY))).here.1.1.1.2.powtab.head ⟨Below.refl _ _, Left.of rfl⟩
               · intro vs X wq K;exact zn rfl ⟨Below.refl _ _, Left.of rfl⟩
               · intro vs X wq K;obtain ⟨_, e1, k1⟩ := K.dep 1 rfl rfl rfl;refine zi 90 (.pointer (some ⟨ga, 0, none⟩)) rfl e1 ?_;exact zg rfl ⟨Below.refl _ _, Left.of rfl⟩
               · intro vs X wq K;obtain ⟨_, e2, k2⟩ := K.dep 2 rfl rfl rfl;refine zi 91 (.pointer (some ⟨ga, 0, none⟩)) rfl e2 ?_;exact zb Tryd.underlying125 rfl sz3 (by decide) rfl ⟨Below.refl _ _, Left.of rfl⟩
               · intro vs X wq K;have LE := K.1;obtain ⟨_, e3, k3⟩ := K.dep 3 rfl rfl rfl;refine zi 92 (.pointer (some ⟨ga, 801, none⟩)) rfl e3 ?_;exact zl Tryd.underlying3 rfl rfl (Ba.drew.extN LE NotIn.nil) (znq hls s.t.dp rfl) ⟨Below.refl _ _, Left.of rfl⟩
               · intro vs X wq K;obtain ⟨_, e4, k4⟩ := K.dep 4 rfl rfl rfl;refine zi 93 (.int .i64 s.t.dp) rfl e4 ?_;exact zmk rfl (zo (by omega)) ⟨Below.refl _ _, Left.of rfl⟩
               · intro vs X wq K;obtain ⟨_, e0, k0⟩ := K.dep 0 rfl rfl rfl;refine zi 89 (.slice (some ⟨bp, op, none⟩) 9 cp) rfl e0 ?_;obtain ⟨_, e5, k5⟩ := K.dep 5 rfl rfl rfl;refine zi 94 (.int .i64 (0 - s.t.dp)) rfl e5 ?_;exact qh (j := (-s.t.dp).toNat) Tryd.underlying38 sz3 rfl rfl (by omega) (by omega) ⟨Below.refl _ _, Left.of rfl⟩
               · intro vs X wq K;have LE := K.1;obtain ⟨_, e6, k6⟩ := K.dep 6 rfl rfl rfl;refine zi 95 (.pointer (some ⟨bp, op + (-s.t.dp).toNat * 1, none⟩)) rfl e6 ?_;exact yi Tryd.underlying3 rfl rfl (by rw [Nat.mul_one]; exact (HF.on (E.drew.trans (LE.mono OY))).here.1.1.1.2.powtab.cells _ _ (powtab_at (by omega))) ⟨Below.refl _ _, Left.of rfl⟩
               · intro vs X wq K;obtain ⟨_, e7, k7⟩ := K.dep 7 rfl rfl rfl;refine zi 96 (.int .i64 ((pt (-s.t.dp).toNat : Nat) : Int)) rfl e7 ?_;exact js rfl ⟨Below.refl _ _, Left.of rfl⟩
             intro vs w27 LE AO AL AF AA;have LBa := Ba;replace Ba := Ba.drew.extN LE NotIn.nil;replace E := E.drew.trans (LE.mono OY);obtain ⟨_, e8, k8⟩ := AL.2.2.2.2.2.2.2.2.1;refine ja (τ := [(0, _), (1, _), (4, _), (5, _), (6, _), (7, _), (9, .int .i64 ((pt (-s.t.dp).toNat : Nat) : Int))]) ⟨rfl, rfl, rfl, rfl, rfl, rfl, congrArg some e8, trivial⟩ ?_
             clear AL AF AA LE AO OY e8 k8 LBa;refine yr 9 (.int .i64 ((P : Nat) : Int)) rfl ((by rw [hP] : (.int .i64 ((pt (-s.t.dp).toNat : Nat) : Int) : Value) = _)) ?_;exact yq () ⟨rfl, rfl, rfl, rfl, rfl, rfl, rfl, trivial⟩ ⟨M25.step E XM25, (by exact Ba), trivial⟩
           ·
            have LTa := (yj Ba.lt);clear Ba;rintro _ w26 ⟨M25, Ba, _⟩;replace E := E.trans M25;replace HF := HF.on E;replace M18 := M18.step E XM18;replace E := erx (Mut [(some ga)]) w26;refine srx (mvx rfl (mvx rfl (za rfl (ya en78 rfl ((shiftL_any _ ga P s.t hP2 hI.dec hsp (by omega) Ba (HF.on E).here.1.1.1.2 hg).mono ?_)))));rintro e w28 ⟨rfl, hB, hE⟩
            refine ⟨_, rfl, ?_⟩;replace Ba := hB;clear hB;replace E := E.step1 hE Mut.head;clear hE;refine rnx (zj (mvx rfl (mvx rfl (za rfl (yx rfl rfl (zo (by omega)) (avx rfl (yd (zm ?_))))))));exact yn (⟨vc s.t P, s.e - ((P : Nat) : Int)⟩) (hms) ⟨rfl, rfl, rfl, rfl, rfl, rfl, trivial⟩ ⟨M18.step E XM18, (by exact Ba), hkeep, hu⟩
         ·
          rw [hgg] at h4;have h4 := of_decide_eq_false h4;have hdone : zjk s = true := decide_eq_true h4;rw [qf hdone] at hu;refine yo (zh (zh (zu ?_)));exact yq s ⟨rfl, rfl, rfl, rfl, rfl, rfl, trivial⟩ ⟨M16.step E XM16, (by exact Ba), hu⟩
       ·
        have LTa := (yj Ba.lt);clear Ba;rintro s w17 ⟨M16, Ba, hs2⟩;replace E := E.trans M16;replace HF := HF.on E;replace M1 := M1.step E XM1;replace M3 := M3.step E XM3;replace E := erx (Mut [(some ga)]) w17;clear hs;obtain ⟨hL1, _⟩ := fbL_ends ht hpos (by omega);rw [← hs2] at hL1 hfb0;have hls := hL1.dec.len;have hsd := hL1.dp;have hse := hL1.e;have hsp := hL1.pos
        have hms : 0 ≤ ((msL s.t : Nat) : Int) := by omega
        have hng0 : s.t.neg = t.neg := by rw [hs2]; exact fbL_neg ht hpos (by omega)
        refine srx (mvx rfl (za rfl (yx rfl rfl (zo (by omega)) (anx rfl (zf (srx (mvx rfl (mvx rfl (za rfl (zg rfl (za rfl (zb Tryd.underlying115 rfl sz3 (by decide) rfl (za rfl (yi Tryd.underlying3 rfl rfl (HF.on E).here.2 (za rfl (yh (z := (-1022)) rfl rfl (by kernel_rfl) (za rfl (yv rfl rfl (rnx ?_)))))))))))))))))))
        replace HF := HF.on E;replace M1 := M1.step E XM1;replace M3 := M3.step E XM3;replace E := erx (Mut [(some ga)]) w17
        refine qe (ι := Dec × Int) (fun (t3, e3) => [(0, .pointer (some ⟨ga, 0, none⟩)), (1, .pointer (some ⟨5, 0, none⟩)), (4, .int .u64 0), (5, .bool false), (6, .int .i64 e3), (7, .int .u64 0)]) (fun (t3, e3) w' => Ext (Mut [(some ga)]) w17 w' ∧ Blk w' ga 125 (yz t3) ∧ (xe t = (if 1024 ≤ e3 then (0, 2047, true) else ykz (vc t3 53) e3) ∧ DecI t3 ∧ 0 < t3.nd ∧ (-11000000 ≤ t3.dp ∧ t3.dp ≤ 1000000) ∧ (-1022 ≤ e3 ∧ e3 ≤ 90000) ∧ t3.neg = t.neg)) ?_ ?_
        ·
         have M29 := erx (Mut [(some ga)]) w17;have XM29 := grx (Mut [(some ga)]) w17;refine zt rfl (fun h4 => ?_) (fun h4 => ?_)
         ·
          have h4 := of_decide_eq_true h4;have hSh : ShI ⟨s.t, (-1022 - (s.e - 1)).toNat⟩ := ⟨hL1.dec, hsp, by show 1 ≤ (-1022 - (s.e - 1)).toNat ∧ (-1022 - (s.e - 1)).toNat ≤ 300000; omega, by show -10000000 + 15 * (((-1022 - (s.e - 1)).toNat : Nat) : Int) ≤ s.t.dp ∧ s.t.dp ≤ 1000000; omega⟩;obtain ⟨hq1, hq2, hq3, hq4⟩ := shrD_keeps hSh
          have hq5 : (shrD s.t (-1022 - (s.e - 1)).toNat).neg = t.neg := by rw [shrD_neg hSh]; exact hng0
          have hfe : xe t = ykz (vc (shrD s.t (-1022 - (s.e - 1)).toNat) 53) (-1022) := by rw [hfb0]; unfold fbMid; rw [if_pos (by omega)]
          refine srx (mvx rfl (za rfl (zg rfl (za rfl (zb Tryd.underlying115 rfl sz3 (by decide) rfl (za rfl (yi Tryd.underlying3 rfl rfl (HF.on E).here.2 (za rfl (yh (z := (-1022)) rfl rfl (by kernel_rfl) (mvx rfl (za rfl (yx rfl rfl (zo (by omega)) (anx rfl (srx (mvx rfl (mvx rfl (za rfl (zmk rfl (zo (by omega)) (yc 121 (.int .i64 (-(((-1022 - (s.e - 1)).toNat : Nat) : Int))) rfl ((by congr 1; omega : (.int .i64 (0 - ((-1022) - (s.e - 1))) : Value) = _)) (za rfl (ya en78 rfl ((shiftR_any _ ga (-1022 - (s.e - 1)).toNat s.t hSh Ba).mono ?_))))))))))))))))))))))
          rintro e w31 ⟨rfl, hB, hE⟩;refine ⟨_, rfl, ?_⟩;replace Ba := hB;clear hB;replace E := E.step1 hE Mut.head;clear hE;refine rnx (zj (mvx rfl (mvx rfl (za rfl (yh rfl rfl (zo (by omega)) (avx rfl (yd (yr 6 (.int .i64 (-1022)) rfl ((by congr 1; omega : (.int .i64 ((s.e - 1) + ((-1022) - (s.e - 1))) : Value) = _)) ?_))))))))
          exact yq (shrD s.t (-1022 - (s.e - 1)).toNat, -1022) ⟨rfl, rfl, rfl, rfl, rfl, rfl, trivial⟩ ⟨M29.step E XM29, (by exact Ba), by rw [if_neg (by decide)]; exact hfe, hq1, hq2, ⟨hq3, hq4⟩, by decide, hq5⟩
         ·
          have h4 := of_decide_eq_false h4;have hfe : xe t = (if 1024 ≤ s.e - 1 then (0, 2047, true) else ykz (vc s.t 53) (s.e - 1)) := by rw [hfb0]; unfold fbMid; rw [if_neg (by omega)]
          refine zk ?_;exact yq (s.t, s.e - 1) ⟨rfl, rfl, rfl, rfl, rfl, rfl, trivial⟩ ⟨M29.step E XM29, (by exact Ba), hfe, hL1.dec, hsp, by omega, by omega, hng0⟩
        ·
         have LTa := (yj Ba.lt);clear Ba;rintro ⟨t3, e3⟩ w30 ⟨M29, Ba, ⟨hfb, ht3, hp3, hd3, he3, hn3⟩⟩;replace E := E.trans M29;replace HF := HF.on E;replace M1 := M1.step E XM1;replace M3 := M3.step E XM3;replace E := erx (Mut [(some ga)]) w30;have hl3 := ht3.len;refine zf (zf ?_);replace HF := HF.on E;replace M1 := M1.step E XM1;replace M3 := M3.step E XM3
         replace E := erx (Mut [(some ga)]) w30;refine qe (ι := Bool) (fun g => [(0, .pointer (some ⟨ga, 0, none⟩)), (1, .pointer (some ⟨5, 0, none⟩)), (4, .int .u64 0), (5, .bool false), (6, .int .i64 e3), (7, .int .u64 0), (138, .bool g)]) (fun g w' => Ext (Mut [(some ga)]) w30 w' ∧ Blk w' ga 125 (yz t3) ∧ (g = decide (1024 ≤ e3))) ?_ ?_
         ·
          have M32 := erx (Mut [(some ga)]) w30;have XM32 := grx (Mut [(some ga)]) w30;have OY : ∀ q9, (Mut (xw [])) q9 → q9 < (World.drew w30).heap.size → (Mut [(some ga)]) q9 := fun k h _ => (Mut.none_) k h;refine vt (Mut [(some ga)]) (Mut.grow Mut.none_ (yj Ba.lt)) [] [] (xy [Fx.of (.int .i64 e3),
           Fx.of (.pointer (some ⟨5, 0, none⟩)),
           Fx.of (.pointer (some ⟨5, 0, none⟩)),
           Fx.of (.pointer (some ⟨5, 2, none⟩)),
           Fx.of (.int .i64 (-1023)),
           Fx.of (.int .i64 (e3 - (-1023))),
           Fx.of (.pointer (some ⟨5, 0, none⟩)),
           Fx.of (.pointer (some ⟨5, 0, none⟩)),
           Fx.of (.pointer (some ⟨5, 1, none⟩)),
           Fx.of (.int .u64 11),
           Fx.of (.int .i64 2048),
           Fx.of (.int .i64 2047),
           Fx.of (.bool (decide (1024 ≤ e3)))]) mixed rfl trivial (fun _ h => by cases h) ?_ ?_
          · refine ⟨?_, ?_, ?_, ?_, ?_, ?_, ?_, ?_, ?_, ?_, ?_, ?_, ?_, trivial⟩
            · intro vs X wq K;exact zn rfl ⟨Below.refl _ _, Left.of rfl⟩
            · intro vs X wq K;exact zn rfl ⟨Below.refl _ _, Left.of rfl⟩
            · intro vs X wq K;obtain ⟨_, e1, k1⟩ := K.dep 1 rfl rfl rfl;refine zi 127 (.pointer (some ⟨5, 0, none⟩)) rfl e1 ?_;exact zg rfl ⟨Below.refl _ _, Left.of rfl⟩
            · intro vs X wq K;obtain ⟨_, e2, k2⟩ := K.dep 2 rfl rfl rfl;refine zi 128 (.pointer (some ⟨5, 0, none⟩)) rfl e2 ?_;exact zb Tryd.underlying115 rfl sz3 (by decide) rfl ⟨Below.refl _ _, Left.of rfl⟩
            · intro vs X wq K;have LE := K.1;obtain ⟨_, e3, k3⟩ := K.dep 3 rfl rfl rfl;refine zi 129 (.pointer (some ⟨5, 2, none⟩)) rfl e3 ?_;exact yi Tryd.underlying3 rfl rfl (HF.on (E.drew.trans (LE.mono OY))).here.2 ⟨Below.refl _ _, Left.of rfl⟩
            · intro vs X wq K;obtain ⟨_, e0, k0⟩ := K.dep 0 rfl rfl rfl;refine zi 126 (.int .i64 e3) rfl e0 ?_;obtain ⟨_, e4, k4⟩ := K.dep 4 rfl rfl rfl;refine zi 130 (.int .i64 (-1023)) rfl e4 ?_;exact yx rfl rfl (zo (by omega)) ⟨Below.refl _ _, Left.of rfl⟩
            · intro vs X wq K;exact zn rfl ⟨Below.refl _ _, Left.of rfl⟩
            · intro vs X wq K;obtain ⟨_, e6, k6⟩ := K.dep 6 rfl rfl rfl;refine zi 132 (.pointer (some ⟨5, 0, none⟩)) rfl e6 ?_;exact zg rfl ⟨Below.refl _ _, Left.of rfl⟩
            · intro vs X wq K;obtain ⟨_, e7, k7⟩ := K.dep 7 rfl rfl rfl;refine zi 133 (.pointer (some ⟨5, 0, none⟩)) rfl e7 ?_;exact zb Tryd.underlying115 rfl zlx (by decide) rfl ⟨Below.refl _ _, Left.of rfl⟩
            · intro vs X wq K;have LE := K.1;obtain ⟨_, e8, k8⟩ := K.dep 8 rfl rfl rfl;refine zi 134 (.pointer (some ⟨5, 1, none⟩)) rfl e8 ?_;exact yi Tryd.underlying88 rfl rfl (HF.on (E.drew.trans (LE.mono OY))).here.1.2 ⟨Below.refl _ _, Left.of rfl⟩
            · intro vs X wq K;obtain ⟨_, e9, k9⟩ := K.dep 9 rfl rfl rfl;refine zi 135 (.int .u64 11) rfl e9 ?_;exact je (z := 2048) rfl rfl (by decide) (by kernel_rfl) ⟨Below.refl _ _, Left.of rfl⟩
            · intro vs X wq K;obtain ⟨_, e10, k10⟩ := K.dep 10 rfl rfl rfl;refine zi 136 (.int .i64 2048) rfl e10 ?_;exact yx (z := 2047) rfl rfl (by kernel_rfl) ⟨Below.refl _ _, Left.of rfl⟩
            · intro vs X wq K;obtain ⟨_, e5, k5⟩ := K.dep 5 rfl rfl rfl;refine zi 131 (.int .i64 (e3 - (-1023))) rfl e5 ?_;obtain ⟨_, e11, k11⟩ := K.dep 11 rfl rfl rfl;refine zi 137 (.int .i64 2047) rfl e11 ?_;exact vk rfl rfl ⟨Below.refl _ _, Left.of (ke (by omega))⟩
          intro vs w34 LE AO AL AF AA;have LBa := Ba;replace Ba := Ba.drew.extN LE NotIn.nil;replace E := E.drew.trans (LE.mono OY);obtain ⟨_, e12, k12⟩ := AL.2.2.2.2.2.2.2.2.2.2.2.2.1;refine ja (τ := [(0, _), (1, _), (4, _), (5, _), (6, _), (7, _), (138, .bool (decide (1024 ≤ e3)))]) ⟨rfl, rfl, rfl, rfl, rfl, rfl, congrArg some e12, trivial⟩ ?_;clear AL AF AA LE AO OY e12 k12 LBa
          exact yq (decide (1024 ≤ e3)) ⟨rfl, rfl, rfl, rfl, rfl, rfl, rfl, trivial⟩ ⟨M32.step E XM32, (by exact Ba), rfl⟩
         ·
          have LTa := (yj Ba.lt);clear Ba;rintro g w33 ⟨M32, Ba, hgg⟩;replace E := E.trans M32;replace HF := HF.on E;replace M1 := M1.step E XM1;replace M3 := M3.step E XM3;replace E := erx (Mut [(some ga)]) w33;refine zt rfl (fun h4 => ?_) (fun h4 => ?_)
          ·
           rw [hgg] at h4;have h4 := of_decide_eq_true h4;rw [if_pos h4] at hfb;refine zdk (jm ?_);exact zdq rfl TLM3 t3 ⟨rfl, rfl, trivial⟩ ⟨M3.step E XM3, (by exact Ba), hfb, hl3, hn3⟩
          ·
           rw [hgg] at h4;have h4 := of_decide_eq_false h4;rw [if_neg h4] at hfb;obtain ⟨hq1, hq2, hq3, hq4, _, hq5⟩ := ziz ht3 hp3 (.inr (.inr (.inr (.inr (.inr (.inr (.inr (.inr (.inr (.inr rfl))))))))) : Shl 53);have hl5 := hq1.len;have hn5 : (vc t3 53).neg = t.neg := hq5.trans hn3;obtain ⟨M, hM⟩ : ∃ M, M = kr (vc t3 53) := ⟨_, rfl⟩
           have hM64 : M < 18446744073709551616 := by rw [hM]; exact roundD_lt _
           unfold ykz at hfb;rw [← hM] at hfb
           refine zk (ze (srx (mvx rfl (mvx rfl (za rfl (zg rfl (za rfl (zb Tryd.underlying115 rfl zlx (by decide) rfl (za rfl (yi Tryd.underlying88 rfl rfl (HF.on E).here.1.1.2 (za rfl (yh (z := 53) rfl rfl (by kernel_rfl) (za rfl (vd (z := 53) Tryd.underlying3 Tryd.underlying88 rfl (by kernel_rfl) (za rfl (ya en78 rfl ((shiftL_any _ ga 53 t3 (.inr (.inr (.inr (.inr (.inr (.inr (.inr (.inr (.inr (.inr rfl)))))))))) ht3 hp3 (by omega) Ba (HF.on E).here.1.1.1.2 hg).mono ?_)))))))))))))))))
           rintro e w35 ⟨rfl, hB, hE⟩;refine ⟨_, rfl, ?_⟩;replace Ba := hB;clear hB;replace E := E.step1 hE Mut.head;clear hE;refine rnx (srx (mvx rfl (za rfl (ya en79 rfl ((rinteger_any _ ga (vc t3 53) hq1 (by omega) Ba).mono ?_)))));rintro e w36 ⟨rfl, hb⟩;refine ⟨_, rfl, ?_⟩;have Ec := Ext.of_below hb No;replace Ba := Ba.extN Ec NotIn.nil;replace E := E.trans Ec.no
           refine yc 148 (.int .u64 ((M : Nat) : Int)) rfl ((by rw [hM] : (.int .u64 ((kr (vc t3 53) : Nat) : Int) : Value) = _)) (anx rfl (zf (srx (mvx rfl (mvx rfl (za rfl (zg rfl (za rfl (zb Tryd.underlying115 rfl zlx (by decide) rfl (za rfl (yi Tryd.underlying88 rfl rfl (HF.on E).here.1.1.2 (za rfl (je (z := 9007199254740992) rfl rfl (by decide) (by kernel_rfl) (za rfl (ye rfl rfl (rnx (zt rfl (fun h5 => ?_) (fun h5 => ?_))))))))))))))))))
           ·
            have h5 : M = 9007199254740992 := by have h5 := eq_of_beq h5; omega
            rw [if_pos h5] at hfb;refine zv 7 (.int .u64 9007199254740992) rfl ((by rw [h5]; rfl : (.int .u64 ((M : Nat) : Int) : Value) = _)) (srx (mvx rfl (za rfl (km (z := 4503599627370496) rfl rfl (by decide) (by kernel_rfl) (anx rfl (srx (mvx rfl (za rfl (yh rfl rfl (zo (by omega)) (anx rfl (zf ?_)))))))))));replace HF := HF.on E
            replace M1 := M1.step E XM1;replace M3 := M3.step E XM3;replace E := erx (Mut [(some ga)]) w36
            refine qe (ι := Bool) (fun g => [(0, .pointer (some ⟨ga, 0, none⟩)), (1, .pointer (some ⟨5, 0, none⟩)), (4, .int .u64 0), (5, .bool false), (6, .int .i64 (e3 + 1)), (7, .int .u64 4503599627370496), (172, .bool g)]) (fun g w' => Ext (Mut [(some ga)]) w36 w' ∧ Blk w' ga 125 (yz (vc t3 53)) ∧ (g = decide (1023 ≤ e3))) ?_ ?_
            ·
             have M37 := erx (Mut [(some ga)]) w36;have XM37 := grx (Mut [(some ga)]) w36;have OY : ∀ q9, (Mut (xw [])) q9 → q9 < (World.drew w36).heap.size → (Mut [(some ga)]) q9 := fun k h _ => (Mut.none_) k h;refine vt (Mut [(some ga)]) (Mut.grow Mut.none_ (yj Ba.lt)) [] [] (xy [Fx.of (.int .i64 (e3 + 1)),
              Fx.of (.pointer (some ⟨5, 0, none⟩)),
              Fx.of (.pointer (some ⟨5, 0, none⟩)),
              Fx.of (.pointer (some ⟨5, 2, none⟩)),
              Fx.of (.int .i64 (-1023)),
              Fx.of (.int .i64 ((e3 + 1) - (-1023))),
              Fx.of (.pointer (some ⟨5, 0, none⟩)),
              Fx.of (.pointer (some ⟨5, 0, none⟩)),
              Fx.of (.pointer (some ⟨5, 1, none⟩)),
              Fx.of (.int .u64 11),
              Fx.of (.int .i64 2048),
              Fx.of (.int .i64 2047),
              Fx.of (.bool (decide (1023 ≤ e3)))]) mixed rfl trivial (fun _ h => by cases h) ?_ ?_
             · refine ⟨?_, ?_, ?_, ?_, ?_, ?_, ?_, ?_, ?_, ?_, ?_, ?_, ?_, trivial⟩
               · intro vs X wq K;exact zn rfl ⟨Below.refl _ _, Left.of rfl⟩
               · intro vs X wq K;exact zn rfl ⟨Below.refl _ _, Left.of rfl⟩
               · intro vs X wq K;obtain ⟨_, e1, k1⟩ := K.dep 1 rfl rfl rfl;refine zi 161 (.pointer (some ⟨5, 0, none⟩)) rfl e1 ?_;exact zg rfl ⟨Below.refl _ _, Left.of rfl⟩
               · intro vs X wq K;obtain ⟨_, e2, k2⟩ := K.dep 2 rfl rfl rfl;refine zi 162 (.pointer (some ⟨5, 0, none⟩)) rfl e2 ?_;exact zb Tryd.underlying115 rfl sz3 (by decide) rfl ⟨Below.refl _ _, Left.of rfl⟩
               · intro vs X wq K;have LE := K.1;obtain ⟨_, e3, k3⟩ := K.dep 3 rfl rfl rfl;refine zi 163 (.pointer (some ⟨5, 2, none⟩)) rfl e3 ?_;exact yi Tryd.underlying3 rfl rfl (HF.on (E.drew.trans (LE.mono OY))).here.2 ⟨Below.refl _ _, Left.of rfl⟩
               · intro vs X wq K;obtain ⟨_, e0, k0⟩ := K.dep 0 rfl rfl rfl;refine zi 160 (.int .i64 (e3 + 1)) rfl e0 ?_;obtain ⟨_, e4, k4⟩ := K.dep 4 rfl rfl rfl;refine zi 164 (.int .i64 (-1023)) rfl e4 ?_;exact yx rfl rfl (zo (by omega)) ⟨Below.refl _ _, Left.of rfl⟩
               · intro vs X wq K;exact zn rfl ⟨Below.refl _ _, Left.of rfl⟩
               · intro vs X wq K;obtain ⟨_, e6, k6⟩ := K.dep 6 rfl rfl rfl;refine zi 166 (.pointer (some ⟨5, 0, none⟩)) rfl e6 ?_;exact zg rfl ⟨Below.refl _ _, Left.of rfl⟩
               · intro vs X wq K;obtain ⟨_, e7, k7⟩ := K.dep 7 rfl rfl rfl;refine zi 167 (.pointer (some ⟨5, 0, none⟩)) rfl e7 ?_;exact zb Tryd.underlying115 rfl zlx (by decide) rfl ⟨Below.refl _ _, Left.of rfl⟩
               · intro vs X wq K;have LE := K.1;obtain ⟨_, e8, k8⟩ := K.dep 8 rfl rfl rfl;refine zi 168 (.pointer (some ⟨5, 1, none⟩)) rfl e8 ?_;exact yi Tryd.underlying88 rfl rfl (HF.on (E.drew.trans (LE.mono OY))).here.1.2 ⟨Below.refl _ _, Left.of rfl⟩
               · intro vs X wq K;obtain ⟨_, e9, k9⟩ := K.dep 9 rfl rfl rfl;refine zi 169 (.int .u64 11) rfl e9 ?_;exact je (z := 2048) rfl rfl (by decide) (by kernel_rfl) ⟨Below.refl _ _, Left.of rfl⟩
               · intro vs X wq K;obtain ⟨_, e10, k10⟩ := K.dep 10 rfl rfl rfl;refine zi 170 (.int .i64 2048) rfl e10 ?_;exact yx (z := 2047) rfl rfl (by kernel_rfl) ⟨Below.refl _ _, Left.of rfl⟩
               · intro vs X wq K;obtain ⟨_, e5, k5⟩ := K.dep 5 rfl rfl rfl;refine zi 165 (.int .i64 ((e3 + 1) - (-1023))) rfl e5 ?_;obtain ⟨_, e11, k11⟩ := K.dep 11 rfl rfl rfl;refine zi 171 (.int .i64 2047) rfl e11 ?_;exact vk rfl rfl ⟨Below.refl _ _, Left.of (ke (by omega))⟩
             intro vs w39 LE AO AL AF AA;have LBa := Ba;replace Ba := Ba.drew.extN LE NotIn.nil;replace E := E.drew.trans (LE.mono OY);obtain ⟨_, e12, k12⟩ := AL.2.2.2.2.2.2.2.2.2.2.2.2.1;refine ja (τ := [(0, _), (1, _), (4, _), (5, _), (6, _), (7, _), (172, .bool (decide (1023 ≤ e3)))]) ⟨rfl, rfl, rfl, rfl, rfl, rfl, congrArg some e12, trivial⟩ ?_
             clear AL AF AA LE AO OY e12 k12 LBa;exact yq (decide (1023 ≤ e3)) ⟨rfl, rfl, rfl, rfl, rfl, rfl, rfl, trivial⟩ ⟨M37.step E XM37, (by exact Ba), rfl⟩
            ·
             have LTa := (yj Ba.lt);clear Ba;rintro g w38 ⟨M37, Ba, hg3⟩;replace E := E.trans M37;replace HF := HF.on E;replace M1 := M1.step E XM1;replace M3 := M3.step E XM3;replace E := erx (Mut [(some ga)]) w38;refine zt rfl (fun h6 => ?_) (fun h6 => ?_)
             ·
              rw [hg3] at h6;have h6 := of_decide_eq_true h6;rw [if_pos h6] at hfb;refine zdk (jm ?_);exact zdq rfl TLM3 (vc t3 53) ⟨rfl, rfl, trivial⟩ ⟨M3.step E XM3, (by exact Ba), hfb, hl5, hn5⟩
             ·
              rw [hg3] at h6;have h6 := of_decide_eq_false h6;rw [if_neg h6] at hfb;obtain ⟨Kx, hK⟩ : ∃ Kx, Kx = (e3 + 1 + 1023).toNat := ⟨_, rfl⟩;rw [← hK] at hfb
              refine zk (ze (zf (zf (zv 7 (.int .u64 ((4503599627370496 : Nat) : Int)) rfl (rfl) (zj (mvx rfl (mvx rfl (za rfl (zg rfl (za rfl (zb Tryd.underlying115 rfl zlx (by decide) rfl (za rfl (yi Tryd.underlying88 rfl rfl (HF.on E).here.1.1.2 (za rfl (je (z := 4503599627370496) rfl rfl (by decide) (by kernel_rfl) (za rfl (qx rfl rfl (and_hi (m := 4503599627370496) (by decide)) (za rfl (ye rfl rfl (rnx (zv 180 (.bool false) rfl ((by rw [vx (by decide +kernel)] : (.bool (((4503599627370496 &&& 4503599627370496 : Nat) : Int) == 0) : Value) = _)) (zx rfl (zk (ze (zf (zdk (jm (yr 6 (.int .i64 (((Kx : Nat) : Int) - 1023)) rfl ((by congr 1; omega : (.int .i64 (e3 + 1) : Value) = _)) ?_))))))))))))))))))))))))))))
              exact zdq rfl TLM1 (4503599627370496, Kx, false, vc t3 53) ⟨rfl, rfl, rfl, rfl, rfl, trivial⟩ ⟨M1.step E XM1, (by exact Ba), hfb, by decide, by omega, hl5, hn5⟩
           ·
            have h5 : ¬ M = 9007199254740992 := fun e => absurd h5 (by rw [e]; decide);rw [if_neg h5] at hfb
            refine zk (ze (zf (srx (mvx rfl (mvx rfl (za rfl (zg rfl (za rfl (zb Tryd.underlying115 rfl zlx (by decide) rfl (za rfl (yi Tryd.underlying88 rfl rfl (HF.on E).here.1.1.2 (za rfl (je (z := 4503599627370496) rfl rfl (by decide) (by kernel_rfl) (za rfl (qx rfl rfl (and_hi hM64) (za rfl (ye rfl rfl (rnx (zt rfl (fun h6 => ?_) (fun h6 => ?_))))))))))))))))))))
            ·
             have h6 : M &&& 4503599627370496 = 0 := by have h6 := eq_of_beq h6; omega
             rw [if_pos h6] at hfb;obtain ⟨Kx, hK⟩ : ∃ Kx : Nat, Kx = 0 := ⟨_, rfl⟩;rw [← hK] at hfb
             refine zj (mvx rfl (za rfl (zg rfl (za rfl (zb Tryd.underlying115 rfl sz3 (by decide) rfl (za rfl (yi Tryd.underlying3 rfl rfl (HF.on E).here.2 (anx rfl (zf (zdk (jm (yr 6 (.int .i64 (((Kx : Nat) : Int) - 1023)) rfl ((by rw [hK]; rfl : (.int .i64 (-1023) : Value) = _)) ?_))))))))))))
             exact zdq rfl TLM1 (M, Kx, false, vc t3 53) ⟨rfl, rfl, rfl, rfl, rfl, trivial⟩ ⟨M1.step E XM1, (by exact Ba), hfb, hM64, by omega, hl5, hn5⟩
            ·
             have h6 : ¬ M &&& 4503599627370496 = 0 := fun e => absurd h6 (by rw [e]; decide);rw [if_neg h6] at hfb;obtain ⟨Kx, hK⟩ : ∃ Kx, Kx = (e3 + 1023).toNat := ⟨_, rfl⟩;rw [← hK] at hfb;refine zk (ze (zf (zdk (jm (yr 6 (.int .i64 (((Kx : Nat) : Int) - 1023)) rfl ((by congr 1; omega : (.int .i64 e3 : Value) = _)) ?_)))))
             exact zdq rfl TLM1 (M, Kx, false, vc t3 53) ⟨rfl, rfl, rfl, rfl, rfl, trivial⟩ ⟨M1.step E XM1, (by exact Ba), hfb, hM64, by omega, hl5, hn5⟩
  ·
   have LTa := (yj Ba.lt);clear Ba;rintro u w4 ⟨M3, Ba, ⟨hfb, hl5, hn5⟩⟩;replace E := E.trans M3;replace HF := HF.on E;replace LW := LW.step E XLW;replace E := erx (Mut [(some ga)]) w4;refine zf (zk (ze (srx (anx rfl (zf ?_)))));have OY : ∀ q9, (Mut (xw [])) q9 → q9 < (World.drew w4).heap.size → (Mut [(some ga)]) q9 := fun k h _ => (Mut.none_) k h
   refine vt (Mut [(some ga)]) (Mut.grow Mut.none_ (yj Ba.lt)) [] [] (xy [Fx.of (.pointer (some ⟨5, 0, none⟩)),
    Fx.of (.pointer (some ⟨5, 0, none⟩)),
    Fx.of (.pointer (some ⟨5, 1, none⟩)),
    Fx.of (.int .u64 11),
    Fx.of (.int .i64 2048),
    Fx.of (.int .i64 2047),
    Fx.of (.pointer (some ⟨5, 0, none⟩)),
    Fx.of (.pointer (some ⟨5, 0, none⟩)),
    Fx.of (.pointer (some ⟨5, 2, none⟩)),
    Fx.of (.int .i64 (-1023)),
    Fx.of (.int .i64 1024),
    Fx.of (.int .i64 1024)]) mixed rfl trivial (fun _ h => by cases h) ?_ ?_
   · refine ⟨?_, ?_, ?_, ?_, ?_, ?_, ?_, ?_, ?_, ?_, ?_, ?_, trivial⟩
     · intro vs X wq K;exact zn rfl ⟨Below.refl _ _, Left.of rfl⟩
     · intro vs X wq K;obtain ⟨_, e0, k0⟩ := K.dep 0 rfl rfl rfl;refine zi 185 (.pointer (some ⟨5, 0, none⟩)) rfl e0 ?_;exact zg rfl ⟨Below.refl _ _, Left.of rfl⟩
     · intro vs X wq K;obtain ⟨_, e1, k1⟩ := K.dep 1 rfl rfl rfl;refine zi 186 (.pointer (some ⟨5, 0, none⟩)) rfl e1 ?_;exact zb Tryd.underlying115 rfl zlx (by decide) rfl ⟨Below.refl _ _, Left.of rfl⟩
     · intro vs X wq K;have LE := K.1;obtain ⟨_, e2, k2⟩ := K.dep 2 rfl rfl rfl;refine zi 187 (.pointer (some ⟨5, 1, none⟩)) rfl e2 ?_;exact yi Tryd.underlying88 rfl rfl (HF.on (E.drew.trans (LE.mono OY))).here.1.2 ⟨Below.refl _ _, Left.of rfl⟩
     · intro vs X wq K;obtain ⟨_, e3, k3⟩ := K.dep 3 rfl rfl rfl;refine zi 188 (.int .u64 11) rfl e3 ?_;exact je (z := 2048) rfl rfl (by decide) (by kernel_rfl) ⟨Below.refl _ _, Left.of rfl⟩
     · intro vs X wq K;obtain ⟨_, e4, k4⟩ := K.dep 4 rfl rfl rfl;refine zi 189 (.int .i64 2048) rfl e4 ?_;exact yx (z := 2047) rfl rfl (by kernel_rfl) ⟨Below.refl _ _, Left.of rfl⟩
     · intro vs X wq K;exact zn rfl ⟨Below.refl _ _, Left.of rfl⟩
     · intro vs X wq K;obtain ⟨_, e6, k6⟩ := K.dep 6 rfl rfl rfl;refine zi 191 (.pointer (some ⟨5, 0, none⟩)) rfl e6 ?_;exact zg rfl ⟨Below.refl _ _, Left.of rfl⟩
     · intro vs X wq K;obtain ⟨_, e7, k7⟩ := K.dep 7 rfl rfl rfl;refine zi 192 (.pointer (some ⟨5, 0, none⟩)) rfl e7 ?_;exact zb Tryd.underlying115 rfl sz3 (by decide) rfl ⟨Below.refl _ _, Left.of rfl⟩
     · intro vs X wq K;have LE := K.1;obtain ⟨_, e8, k8⟩ := K.dep 8 rfl rfl rfl;refine zi 193 (.pointer (some ⟨5, 2, none⟩)) rfl e8 ?_;exact yi Tryd.underlying3 rfl rfl (HF.on (E.drew.trans (LE.mono OY))).here.2 ⟨Below.refl _ _, Left.of rfl⟩
     · intro vs X wq K;obtain ⟨_, e5, k5⟩ := K.dep 5 rfl rfl rfl;refine zi 190 (.int .i64 2047) rfl e5 ?_;obtain ⟨_, e9, k9⟩ := K.dep 9 rfl rfl rfl;refine zi 194 (.int .i64 (-1023)) rfl e9 ?_;exact yh (z := 1024) rfl rfl (by kernel_rfl) ⟨Below.refl _ _, Left.of rfl⟩
     · intro vs X wq K;obtain ⟨_, e10, k10⟩ := K.dep 10 rfl rfl rfl;refine zi 195 (.int .i64 1024) rfl e10 ?_;exact js rfl ⟨Below.refl _ _, Left.of rfl⟩
   intro vs w40 LE AO AL AF AA;have LBa := Ba;replace Ba := Ba.drew.extN LE NotIn.nil;replace E := E.drew.trans (LE.mono OY);obtain ⟨_, e11, k11⟩ := AL.2.2.2.2.2.2.2.2.2.2.2.1;refine ja (τ := [(0, _), (1, _), (6, .int .i64 1024), (7, _)]) ⟨rfl, rfl, congrArg some e11, rfl, trivial⟩ ?_;clear AL AF AA LE AO OY e11 k11 LBa
   refine ze (srx (anx rfl (zf (cw_label (ze (srx (mvx rfl (mvx rfl (za rfl (zg rfl (za rfl (zb Tryd.underlying115 rfl zlx (by decide) rfl (za rfl (yi Tryd.underlying88 rfl rfl (HF.on E).here.1.1.2 (za rfl (je (z := 4503599627370496) rfl rfl (by decide) (by kernel_rfl) (za rfl (yx (z := 4503599627370495) rfl rfl (by kernel_rfl) (za rfl (qx (z := 0) rfl rfl (by kernel_rfl) (anx rfl (zf ?_))))))))))))))))))))))
   have OY : ∀ q9, (Mut (xw [])) q9 → q9 < (World.drew w40).heap.size → (Mut [(some ga)]) q9 := fun k h _ => (Mut.none_) k h;refine vt (Mut [(some ga)]) (Mut.grow Mut.none_ (yj Ba.lt)) [] [] (xy [Fx.of (.int .u64 0),
    Fx.of (.int .i64 1024),
    Fx.of (.pointer (some ⟨5, 0, none⟩)),
    Fx.of (.pointer (some ⟨5, 0, none⟩)),
    Fx.of (.pointer (some ⟨5, 2, none⟩)),
    Fx.of (.int .i64 (-1023)),
    Fx.of (.int .i64 2047),
    Fx.of (.pointer (some ⟨5, 0, none⟩)),
    Fx.of (.pointer (some ⟨5, 0, none⟩)),
    Fx.of (.pointer (some ⟨5, 1, none⟩)),
    Fx.of (.int .u64 11),
    Fx.of (.int .i64 2048),
    Fx.of (.int .i64 2047),
    Fx.of (.int .i64 2047),
    Fx.of (.int .u64 2047),
    Fx.of (.pointer (some ⟨5, 0, none⟩)),
    Fx.of (.pointer (some ⟨5, 0, none⟩)),
    Fx.of (.pointer (some ⟨5, 0, none⟩)),
    Fx.of (.int .u64 52),
    Fx.of (.int .u64 9218868437227405312),
    Fx.of (.int .u64 9218868437227405312),
    Fx.of (.int .u64 9218868437227405312)]) mixed rfl trivial (fun _ h => by cases h) ?_ ?_
   · refine ⟨?_, ?_, ?_, ?_, ?_, ?_, ?_, ?_, ?_, ?_, ?_, ?_, ?_, ?_, ?_, ?_, ?_, ?_, ?_, ?_, ?_, ?_, trivial⟩
     · intro vs X wq K;exact zn rfl ⟨Below.refl _ _, Left.of rfl⟩
     · intro vs X wq K;exact zn rfl ⟨Below.refl _ _, Left.of rfl⟩
     · intro vs X wq K;exact zn rfl ⟨Below.refl _ _, Left.of rfl⟩
     · intro vs X wq K;obtain ⟨_, e2, k2⟩ := K.dep 2 rfl rfl rfl;refine zi 206 (.pointer (some ⟨5, 0, none⟩)) rfl e2 ?_;exact zg rfl ⟨Below.refl _ _, Left.of rfl⟩
     · intro vs X wq K;obtain ⟨_, e3, k3⟩ := K.dep 3 rfl rfl rfl;refine zi 207 (.pointer (some ⟨5, 0, none⟩)) rfl e3 ?_;exact zb Tryd.underlying115 rfl sz3 (by decide) rfl ⟨Below.refl _ _, Left.of rfl⟩
     · intro vs X wq K;have LE := K.1;obtain ⟨_, e4, k4⟩ := K.dep 4 rfl rfl rfl;refine zi 208 (.pointer (some ⟨5, 2, none⟩)) rfl e4 ?_;exact yi Tryd.underlying3 rfl rfl (HF.on (E.drew.trans (LE.mono OY))).here.2 ⟨Below.refl _ _, Left.of rfl⟩
     · intro vs X wq K;obtain ⟨_, e1, k1⟩ := K.dep 1 rfl rfl rfl;refine zi 205 (.int .i64 1024) rfl e1 ?_;obtain ⟨_, e5, k5⟩ := K.dep 5 rfl rfl rfl;refine zi 209 (.int .i64 (-1023)) rfl e5 ?_;exact yx (z := 2047) rfl rfl (by kernel_rfl) ⟨Below.refl _ _, Left.of rfl⟩
     · intro vs X wq K;exact zn rfl ⟨Below.refl _ _, Left.of rfl⟩
     · intro vs X wq K;obtain ⟨_, e7, k7⟩ := K.dep 7 rfl rfl rfl;refine zi 211 (.pointer (some ⟨5, 0, none⟩)) rfl e7 ?_;exact zg rfl ⟨Below.refl _ _, Left.of rfl⟩
     · intro vs X wq K;obtain ⟨_, e8, k8⟩ := K.dep 8 rfl rfl rfl;refine zi 212 (.pointer (some ⟨5, 0, none⟩)) rfl e8 ?_;exact zb Tryd.underlying115 rfl zlx (by decide) rfl ⟨Below.refl _ _, Left.of rfl⟩
     · intro vs X wq K;have LE := K.1;obtain ⟨_, e9, k9⟩ := K.dep 9 rfl rfl rfl;refine zi 213 (.pointer (some ⟨5, 1, none⟩)) rfl e9 ?_;exact yi Tryd.underlying88 rfl rfl (HF.on (E.drew.trans (LE.mono OY))).here.1.2 ⟨Below.refl _ _, Left.of rfl⟩
     · intro vs X wq K;obtain ⟨_, e10, k10⟩ := K.dep 10 rfl rfl rfl;refine zi 214 (.int .u64 11) rfl e10 ?_;exact je (z := 2048) rfl rfl (by decide) (by kernel_rfl) ⟨Below.refl _ _, Left.of rfl⟩
     · intro vs X wq K;obtain ⟨_, e11, k11⟩ := K.dep 11 rfl rfl rfl;refine zi 215 (.int .i64 2048) rfl e11 ?_;exact yx (z := 2047) rfl rfl (by kernel_rfl) ⟨Below.refl _ _, Left.of rfl⟩
     · intro vs X wq K;obtain ⟨_, e6, k6⟩ := K.dep 6 rfl rfl rfl;refine zi 210 (.int .i64 2047) rfl e6 ?_;obtain ⟨_, e12, k12⟩ := K.dep 12 rfl rfl rfl;refine zi 216 (.int .i64 2047) rfl e12 ?_;exact qx (z := 2047) rfl rfl (by kernel_rfl) ⟨Below.refl _ _, Left.of rfl⟩
     · intro vs X wq K;obtain ⟨_, e13, k13⟩ := K.dep 13 rfl rfl rfl;refine zi 217 (.int .i64 2047) rfl e13 ?_;exact vd (z := 2047) Tryd.underlying30 Tryd.underlying3 rfl (by kernel_rfl) ⟨Below.refl _ _, Left.of rfl⟩
     · intro vs X wq K;exact zn rfl ⟨Below.refl _ _, Left.of rfl⟩
     · intro vs X wq K;obtain ⟨_, e15, k15⟩ := K.dep 15 rfl rfl rfl;refine zi 219 (.pointer (some ⟨5, 0, none⟩)) rfl e15 ?_;exact zg rfl ⟨Below.refl _ _, Left.of rfl⟩
     · intro vs X wq K;obtain ⟨_, e16, k16⟩ := K.dep 16 rfl rfl rfl;refine zi 220 (.pointer (some ⟨5, 0, none⟩)) rfl e16 ?_;exact zb Tryd.underlying115 rfl zlx (by decide) rfl ⟨Below.refl _ _, Left.of rfl⟩
     · intro vs X wq K;have LE := K.1;obtain ⟨_, e17, k17⟩ := K.dep 17 rfl rfl rfl;refine zi 221 (.pointer (some ⟨5, 0, none⟩)) rfl e17 ?_;exact yi Tryd.underlying88 rfl rfl (HF.on (E.drew.trans (LE.mono OY))).here.1.1.2 ⟨Below.refl _ _, Left.of rfl⟩
     · intro vs X wq K;obtain ⟨_, e14, k14⟩ := K.dep 14 rfl rfl rfl;refine zi 218 (.int .u64 2047) rfl e14 ?_;obtain ⟨_, e18, k18⟩ := K.dep 18 rfl rfl rfl;refine zi 222 (.int .u64 52) rfl e18 ?_;exact je (z := 9218868437227405312) rfl rfl (by decide) (by kernel_rfl) ⟨Below.refl _ _, Left.of rfl⟩
     · intro vs X wq K;obtain ⟨_, e0, k0⟩ := K.dep 0 rfl rfl rfl;refine zi 204 (.int .u64 0) rfl e0 ?_;obtain ⟨_, e19, k19⟩ := K.dep 19 rfl rfl rfl;refine zi 223 (.int .u64 9218868437227405312) rfl e19 ?_;exact xd (z := 9218868437227405312) rfl rfl (by kernel_rfl) ⟨Below.refl _ _, Left.of rfl⟩
     · intro vs X wq K;obtain ⟨_, e20, k20⟩ := K.dep 20 rfl rfl rfl;refine zi 224 (.int .u64 9218868437227405312) rfl e20 ?_;exact js rfl ⟨Below.refl _ _, Left.of rfl⟩
   intro vs w41 LE AO AL AF AA;have LBa := Ba;replace Ba := Ba.drew.extN LE NotIn.nil;replace E := E.drew.trans (LE.mono OY);obtain ⟨_, e21, k21⟩ := AL.2.2.2.2.2.2.2.2.2.2.2.2.2.2.2.2.2.2.2.2.2.1;refine ja (τ := [(0, _), (1, _), (5, _), (11, .int .u64 9218868437227405312)]) ⟨rfl, rfl, rfl, congrArg some e21, trivial⟩ ?_;clear AL AF AA LE AO OY e21 k21 LBa
   refine ze (zf (srx (mvx rfl (za rfl (zg rfl (za rfl (zb Tryd.underlying125 rfl sz4 (by decide) rfl (za rfl (zl Tryd.underlying4 rfl rfl Ba (ngAt hl5 t.neg hn5) (rnx (zt rfl (fun hng => ?_) (fun hng => ?_))))))))))))
   ·
    have OY : ∀ q9, (Mut (xw [])) q9 → q9 < (World.drew w41).heap.size → (Mut [(some ga)]) q9 := fun k h _ => (Mut.none_) k h;refine vt (Mut [(some ga)]) (Mut.grow Mut.none_ (yj Ba.lt)) [] [] (xy [Fx.of (.int .u64 9218868437227405312),
     Fx.of (.pointer (some ⟨5, 0, none⟩)),
     Fx.of (.pointer (some ⟨5, 0, none⟩)),
     Fx.of (.pointer (some ⟨5, 0, none⟩)),
     Fx.of (.int .u64 52),
     Fx.of (.int .u64 4503599627370496),
     Fx.of (.pointer (some ⟨5, 0, none⟩)),
     Fx.of (.pointer (some ⟨5, 0, none⟩)),
     Fx.of (.pointer (some ⟨5, 1, none⟩)),
     Fx.of (.int .u64 11),
     Fx.of (.int .u64 9223372036854775808),
     Fx.of (.int .u64 18442240474082181120),
     Fx.of (.int .u64 18442240474082181120)]) mixed rfl trivial (fun _ h => by cases h) ?_ ?_
    · refine ⟨?_, ?_, ?_, ?_, ?_, ?_, ?_, ?_, ?_, ?_, ?_, ?_, ?_, trivial⟩
      · intro vs X wq K;exact zn rfl ⟨Below.refl _ _, Left.of rfl⟩
      · intro vs X wq K;exact zn rfl ⟨Below.refl _ _, Left.of rfl⟩
      · intro vs X wq K;obtain ⟨_, e1, k1⟩ := K.dep 1 rfl rfl rfl;refine zi 230 (.pointer (some ⟨5, 0, none⟩)) rfl e1 ?_;exact zg rfl ⟨Below.refl _ _, Left.of rfl⟩
      · intro vs X wq K;obtain ⟨_, e2, k2⟩ := K.dep 2 rfl rfl rfl;refine zi 231 (.pointer (some ⟨5, 0, none⟩)) rfl e2 ?_;exact zb Tryd.underlying115 rfl zlx (by decide) rfl ⟨Below.refl _ _, Left.of rfl⟩
      · intro vs X wq K;have LE := K.1;obtain ⟨_, e3, k3⟩ := K.dep 3 rfl rfl rfl;refine zi 232 (.pointer (some ⟨5, 0, none⟩)) rfl e3 ?_;exact yi Tryd.underlying88 rfl rfl (HF.on (E.drew.trans (LE.mono OY))).here.1.1.2 ⟨Below.refl _ _, Left.of rfl⟩
      · intro vs X wq K;obtain ⟨_, e4, k4⟩ := K.dep 4 rfl rfl rfl;refine zi 233 (.int .u64 52) rfl e4 ?_;exact je (z := 4503599627370496) rfl rfl (by decide) (by kernel_rfl) ⟨Below.refl _ _, Left.of rfl⟩
      · intro vs X wq K;exact zn rfl ⟨Below.refl _ _, Left.of rfl⟩
      · intro vs X wq K;obtain ⟨_, e6, k6⟩ := K.dep 6 rfl rfl rfl;refine zi 235 (.pointer (some ⟨5, 0, none⟩)) rfl e6 ?_;exact zg rfl ⟨Below.refl _ _, Left.of rfl⟩
      · intro vs X wq K;obtain ⟨_, e7, k7⟩ := K.dep 7 rfl rfl rfl;refine zi 236 (.pointer (some ⟨5, 0, none⟩)) rfl e7 ?_;exact zb Tryd.underlying115 rfl zlx (by decide) rfl ⟨Below.refl _ _, Left.of rfl⟩
      · intro vs X wq K;have LE := K.1;obtain ⟨_, e8, k8⟩ := K.dep 8 rfl rfl rfl;refine zi 237 (.pointer (some ⟨5, 1, none⟩)) rfl e8 ?_;exact yi Tryd.underlying88 rfl rfl (HF.on (E.drew.trans (LE.mono OY))).here.1.2 ⟨Below.refl _ _, Left.of rfl⟩
      · intro vs X wq K;obtain ⟨_, e5, k5⟩ := K.dep 5 rfl rfl rfl;refine zi 234 (.int .u64 4503599627370496) rfl e5 ?_;obtain ⟨_, e9, k9⟩ := K.dep 9 rfl rfl rfl;refine zi 238 (.int .u64 11) rfl e9 ?_;exact je (z := 9223372036854775808) rfl rfl (by decide) (by kernel_rfl) ⟨Below.refl _ _, Left.of rfl⟩
      · intro vs X wq K;obtain ⟨_, e0, k0⟩ := K.dep 0 rfl rfl rfl;refine zi 229 (.int .u64 9218868437227405312) rfl e0 ?_;obtain ⟨_, e10, k10⟩ := K.dep 10 rfl rfl rfl;refine zi 239 (.int .u64 9223372036854775808) rfl e10 ?_;exact xd (z := 18442240474082181120) rfl rfl (by kernel_rfl) ⟨Below.refl _ _, Left.of rfl⟩
      · intro vs X wq K;obtain ⟨_, e11, k11⟩ := K.dep 11 rfl rfl rfl;refine zi 240 (.int .u64 18442240474082181120) rfl e11 ?_;exact js rfl ⟨Below.refl _ _, Left.of rfl⟩
    intro vs w42 LE AO AL AF AA;have LBa := Ba;replace Ba := Ba.drew.extN LE NotIn.nil;replace E := E.drew.trans (LE.mono OY);obtain ⟨_, e12, k12⟩ := AL.2.2.2.2.2.2.2.2.2.2.2.2.1;refine ja (τ := [(5, _), (11, .int .u64 18442240474082181120)]) ⟨rfl, congrArg some e12, trivial⟩ ?_;clear AL AF AA LE AO OY e12 k12 LBa
    refine ze (srx (mvx rfl (mvx rfl (avx rfl (anx rfl (zr (jn ?_)))))));have e : zbk t = 18442240474082181120 := by unfold zbk; rw [hfb, hng]; decide +kernel
    refine zq (rs := [.tmp 4, .tmp 5]) (vs := [_, _]) rfl ⟨rfl, rfl, trivial⟩ ?_;exact ⟨by rw [e, hfb]; rfl, ⟨_, Ba⟩, (LW.step E XLW)⟩
   ·
    refine zk (ze (srx (mvx rfl (mvx rfl (avx rfl (anx rfl (zr (jn ?_))))))));have e : zbk t = 9218868437227405312 := by unfold zbk; rw [hfb, hng]; decide +kernel
    refine zq (rs := [.tmp 4, .tmp 5]) (vs := [_, _]) rfl ⟨rfl, rfl, trivial⟩ ?_;exact ⟨by rw [e, hfb]; rfl, ⟨_, Ba⟩, (LW.step E XLW)⟩
 ·
  have LTa := (yj Ba.lt);clear Ba;rintro ⟨m, k, ov, u⟩ w2 ⟨M1, Ba, ⟨hfb, hmm, hee, hl5, hn5⟩⟩;replace E := E.trans M1;replace HF := HF.on E;replace LW := LW.step E XLW;replace E := erx (Mut [(some ga)]) w2
  refine zf (zk (ze (srx (mvx rfl (mvx rfl (za rfl (zg rfl (za rfl (zb Tryd.underlying115 rfl zlx (by decide) rfl (za rfl (yi Tryd.underlying88 rfl rfl (HF.on E).here.1.1.2 (za rfl (je (z := 4503599627370496) rfl rfl (by decide) (by kernel_rfl) (za rfl (yx (z := 4503599627370495) rfl rfl (by kernel_rfl) (za rfl (qx rfl rfl (and_lo hmm) (anx rfl (zf ?_)))))))))))))))))))
  have OY : ∀ q9, (Mut (xw [])) q9 → q9 < (World.drew w2).heap.size → (Mut [(some ga)]) q9 := fun k h _ => (Mut.none_) k h;refine vt (Mut [(some ga)]) (Mut.grow Mut.none_ (yj Ba.lt)) [] [] (xy [Fx.of (.int .u64 ((m &&& 4503599627370495 : Nat) : Int)),
   Fx.of (.int .i64 (((k : Nat) : Int) - 1023)),
   Fx.of (.pointer (some ⟨5, 0, none⟩)),
   Fx.of (.pointer (some ⟨5, 0, none⟩)),
   Fx.of (.pointer (some ⟨5, 2, none⟩)),
   Fx.of (.int .i64 (-1023)),
   Fx.of (.int .i64 ((k : Nat) : Int)),
   Fx.of (.pointer (some ⟨5, 0, none⟩)),
   Fx.of (.pointer (some ⟨5, 0, none⟩)),
   Fx.of (.pointer (some ⟨5, 1, none⟩)),
   Fx.of (.int .u64 11),
   Fx.of (.int .i64 2048),
   Fx.of (.int .i64 2047),
   Fx.of (.int .i64 ((k : Nat) : Int)),
   Fx.of (.int .u64 ((k : Nat) : Int)),
   Fx.of (.pointer (some ⟨5, 0, none⟩)),
   Fx.of (.pointer (some ⟨5, 0, none⟩)),
   Fx.of (.pointer (some ⟨5, 0, none⟩)),
   Fx.of (.int .u64 52),
   Fx.of (.int .u64 ((k * 4503599627370496 : Nat) : Int)),
   Fx.of (.int .u64 ((xj m k : Nat) : Int)),
   Fx.of (.int .u64 ((xj m k : Nat) : Int))]) mixed rfl trivial (fun _ h => by cases h) ?_ ?_
  · refine ⟨?_, ?_, ?_, ?_, ?_, ?_, ?_, ?_, ?_, ?_, ?_, ?_, ?_, ?_, ?_, ?_, ?_, ?_, ?_, ?_, ?_, ?_, trivial⟩
    · intro vs X wq K;exact zn rfl ⟨Below.refl _ _, Left.of rfl⟩
    · intro vs X wq K;exact zn rfl ⟨Below.refl _ _, Left.of rfl⟩
    · intro vs X wq K;exact zn rfl ⟨Below.refl _ _, Left.of rfl⟩
    · intro vs X wq K;obtain ⟨_, e2, k2⟩ := K.dep 2 rfl rfl rfl;refine zi 206 (.pointer (some ⟨5, 0, none⟩)) rfl e2 ?_;exact zg rfl ⟨Below.refl _ _, Left.of rfl⟩
    · intro vs X wq K;obtain ⟨_, e3, k3⟩ := K.dep 3 rfl rfl rfl;refine zi 207 (.pointer (some ⟨5, 0, none⟩)) rfl e3 ?_;exact zb Tryd.underlying115 rfl sz3 (by decide) rfl ⟨Below.refl _ _, Left.of rfl⟩
    · intro vs X wq K;have LE := K.1;obtain ⟨_, e4, k4⟩ := K.dep 4 rfl rfl rfl;refine zi 208 (.pointer (some ⟨5, 2, none⟩)) rfl e4 ?_;exact yi Tryd.underlying3 rfl rfl (HF.on (E.drew.trans (LE.mono OY))).here.2 ⟨Below.refl _ _, Left.of rfl⟩
    · intro vs X wq K;obtain ⟨_, e1, k1⟩ := K.dep 1 rfl rfl rfl;refine zi 205 (.int .i64 (((k : Nat) : Int) - 1023)) rfl e1 ?_;obtain ⟨_, e5, k5⟩ := K.dep 5 rfl rfl rfl;refine zi 209 (.int .i64 (-1023)) rfl e5 ?_;exact yx rfl rfl (zo (by omega)) ⟨Below.refl _ _, Left.of ((by congr 1; omega : (.int .i64 ((((k : Nat) : Int) - 1023) - (-1023)) : Value) = _))⟩
    · intro vs X wq K;exact zn rfl ⟨Below.refl _ _, Left.of rfl⟩
    · intro vs X wq K;obtain ⟨_, e7, k7⟩ := K.dep 7 rfl rfl rfl;refine zi 211 (.pointer (some ⟨5, 0, none⟩)) rfl e7 ?_;exact zg rfl ⟨Below.refl _ _, Left.of rfl⟩
    · intro vs X wq K;obtain ⟨_, e8, k8⟩ := K.dep 8 rfl rfl rfl;refine zi 212 (.pointer (some ⟨5, 0, none⟩)) rfl e8 ?_;exact zb Tryd.underlying115 rfl zlx (by decide) rfl ⟨Below.refl _ _, Left.of rfl⟩
    · intro vs X wq K;have LE := K.1;obtain ⟨_, e9, k9⟩ := K.dep 9 rfl rfl rfl;refine zi 213 (.pointer (some ⟨5, 1, none⟩)) rfl e9 ?_;exact yi Tryd.underlying88 rfl rfl (HF.on (E.drew.trans (LE.mono OY))).here.1.2 ⟨Below.refl _ _, Left.of rfl⟩
    · intro vs X wq K;obtain ⟨_, e10, k10⟩ := K.dep 10 rfl rfl rfl;refine zi 214 (.int .u64 11) rfl e10 ?_;exact je (z := 2048) rfl rfl (by decide) (by kernel_rfl) ⟨Below.refl _ _, Left.of rfl⟩
    · intro vs X wq K;obtain ⟨_, e11, k11⟩ := K.dep 11 rfl rfl rfl;refine zi 215 (.int .i64 2048) rfl e11 ?_;exact yx (z := 2047) rfl rfl (by kernel_rfl) ⟨Below.refl _ _, Left.of rfl⟩
    · intro vs X wq K;obtain ⟨_, e6, k6⟩ := K.dep 6 rfl rfl rfl;refine zi 210 (.int .i64 ((k : Nat) : Int)) rfl e6 ?_;obtain ⟨_, e12, k12⟩ := K.dep 12 rfl rfl rfl;refine zi 216 (.int .i64 2047) rfl e12 ?_;exact qx rfl rfl (and_i2047 hee) ⟨Below.refl _ _, Left.of rfl⟩
    · intro vs X wq K;obtain ⟨_, e13, k13⟩ := K.dep 13 rfl rfl rfl;refine zi 217 (.int .i64 ((k : Nat) : Int)) rfl e13 ?_;exact vd Tryd.underlying30 Tryd.underlying3 rfl (wrap_u64 (by omega)) ⟨Below.refl _ _, Left.of rfl⟩
    · intro vs X wq K;exact zn rfl ⟨Below.refl _ _, Left.of rfl⟩
    · intro vs X wq K;obtain ⟨_, e15, k15⟩ := K.dep 15 rfl rfl rfl;refine zi 219 (.pointer (some ⟨5, 0, none⟩)) rfl e15 ?_;exact zg rfl ⟨Below.refl _ _, Left.of rfl⟩
    · intro vs X wq K;obtain ⟨_, e16, k16⟩ := K.dep 16 rfl rfl rfl;refine zi 220 (.pointer (some ⟨5, 0, none⟩)) rfl e16 ?_;exact zb Tryd.underlying115 rfl zlx (by decide) rfl ⟨Below.refl _ _, Left.of rfl⟩
    · intro vs X wq K;have LE := K.1;obtain ⟨_, e17, k17⟩ := K.dep 17 rfl rfl rfl;refine zi 221 (.pointer (some ⟨5, 0, none⟩)) rfl e17 ?_;exact yi Tryd.underlying88 rfl rfl (HF.on (E.drew.trans (LE.mono OY))).here.1.1.2 ⟨Below.refl _ _, Left.of rfl⟩
    · intro vs X wq K;obtain ⟨_, e14, k14⟩ := K.dep 14 rfl rfl rfl;refine zi 218 (.int .u64 ((k : Nat) : Int)) rfl e14 ?_;obtain ⟨_, e18, k18⟩ := K.dep 18 rfl rfl rfl;refine zi 222 (.int .u64 52) rfl e18 ?_;exact je rfl rfl (by decide) (shl_52 hee) ⟨Below.refl _ _, Left.of rfl⟩
    · intro vs X wq K;obtain ⟨_, e0, k0⟩ := K.dep 0 rfl rfl rfl;refine zi 204 (.int .u64 ((m &&& 4503599627370495 : Nat) : Int)) rfl e0 ?_;obtain ⟨_, e19, k19⟩ := K.dep 19 rfl rfl rfl;refine zi 223 (.int .u64 ((k * 4503599627370496 : Nat) : Int)) rfl e19 ?_;exact xd rfl rfl (slowC_or hee) ⟨Below.refl _ _, Left.of rfl⟩
    · intro vs X wq K;obtain ⟨_, e20, k20⟩ := K.dep 20 rfl rfl rfl;refine zi 224 (.int .u64 ((xj m k : Nat) : Int)) rfl e20 ?_;exact js rfl ⟨Below.refl _ _, Left.of rfl⟩
  intro vs w43 LE AO AL AF AA;have LBa := Ba;replace Ba := Ba.drew.extN LE NotIn.nil;replace E := E.drew.trans (LE.mono OY);obtain ⟨_, e21, k21⟩ := AL.2.2.2.2.2.2.2.2.2.2.2.2.2.2.2.2.2.2.2.2.2.1;refine ja (τ := [(0, _), (1, _), (5, _), (11, .int .u64 ((xj m k : Nat) : Int))]) ⟨rfl, rfl, rfl, congrArg some e21, trivial⟩ ?_;clear AL AF AA LE AO OY e21 k21 LBa
  refine ze (zf (srx (mvx rfl (za rfl (zg rfl (za rfl (zb Tryd.underlying125 rfl sz4 (by decide) rfl (za rfl (zl Tryd.underlying4 rfl rfl Ba (ngAt hl5 t.neg hn5) (rnx (zt rfl (fun hng => ?_) (fun hng => ?_))))))))))))
  ·
   have OY : ∀ q9, (Mut (xw [])) q9 → q9 < (World.drew w43).heap.size → (Mut [(some ga)]) q9 := fun k h _ => (Mut.none_) k h;refine vt (Mut [(some ga)]) (Mut.grow Mut.none_ (yj Ba.lt)) [] [] (xy [Fx.of (.int .u64 ((xj m k : Nat) : Int)),
    Fx.of (.pointer (some ⟨5, 0, none⟩)),
    Fx.of (.pointer (some ⟨5, 0, none⟩)),
    Fx.of (.pointer (some ⟨5, 0, none⟩)),
    Fx.of (.int .u64 52),
    Fx.of (.int .u64 4503599627370496),
    Fx.of (.pointer (some ⟨5, 0, none⟩)),
    Fx.of (.pointer (some ⟨5, 0, none⟩)),
    Fx.of (.pointer (some ⟨5, 1, none⟩)),
    Fx.of (.int .u64 11),
    Fx.of (.int .u64 9223372036854775808),
    Fx.of (.int .u64 ((xj m k ||| 9223372036854775808 : Nat) : Int)),
    Fx.of (.int .u64 ((xj m k ||| 9223372036854775808 : Nat) : Int))]) mixed rfl trivial (fun _ h => by cases h) ?_ ?_
   · refine ⟨?_, ?_, ?_, ?_, ?_, ?_, ?_, ?_, ?_, ?_, ?_, ?_, ?_, trivial⟩
     · intro vs X wq K;exact zn rfl ⟨Below.refl _ _, Left.of rfl⟩
     · intro vs X wq K;exact zn rfl ⟨Below.refl _ _, Left.of rfl⟩
     · intro vs X wq K;obtain ⟨_, e1, k1⟩ := K.dep 1 rfl rfl rfl;refine zi 230 (.pointer (some ⟨5, 0, none⟩)) rfl e1 ?_;exact zg rfl ⟨Below.refl _ _, Left.of rfl⟩
     · intro vs X wq K;obtain ⟨_, e2, k2⟩ := K.dep 2 rfl rfl rfl;refine zi 231 (.pointer (some ⟨5, 0, none⟩)) rfl e2 ?_;exact zb Tryd.underlying115 rfl zlx (by decide) rfl ⟨Below.refl _ _, Left.of rfl⟩
     · intro vs X wq K;have LE := K.1;obtain ⟨_, e3, k3⟩ := K.dep 3 rfl rfl rfl;refine zi 232 (.pointer (some ⟨5, 0, none⟩)) rfl e3 ?_;exact yi Tryd.underlying88 rfl rfl (HF.on (E.drew.trans (LE.mono OY))).here.1.1.2 ⟨Below.refl _ _, Left.of rfl⟩
     · intro vs X wq K;obtain ⟨_, e4, k4⟩ := K.dep 4 rfl rfl rfl;refine zi 233 (.int .u64 52) rfl e4 ?_;exact je (z := 4503599627370496) rfl rfl (by decide) (by kernel_rfl) ⟨Below.refl _ _, Left.of rfl⟩
     · intro vs X wq K;exact zn rfl ⟨Below.refl _ _, Left.of rfl⟩
     · intro vs X wq K;obtain ⟨_, e6, k6⟩ := K.dep 6 rfl rfl rfl;refine zi 235 (.pointer (some ⟨5, 0, none⟩)) rfl e6 ?_;exact zg rfl ⟨Below.refl _ _, Left.of rfl⟩
     · intro vs X wq K;obtain ⟨_, e7, k7⟩ := K.dep 7 rfl rfl rfl;refine zi 236 (.pointer (some ⟨5, 0, none⟩)) rfl e7 ?_;exact zb Tryd.underlying115 rfl zlx (by decide) rfl ⟨Below.refl _ _, Left.of rfl⟩
     · intro vs X wq K;have LE := K.1;obtain ⟨_, e8, k8⟩ := K.dep 8 rfl rfl rfl;refine zi 237 (.pointer (some ⟨5, 1, none⟩)) rfl e8 ?_;exact yi Tryd.underlying88 rfl rfl (HF.on (E.drew.trans (LE.mono OY))).here.1.2 ⟨Below.refl _ _, Left.of rfl⟩
     · intro vs X wq K;obtain ⟨_, e5, k5⟩ := K.dep 5 rfl rfl rfl;refine zi 234 (.int .u64 4503599627370496) rfl e5 ?_;obtain ⟨_, e9, k9⟩ := K.dep 9 rfl rfl rfl;refine zi 238 (.int .u64 11) rfl e9 ?_;exact je (z := 9223372036854775808) rfl rfl (by decide) (by kernel_rfl) ⟨Below.refl _ _, Left.of rfl⟩
     · intro vs X wq K;obtain ⟨_, e0, k0⟩ := K.dep 0 rfl rfl rfl;refine zi 229 (.int .u64 ((xj m k : Nat) : Int)) rfl e0 ?_;obtain ⟨_, e10, k10⟩ := K.dep 10 rfl rfl rfl;refine zi 239 (.int .u64 9223372036854775808) rfl e10 ?_;exact xd rfl rfl (slowC_neg hee) ⟨Below.refl _ _, Left.of rfl⟩
     · intro vs X wq K;obtain ⟨_, e11, k11⟩ := K.dep 11 rfl rfl rfl;refine zi 240 (.int .u64 ((xj m k ||| 9223372036854775808 : Nat) : Int)) rfl e11 ?_;exact js rfl ⟨Below.refl _ _, Left.of rfl⟩
   intro vs w44 LE AO AL AF AA;have LBa := Ba;replace Ba := Ba.drew.extN LE NotIn.nil;replace E := E.drew.trans (LE.mono OY);obtain ⟨_, e12, k12⟩ := AL.2.2.2.2.2.2.2.2.2.2.2.2.1;refine ja (τ := [(5, _), (11, .int .u64 ((xj m k ||| 9223372036854775808 : Nat) : Int))]) ⟨rfl, congrArg some e12, trivial⟩ ?_;clear AL AF AA LE AO OY e12 k12 LBa
   refine ze (srx (mvx rfl (mvx rfl (avx rfl (anx rfl (zr (jn ?_)))))));have e : zbk t = xj m k ||| 9223372036854775808 := by unfold zbk slowB xj; rw [hfb, if_pos hng]
   refine zq (rs := [.tmp 4, .tmp 5]) (vs := [_, _]) rfl ⟨rfl, rfl, trivial⟩ ?_;exact ⟨by rw [e, hfb]; rfl, ⟨_, Ba⟩, (LW.step E XLW)⟩
  ·
   refine zk (ze (srx (mvx rfl (mvx rfl (avx rfl (anx rfl (zr (jn ?_))))))));have e : zbk t = xj m k := by unfold zbk slowB xj; rw [hfb, if_neg (by rw [hng]; decide)]
   refine zq (rs := [.tmp 4, .tmp 5]) (vs := [_, _]) rfl ⟨rfl, rfl, trivial⟩ ?_;exact ⟨by rw [e, hfb]; rfl, ⟨_, Ba⟩, (LW.step E XLW)⟩
end
end Go.Proofs.YtmjbnhjgebjhlaaDoor
namespace Go.Proofs.YtmjbnhjgebjhlaaDoor
open Go.RowKit
set_option maxRecDepth 100000
attribute [local irreducible] OW RS
theorem putIn {s : ByteArray} {a : StS} (h1 : bAt s a.i ≠ 46) (h2 : ¬ (bAt s a.i = 48 ∧ a.t.nd = 0)) (h3 : a.t.nd < 800) : jw s a = { a with i := a.i + 1, dig := true, t := { a.t with d := a.t.d.set a.t.nd (bAt s a.i), nd := a.t.nd + 1 } } := by
 unfold jw; rw [if_neg h1, if_neg h2, if_pos h3]
theorem putOut {s : ByteArray} {a : StS} (h1 : bAt s a.i ≠ 46) (h2 : ¬ (bAt s a.i = 48 ∧ a.t.nd = 0)) (h3 : ¬ a.t.nd < 800) : jw s a = { a with i := a.i + 1, dig := true, t := { a.t with tr := if bAt s a.i ≠ 48 then true else a.t.tr } } := by
 unfold jw; rw [if_neg h1, if_neg h2, if_neg h3]
theorem pt39_1 : Gives 39 #[.int .u8 101] (.int .u8 101) := by
 intro w;refine yk Tryd.func39 rfl Tryd.ntmps39 rfl ?_;have LW := erx (No) w;have XLW := grx (No) w;have E := erx (No) w;refine srx (anx rfl (srx (mvx rfl (za rfl (xd (z := 101) rfl rfl (by kernel_rfl) (anx rfl (zr (zq (rs := [.tmp 2]) (vs := [.int .u8 101]) rfl ⟨rfl, trivial⟩ ?_))))))));exact ⟨rfl, (LW.step E XLW).toBelow⟩
section
variable (w : World)
theorem set_any (ga : Nat) (s : ByteArray) (f : Nat) (neg : Bool) {p Z q : Nat} (hsg : SgnAt s f neg) (hs : Nm s f p Z q) (hl : s.size < 100000) (hB : Blk w ga 125 (yz (zjv false))) :
 Calls Tryd.prog 60 #[.pointer (some ⟨ga, 0, none⟩), .string s] w fun e w' => e = .returned (.bool true) ∧ Blk w' ga 125 (yz (setD s f neg)) ∧ Ext (Mut [some ga]) w w' := by
 have hfs : f < s.size := hs.size;have hfd := hs.first;have hl0 : (zjv false).d.length = 800 := (dec0_ok false).len;refine yk Tryd.func60 rfl Tryd.ntmps60 rfl ?_;have Ba := hB;have LW := erx (Mut [(some ga)]) w;have XLW := grx (Mut [(some ga)]) w;have E := erx (Mut [(some ga)]) w
 refine srx (anx rfl (srx (anx rfl (srx (mvx rfl (za rfl (zg rfl (za rfl (zb Tryd.underlying125 rfl sz4 (by decide) rfl (yu (qa sz4 rfl rfl Ba rfl rfl (in_ hl0 (by decide : 802 < 804)) (set_neg hl0 false) ?_)))))))))));intro w1 Bx Ea;replace Ba : Blk w1 ga 125 (yz (zjv false)) := Bx;replace E := E.step1 Ea Mut.head
 refine rnx (srx (mvx rfl (za rfl (zg rfl (za rfl (zb Tryd.underlying125 rfl sz4 (by decide) rfl (yu (qa sz4 rfl rfl Ba rfl rfl (in_ hl0 (by decide : 803 < 804)) (ydk hl0 false) ?_))))))));intro w2 Bx Ea;replace Ba : Blk w2 ga 125 (yz (zjv false)) := Bx;replace E := E.step1 Ea Mut.head
 refine rnx (zf (srx (mvx rfl (mvx rfl (za rfl (qc Tryd.underlying9 rfl (za rfl (vk rfl rfl (rnx (zv 19 (.bool false) rfl ((by rw [decide_eq_false (by omega)] : (.bool (decide (((s.size : Nat) : Int) ≤ 0)) : Value) = _)) (zx rfl (zk (ze (zf (srx (mvx rfl (mvx rfl (za rfl (yg (j := 0) (b := bAt s 0) Tryd.underlying9 rfl rfl rfl (yt (by omega)) (rnx ?_))))))))))))))))))))
 replace LW := LW.step E XLW;replace E := erx (Mut [(some ga)]) w2;refine qe (ι := Unit) (fun _ => [(0, .pointer (some ⟨ga, 0, none⟩)), (1, .string s), (4, .bool false), (5, .int .i64 ((f : Nat) : Int))]) (fun _ w' => Ext (Mut [(some ga)]) w2 w' ∧ Blk w' ga 125 (yz (zjv neg)) ∧ (True)) ?_ ?_
 ·
  have M3 := erx (Mut [(some ga)]) w2;have XM3 := grx (Mut [(some ga)]) w2;refine zy (srx (za rfl (ye rfl rfl (anx rfl ?_))));by_cases hneg : neg = true
  ·
   obtain ⟨hf1, h45⟩ := hsg.neg hneg
   refine zv 23 (.bool false) rfl ((by rw [h45]; rfl : (.bool (((bAt s 0 : Nat) : Int) == 43) : Value) = _)) (zx rfl (srx (za rfl (ye rfl rfl (anx rfl (zv 27 (.bool true) rfl ((by rw [h45]; rfl : (.bool (((bAt s 0 : Nat) : Int) == 45) : Value) = _)) (ym rfl (srx (mvx rfl (za rfl (yh (z := 1) rfl rfl (by kernel_rfl) (anx rfl (zj (mvx rfl (za rfl (zg rfl (za rfl (zb Tryd.underlying125 rfl sz4 (by decide) rfl (yu (qa sz4 rfl rfl Ba rfl rfl (in_ hl0 (by decide : 802 < 804)) (set_neg hl0 true) ?_))))))))))))))))))))
   intro w5 Bx Ea;replace Ba : Blk w5 ga 125 (yz (zjv true)) := Bx;replace E := E.step1 Ea Mut.head;refine yd (zm (yr 5 (.int .i64 ((f : Nat) : Int)) rfl ((by rw [hf1]; rfl : (.int .i64 1 : Value) = _)) ?_));replace Ba : Blk w5 ga 125 (yz (zjv neg)) := by rw [hneg]; exact Ba
   exact yq () ⟨rfl, rfl, rfl, rfl, trivial⟩ ⟨M3.step E XM3, (by exact Ba), trivial⟩
  ·
   have hf0 := hsg.pos hneg;rw [hf0] at hfd
   refine zv 23 (.bool false) rfl ((by rw [vx (by omega)] : (.bool (((bAt s 0 : Nat) : Int) == 43) : Value) = _)) (zx rfl (srx (za rfl (ye rfl rfl (anx rfl (zv 27 (.bool false) rfl ((by rw [vx (by omega)] : (.bool (((bAt s 0 : Nat) : Int) == 45) : Value) = _)) (zx rfl (zk (zm (yr 5 (.int .i64 ((f : Nat) : Int)) rfl ((by rw [hf0]; rfl : (.int .i64 0 : Value) = _)) ?_))))))))))
   replace Ba : Blk w2 ga 125 (yz (zjv neg)) := by rw [Bool.eq_false_iff.2 hneg]; exact Ba
   exact yq () ⟨rfl, rfl, rfl, rfl, trivial⟩ ⟨M3.step E XM3, (by exact Ba), trivial⟩
 ·
  have LTa := (yj Ba.lt);clear Ba;rintro _ w4 ⟨M3, Ba, _⟩;replace E := E.trans M3;replace LW := LW.step E XLW;replace E := erx (Mut [(some ga)]) w4;refine srx (anx rfl (srx (anx rfl (zf ?_))));replace LW := LW.step E XLW;replace E := erx (Mut [(some ga)]) w4
  refine qe (ι := StS) (fun x => [(0, .pointer (some ⟨ga, 0, none⟩)), (1, .string s), (4, .bool false), (5, .int .i64 ((x.i : Nat) : Int)), (6, .bool x.dot), (7, .bool x.dig)]) (fun x w' => Ext (Mut [(some ga)]) w4 w' ∧ Blk w' ga 125 (yz x.t) ∧ (x = stA s f neg)) ?_ ?_
  ·
   have M6 := erx (Mut [(some ga)]) w4;have XM6 := grx (Mut [(some ga)]) w4;refine zy ?_;replace M6 := M6.step E XM6;replace E := erx (Mut [(some ga)]) w4
   refine qq (ι := StS) (fun x => [(0, .pointer (some ⟨ga, 0, none⟩)), (1, .string s), (4, .bool false), (5, .int .i64 ((x.i : Nat) : Int)), (6, .bool x.dot), (7, .bool x.dig)]) (fun x w' => Ext (Mut [(some ga)]) w4 w' ∧ Blk w' ga 125 (yz x.t) ∧ (StN s f p Z q x ∧ qt (xk s) (jw s) x = stA s f neg)) (fun x => Z - x.i) (⟨f, false, false, zjv neg⟩) ⟨rfl, rfl, rfl, rfl, rfl, rfl, trivial⟩ ⟨Ext.refl _ _, (by exact Ba), ydz neg hs, rfl⟩ ?_
   have LTa := (yj Ba.lt);clear Ba;rintro x w9 ⟨M8, Ba, ⟨hI, hu⟩⟩;have XM8 : Gro (Mut [(some ga)]) (Mut [(some ga)]) w4 := (Mut.grow Mut.none_ (fun k e => Or.inl (Mut.head k e)));replace E := E.trans M8;replace M6 := M6.step E XM6;replace E := erx (Mut [(some ga)]) w9;have hlx := hI.dec.len;have hnx := hI.dec.hn;have hsE := hs.hE;have hiE := hI.iE;have hfi := hI.fi;have hpp := hI.hp
   refine zf (srx (mvx rfl (mvx rfl (za rfl (qc Tryd.underlying9 rfl (za rfl (yv rfl rfl (rnx (zt rfl (fun h1 => ?_) (fun h1 => ?_))))))))))
   ·
    have h1 : x.i < s.size := by have h1 := of_decide_eq_true h1; omega
    refine zk (ze (zf (zy (zf (zy (srx (mvx rfl (mvx rfl (za rfl (yg (j := x.i) (b := bAt s (x.i)) Tryd.underlying9 rfl rfl rfl (yt (by omega)) ?_))))))))));by_cases hE2 : x.i < Z
    ·
     have hdone := stN_cont hs hI hE2;have hkeep := (ydq hs hI hdone).1;have hu2 := hu;rw [qv hdone] at hu2;have hc := hs.at_ hfi hE2;have hb := bAt_lt s x.i
     refine za rfl (ye rfl rfl (anx rfl (zv 40 (.bool false) rfl ((by rw [vx (by omega)] : (.bool (((bAt s (x.i) : Nat) : Int) == 95) : Value) = _)) (zx rfl (srx (mvx rfl (mvx rfl (za rfl (yg (j := x.i) (b := bAt s (x.i)) Tryd.underlying9 rfl rfl rfl (yt (by omega)) (za rfl (ye rfl rfl (anx rfl ?_))))))))))));by_cases hdot : bAt s x.i = 46
     ·
      have hstep : jw s x = { x with i := x.i + 1, dot := true, t := { x.t with dp := ((x.t.nd : Nat) : Int) } } := by unfold jw; rw [if_pos hdot]
      have hnodot : x.dot = false := by
       rcases hc with ⟨_, h3⟩ | ⟨h3, _⟩
       · omega
       · cases h4 : x.dot with
         | false => rfl
         | true => have := hI.dt h4; omega
      rw [hstep] at hkeep hu2
      refine zv 45 (.bool true) rfl ((by rw [hdot]; rfl : (.bool (((bAt s (x.i) : Nat) : Int) == 46) : Value) = _)) (ym rfl (zf (srx (mvx rfl (rnx (zv 50 (.bool false) rfl ((by rw [hnodot] : (.bool x.dot : Value) = _)) (zx rfl (zk (ze (srx (anx rfl (srx (mvx rfl (mvx rfl (za rfl (zg rfl (za rfl (zb Tryd.underlying125 rfl sz3 (by decide) rfl (za rfl (zl Tryd.underlying3 rfl rfl Ba (xm hlx (x.t.nd) rfl) (za rfl (zg rfl (za rfl (zb Tryd.underlying125 rfl sz3 (by decide) rfl (yu (qa sz3 rfl rfl Ba rfl rfl (in_ hlx (by decide : 801 < 804)) (zuq hlx ((x.t.nd : Nat) : Int)) ?_))))))))))))))))))))))))))
      intro w10 Bx Ea;replace Ba : Blk w10 ga 125 (yz { x.t with dp := ((x.t.nd : Nat) : Int) }) := Bx;replace E := E.step1 Ea Mut.head;refine rnx (yo (yw rfl (zh (zu (ze (zj (mvx rfl (za rfl (yh rfl rfl (zo (by omega)) (avx rfl (yd (yr 5 (.int .i64 ((x.i + 1 : Nat) : Int)) rfl (rfl) ?_))))))))))))
      exact yn ({ x with i := x.i + 1, dot := true, t := { x.t with dp := ((x.t.nd : Nat) : Int) } }) (by show Z - (x.i + 1) < Z - x.i; omega) ⟨rfl, rfl, rfl, rfl, rfl, rfl, trivial⟩ ⟨M8.step E XM8, (by exact Ba), hkeep, hu2⟩
     ·
      have hc : 48 ≤ bAt s x.i ∧ bAt s x.i ≤ 57 := by omega
      refine zv 45 (.bool false) rfl ((by rw [vx (by omega)] : (.bool (((bAt s (x.i) : Nat) : Int) == 46) : Value) = _)) (zx rfl (srx (mvx rfl (mvx rfl (za rfl (yg (j := x.i) (b := bAt s (x.i)) Tryd.underlying9 rfl rfl rfl (yt (by omega)) (za rfl (gz rfl rfl (mvx rfl (yc 63 (.bool true) rfl ((by rw [decide_eq_true (by omega)] : (.bool (decide (48 ≤ ((bAt s (x.i) : Nat) : Int))) : Value) = _)) (onx rfl (zn rfl (onx rfl (zn rfl (onx rfl (yg (j := x.i) (b := bAt s (x.i)) Tryd.underlying9 rfl rfl rfl (yt (by omega)) (onx rfl (gz rfl rfl (za rfl (zw rfl rfl (anx rfl (zv 58 (.bool true) rfl ((by rw [decide_eq_true (by omega)] : (.bool (decide (((bAt s (x.i) : Nat) : Int) ≤ 57)) : Value) = _)) (ym rfl (srx (anx rfl (zf (srx (mvx rfl (mvx rfl (za rfl (yg (j := x.i) (b := bAt s (x.i)) Tryd.underlying9 rfl rfl rfl (yt (by omega)) (za rfl (ye rfl rfl (mvx rfl (yp 73 rfl (fun h3 => ?_) (fun h3 => ?_))))))))))))))))))))))))))))))))))))
      ·
       have h3 : bAt s x.i = 48 := by have h3 := eq_of_beq h3; omega
       refine onx rfl (zn rfl (onx rfl (zg rfl (onx rfl (zb Tryd.underlying125 rfl sz3 (by decide) rfl (onx rfl (zl Tryd.underlying3 rfl rfl Ba (xm hlx (x.t.nd) rfl) (onx rfl (ye rfl rfl (za rfl (zw rfl rfl (rnx (zt rfl (fun h4 => ?_) (fun h4 => ?_))))))))))))))
       ·
        have h4 : x.t.nd = 0 := by have h4 := eq_of_beq h4; omega
        have hstep : jw s x = { x with i := x.i + 1, dig := true, t := { x.t with dp := x.t.dp - 1 } } := by unfold jw; rw [if_neg hdot, if_pos ⟨h3, h4⟩]
        rw [hstep] at hkeep hu2
        refine srx (mvx rfl (za rfl (zg rfl (za rfl (zb Tryd.underlying125 rfl sz3 (by decide) rfl (za rfl (zl Tryd.underlying3 rfl rfl Ba (znq hlx x.t.dp rfl) (za rfl (yx rfl rfl (zo (by omega)) (za rfl (zg rfl (za rfl (zb Tryd.underlying125 rfl sz3 (by decide) rfl (yu (qa sz3 rfl rfl Ba rfl rfl (in_ hlx (by decide : 801 < 804)) (zuq hlx (x.t.dp - 1)) ?_)))))))))))))))
        intro w11 Bx Ea;replace Ba : Blk w11 ga 125 (yz { x.t with dp := x.t.dp - 1 }) := Bx;replace E := E.step1 Ea Mut.head;refine rnx (yo (zh (yw rfl (zh (zu (ze (zj (mvx rfl (za rfl (yh rfl rfl (zo (by omega)) (avx rfl (yd (yr 5 (.int .i64 ((x.i + 1 : Nat) : Int)) rfl (rfl) ?_)))))))))))))
        exact yn ({ x with i := x.i + 1, dig := true, t := { x.t with dp := x.t.dp - 1 } }) (by show Z - (x.i + 1) < Z - x.i; omega) ⟨rfl, rfl, rfl, rfl, rfl, rfl, trivial⟩ ⟨M8.step E XM8, (by exact Ba), hkeep, hu2⟩
       ·
        have hnz : ¬ (bAt s x.i = 48 ∧ x.t.nd = 0) := fun h => absurd h4 (by rw [h.2]; decide)
        refine zk (ze (zf (srx (mvx rfl (za rfl (zg rfl (za rfl (zb Tryd.underlying125 rfl sz3 (by decide) rfl (za rfl (zl Tryd.underlying3 rfl rfl Ba (xm hlx (x.t.nd) rfl) (za rfl (yv rfl rfl (rnx (zt rfl (fun h5 => ?_) (fun h5 => ?_)))))))))))))))
        ·
         have h5 : x.t.nd < 800 := by have h5 := of_decide_eq_true h5; omega
         have hst := putIn hdot hnz h5;have hst2 : (x.t.d.set x.t.nd (bAt s x.i)).length = 800 := by rw [List.length_set]; exact hlx
         have hly : ({ x.t with d := x.t.d.set x.t.nd (bAt s x.i) } : Dec).d.length = 800 := hst2;rw [hst] at hkeep hu2;refine zf ?_;have OY : ∀ q9, (Mut (xw [])) q9 → q9 < (World.drew w9).heap.size → (Mut [(some ga)]) q9 := fun k h _ => (Mut.none_) k h;refine ygv mixed (yhv 11 rfl ?_)
         refine zox (Mut [(some ga)]) (Mut.grow Mut.none_ (yj Ba.lt)) [] [] (xy [Fx.of (.pointer (some ⟨ga, 0, none⟩)),
          Fx.of (.pointer (some ⟨ga, 0, none⟩)),
          Fx.of (.pointer (some ⟨ga, 0, none⟩)),
          Fx.of (.pointer (some ⟨ga, 800, none⟩)),
          Fx.of (.int .i64 ((x.t.nd : Nat) : Int)),
          Fx.of (.string s),
          Fx.of (.int .i64 ((x.i : Nat) : Int)),
          Fx.of (.int .u8 ((bAt s x.i : Nat) : Int)),
          Fx.of (.pointer (some ⟨ga, 0, none⟩)),
          Fx.of (.pointer (some ⟨ga, 0, none⟩)),
          Fx.of (.pointer (some ⟨ga, x.t.nd, none⟩))]) rfl trivial (fun _ h => by cases h) ?_ ?_
         · refine ⟨?_, ?_, ?_, ?_, ?_, ?_, ?_, ?_, ?_, ?_, ?_, trivial⟩
           · intro vs X wq K;exact zn rfl ⟨Below.refl _ _, Left.of rfl⟩
           · intro vs X wq K;exact zn rfl ⟨Below.refl _ _, Left.of rfl⟩
           · intro vs X wq K;obtain ⟨_, e1, k1⟩ := K.dep 1 rfl rfl rfl;refine zi 93 (.pointer (some ⟨ga, 0, none⟩)) rfl e1 ?_;exact zg rfl ⟨Below.refl _ _, Left.of rfl⟩
           · intro vs X wq K;obtain ⟨_, e2, k2⟩ := K.dep 2 rfl rfl rfl;refine zi 94 (.pointer (some ⟨ga, 0, none⟩)) rfl e2 ?_;exact zb Tryd.underlying125 rfl sz3 (by decide) rfl ⟨Below.refl _ _, Left.of rfl⟩
           · intro vs X wq K;have LE := K.1;obtain ⟨_, e3, k3⟩ := K.dep 3 rfl rfl rfl;refine zi 95 (.pointer (some ⟨ga, 800, none⟩)) rfl e3 ?_;exact zl Tryd.underlying3 rfl rfl (Ba.drew.extN LE NotIn.nil) (xm hlx x.t.nd rfl) ⟨Below.refl _ _, Left.of rfl⟩
           · intro vs X wq K;exact zn rfl ⟨Below.refl _ _, Left.of rfl⟩
           · intro vs X wq K;exact zn rfl ⟨Below.refl _ _, Left.of rfl⟩
           · intro vs X wq K;obtain ⟨_, e5, k5⟩ := K.dep 5 rfl rfl rfl;refine zi 97 (.string s) rfl e5 ?_;obtain ⟨_, e6, k6⟩ := K.dep 6 rfl rfl rfl;refine zi 98 (.int .i64 ((x.i : Nat) : Int)) rfl e6 ?_;exact yg (j := x.i) (b := bAt s x.i) Tryd.underlying9 rfl rfl rfl (yt (by omega)) ⟨Below.refl _ _, Left.of rfl⟩
           · intro vs X wq K;obtain ⟨_, e0, k0⟩ := K.dep 0 rfl rfl rfl;refine zi 92 (.pointer (some ⟨ga, 0, none⟩)) rfl e0 ?_;exact zg rfl ⟨Below.refl _ _, Left.of rfl⟩
           · intro vs X wq K;obtain ⟨_, e8, k8⟩ := K.dep 8 rfl rfl rfl;refine zi 100 (.pointer (some ⟨ga, 0, none⟩)) rfl e8 ?_;exact zb Tryd.underlying125 rfl xt (by decide) rfl ⟨Below.refl _ _, Left.of rfl⟩
           · intro vs X wq K;obtain ⟨_, e9, k9⟩ := K.dep 9 rfl rfl rfl;refine zi 101 (.pointer (some ⟨ga, 0, none⟩)) rfl e9 ?_;obtain ⟨_, e4, k4⟩ := K.dep 4 rfl rfl rfl;refine zi 96 (.int .i64 ((x.t.nd : Nat) : Int)) rfl e4 ?_;exact qm (j := x.t.nd) Tryd.underlying123 sz5 rfl rfl rfl (by omega) ⟨Below.refl _ _, Left.of rfl⟩
         intro vs w12 LE AO AL AF AA;have LBa := Ba;replace Ba := Ba.drew.extN LE NotIn.nil;replace E := E.drew.trans (LE.mono OY);obtain ⟨_, e7, k7⟩ := AL.2.2.2.2.2.2.2.1;obtain ⟨_, e10, k10⟩ := AL.2.2.2.2.2.2.2.2.2.2.1
         refine ja (τ := [(0, _), (1, _), (4, _), (5, _), (6, _), (7, _), (99, .int .u8 ((bAt s x.i : Nat) : Int)), (102, .pointer (some ⟨ga, x.t.nd, none⟩))]) ⟨rfl, rfl, rfl, rfl, rfl, rfl, congrArg some e7, congrArg some e10, trivial⟩ ?_;clear AL AF AA LE AO OY e7 e10 k7 k10 LBa
         refine ew_ak (zgq (by kernel_rfl) (fun _ _ d_ _ _ h => by cases d_ <;> exact h) (yu (qa sz5 rfl rfl Ba rfl rfl (in_ hlx (by omega)) (set_d hlx (by omega)) ?_)));intro w13 Bx Ea;replace Ba : Blk w13 ga 125 (yz { x.t with d := x.t.d.set x.t.nd (bAt s x.i) }) := Bx;replace E := E.step1 Ea Mut.head
         refine rnx (zj (mvx rfl (za rfl (zg rfl (za rfl (zb Tryd.underlying125 rfl sz3 (by decide) rfl (za rfl (zl Tryd.underlying3 rfl rfl Ba (xm hly (x.t.nd) rfl) (za rfl (yh rfl rfl (zo (by omega)) (za rfl (zg rfl (za rfl (zb Tryd.underlying125 rfl sz3 (by decide) rfl (yc 107 (.int .i64 ((x.t.nd + 1 : Nat) : Int)) rfl (rfl) (yu (qa sz3 rfl rfl Ba rfl rfl (in_ hly (by decide : 800 < 804)) (ydv hly (x.t.nd + 1)) ?_)))))))))))))))))
         intro w14 Bx Ea;replace Ba : Blk w14 ga 125 (yz { x.t with d := x.t.d.set x.t.nd (bAt s x.i), nd := x.t.nd + 1 }) := Bx;replace E := E.step1 Ea Mut.head
         refine rnx (yo (yw rfl (zh (zu (ze (zj (mvx rfl (za rfl (yh rfl rfl (zo (by omega)) (avx rfl (yd (yr 5 (.int .i64 ((x.i + 1 : Nat) : Int)) rfl (rfl) ?_))))))))))))
         exact yn ({ x with i := x.i + 1, dig := true, t := { x.t with d := x.t.d.set x.t.nd (bAt s x.i), nd := x.t.nd + 1 } }) (by show Z - (x.i + 1) < Z - x.i; omega) ⟨rfl, rfl, rfl, rfl, rfl, rfl, trivial⟩ ⟨M8.step E XM8, (by exact Ba), hkeep, hu2⟩
        ·
         have h5 : ¬ x.t.nd < 800 := by have h5 := of_decide_eq_false h5; omega
         have hst := putOut hdot hnz h5;refine srx (mvx rfl (mvx rfl (za rfl (yg (j := x.i) (b := bAt s (x.i)) Tryd.underlying9 rfl rfl rfl (yt (by omega)) (za rfl (qj rfl rfl (rnx (zt rfl (fun h6 => ?_) (fun h6 => ?_)))))))))
         ·
          have h6 : bAt s x.i ≠ 48 := fun e => absurd h6 (by rw [e]; decide);rw [if_pos h6] at hst;rw [hst] at hkeep hu2;refine zj (mvx rfl (za rfl (zg rfl (za rfl (zb Tryd.underlying125 rfl sz4 (by decide) rfl (yu (qa sz4 rfl rfl Ba rfl rfl (in_ hlx (by decide : 803 < 804)) (ydk hlx true) ?_)))))));intro w15 Bx Ea
          replace Ba : Blk w15 ga 125 (yz { x.t with tr := true }) := Bx;replace E := E.step1 Ea Mut.head;refine rnx (yo (yw rfl (zh (zu (ze (zj (mvx rfl (za rfl (yh rfl rfl (zo (by omega)) (avx rfl (yd (yr 5 (.int .i64 ((x.i + 1 : Nat) : Int)) rfl (rfl) ?_))))))))))))
          exact yn ({ x with i := x.i + 1, dig := true, t := { x.t with tr := true } }) (by show Z - (x.i + 1) < Z - x.i; omega) ⟨rfl, rfl, rfl, rfl, rfl, rfl, trivial⟩ ⟨M8.step E XM8, (by exact Ba), hkeep, hu2⟩
         ·
          have h6 : bAt s x.i = 48 := by
           rcases Nat.decEq (bAt s x.i) 48 with h7 | h7
           · rw [bne_iff_ne.2 (by omega)] at h6; cases h6
           · exact h7
          rw [if_neg (fun h => h h6)] at hst;rw [hst] at hkeep hu2;refine zk (ze (yo (yw rfl (zh (zu (ze (zj (mvx rfl (za rfl (yh rfl rfl (zo (by omega)) (avx rfl (yd (yr 5 (.int .i64 ((x.i + 1 : Nat) : Int)) rfl (rfl) ?_)))))))))))))
          exact yn ({ x with i := x.i + 1, dig := true, t := { x.t with tr := x.t.tr } }) (by show Z - (x.i + 1) < Z - x.i; omega) ⟨rfl, rfl, rfl, rfl, rfl, rfl, trivial⟩ ⟨M8.step E XM8, (by exact Ba), hkeep, hu2⟩
      ·
       have hnz : ¬ (bAt s x.i = 48 ∧ x.t.nd = 0) := fun h => absurd h3 (by rw [h.1]; decide)
       refine za rfl (zc rfl (za rfl (zc rfl (za rfl (zc rfl (za rfl (zc rfl (za rfl (zc rfl (za rfl (yb rfl rfl (rnx (zx rfl (zk (ze (zf (srx (mvx rfl (za rfl (zg rfl (za rfl (zb Tryd.underlying125 rfl sz3 (by decide) rfl (za rfl (zl Tryd.underlying3 rfl rfl Ba (xm hlx (x.t.nd) rfl) (za rfl (yv rfl rfl (rnx (zt rfl (fun h5 => ?_) (fun h5 => ?_)))))))))))))))))))))))))))))
       ·
        have h5 : x.t.nd < 800 := by have h5 := of_decide_eq_true h5; omega
        have hst := putIn hdot hnz h5;have hst2 : (x.t.d.set x.t.nd (bAt s x.i)).length = 800 := by rw [List.length_set]; exact hlx
        have hly : ({ x.t with d := x.t.d.set x.t.nd (bAt s x.i) } : Dec).d.length = 800 := hst2;rw [hst] at hkeep hu2;refine zf ?_;have OY : ∀ q9, (Mut (xw [])) q9 → q9 < (World.drew w9).heap.size → (Mut [(some ga)]) q9 := fun k h _ => (Mut.none_) k h;refine ygv mixed (yhv 11 rfl ?_)
        refine zox (Mut [(some ga)]) (Mut.grow Mut.none_ (yj Ba.lt)) [] [] (xy [Fx.of (.pointer (some ⟨ga, 0, none⟩)),
         Fx.of (.pointer (some ⟨ga, 0, none⟩)),
         Fx.of (.pointer (some ⟨ga, 0, none⟩)),
         Fx.of (.pointer (some ⟨ga, 800, none⟩)),
         Fx.of (.int .i64 ((x.t.nd : Nat) : Int)),
         Fx.of (.string s),
         Fx.of (.int .i64 ((x.i : Nat) : Int)),
         Fx.of (.int .u8 ((bAt s x.i : Nat) : Int)),
         Fx.of (.pointer (some ⟨ga, 0, none⟩)),
         Fx.of (.pointer (some ⟨ga, 0, none⟩)),
         Fx.of (.pointer (some ⟨ga, x.t.nd, none⟩))]) rfl trivial (fun _ h => by cases h) ?_ ?_
        · refine ⟨?_, ?_, ?_, ?_, ?_, ?_, ?_, ?_, ?_, ?_, ?_, trivial⟩
          · intro vs X wq K;exact zn rfl ⟨Below.refl _ _, Left.of rfl⟩
          · intro vs X wq K;exact zn rfl ⟨Below.refl _ _, Left.of rfl⟩
          · intro vs X wq K;obtain ⟨_, e1, k1⟩ := K.dep 1 rfl rfl rfl;refine zi 93 (.pointer (some ⟨ga, 0, none⟩)) rfl e1 ?_;exact zg rfl ⟨Below.refl _ _, Left.of rfl⟩
          · intro vs X wq K;obtain ⟨_, e2, k2⟩ := K.dep 2 rfl rfl rfl;refine zi 94 (.pointer (some ⟨ga, 0, none⟩)) rfl e2 ?_;exact zb Tryd.underlying125 rfl sz3 (by decide) rfl ⟨Below.refl _ _, Left.of rfl⟩
          · intro vs X wq K;have LE := K.1;obtain ⟨_, e3, k3⟩ := K.dep 3 rfl rfl rfl;refine zi 95 (.pointer (some ⟨ga, 800, none⟩)) rfl e3 ?_;exact zl Tryd.underlying3 rfl rfl (Ba.drew.extN LE NotIn.nil) (xm hlx x.t.nd rfl) ⟨Below.refl _ _, Left.of rfl⟩
          · intro vs X wq K;exact zn rfl ⟨Below.refl _ _, Left.of rfl⟩
          · intro vs X wq K;exact zn rfl ⟨Below.refl _ _, Left.of rfl⟩
          · intro vs X wq K;obtain ⟨_, e5, k5⟩ := K.dep 5 rfl rfl rfl;refine zi 97 (.string s) rfl e5 ?_;obtain ⟨_, e6, k6⟩ := K.dep 6 rfl rfl rfl;refine zi 98 (.int .i64 ((x.i : Nat) : Int)) rfl e6 ?_;exact yg (j := x.i) (b := bAt s x.i) Tryd.underlying9 rfl rfl rfl (yt (by omega)) ⟨Below.refl _ _, Left.of rfl⟩
          · intro vs X wq K;obtain ⟨_, e0, k0⟩ := K.dep 0 rfl rfl rfl;refine zi 92 (.pointer (some ⟨ga, 0, none⟩)) rfl e0 ?_;exact zg rfl ⟨Below.refl _ _, Left.of rfl⟩
          · intro vs X wq K;obtain ⟨_, e8, k8⟩ := K.dep 8 rfl rfl rfl;refine zi 100 (.pointer (some ⟨ga, 0, none⟩)) rfl e8 ?_;exact zb Tryd.underlying125 rfl xt (by decide) rfl ⟨Below.refl _ _, Left.of rfl⟩
          · intro vs X wq K;obtain ⟨_, e9, k9⟩ := K.dep 9 rfl rfl rfl;refine zi 101 (.pointer (some ⟨ga, 0, none⟩)) rfl e9 ?_;obtain ⟨_, e4, k4⟩ := K.dep 4 rfl rfl rfl;refine zi 96 (.int .i64 ((x.t.nd : Nat) : Int)) rfl e4 ?_;exact qm (j := x.t.nd) Tryd.underlying123 sz5 rfl rfl rfl (by omega) ⟨Below.refl _ _, Left.of rfl⟩
        intro vs w16 LE AO AL AF AA;have LBa := Ba;replace Ba := Ba.drew.extN LE NotIn.nil;replace E := E.drew.trans (LE.mono OY);obtain ⟨_, e7, k7⟩ := AL.2.2.2.2.2.2.2.1;obtain ⟨_, e10, k10⟩ := AL.2.2.2.2.2.2.2.2.2.2.1
        refine ja (τ := [(0, _), (1, _), (4, _), (5, _), (6, _), (7, _), (99, .int .u8 ((bAt s x.i : Nat) : Int)), (102, .pointer (some ⟨ga, x.t.nd, none⟩))]) ⟨rfl, rfl, rfl, rfl, rfl, rfl, congrArg some e7, congrArg some e10, trivial⟩ ?_;clear AL AF AA LE AO OY e7 e10 k7 k10 LBa
        refine ew_ak (zgq (by kernel_rfl) (fun _ _ d_ _ _ h => by cases d_ <;> exact h) (yu (qa sz5 rfl rfl Ba rfl rfl (in_ hlx (by omega)) (set_d hlx (by omega)) ?_)));intro w17 Bx Ea;replace Ba : Blk w17 ga 125 (yz { x.t with d := x.t.d.set x.t.nd (bAt s x.i) }) := Bx;replace E := E.step1 Ea Mut.head
        refine rnx (zj (mvx rfl (za rfl (zg rfl (za rfl (zb Tryd.underlying125 rfl sz3 (by decide) rfl (za rfl (zl Tryd.underlying3 rfl rfl Ba (xm hly (x.t.nd) rfl) (za rfl (yh rfl rfl (zo (by omega)) (za rfl (zg rfl (za rfl (zb Tryd.underlying125 rfl sz3 (by decide) rfl (yc 107 (.int .i64 ((x.t.nd + 1 : Nat) : Int)) rfl (rfl) (yu (qa sz3 rfl rfl Ba rfl rfl (in_ hly (by decide : 800 < 804)) (ydv hly (x.t.nd + 1)) ?_)))))))))))))))))
        intro w18 Bx Ea;replace Ba : Blk w18 ga 125 (yz { x.t with d := x.t.d.set x.t.nd (bAt s x.i), nd := x.t.nd + 1 }) := Bx;replace E := E.step1 Ea Mut.head
        refine rnx (yo (yw rfl (zh (zu (ze (zj (mvx rfl (za rfl (yh rfl rfl (zo (by omega)) (avx rfl (yd (yr 5 (.int .i64 ((x.i + 1 : Nat) : Int)) rfl (rfl) ?_))))))))))))
        exact yn ({ x with i := x.i + 1, dig := true, t := { x.t with d := x.t.d.set x.t.nd (bAt s x.i), nd := x.t.nd + 1 } }) (by show Z - (x.i + 1) < Z - x.i; omega) ⟨rfl, rfl, rfl, rfl, rfl, rfl, trivial⟩ ⟨M8.step E XM8, (by exact Ba), hkeep, hu2⟩
       ·
        have h5 : ¬ x.t.nd < 800 := by have h5 := of_decide_eq_false h5; omega
        have hst := putOut hdot hnz h5;refine srx (mvx rfl (mvx rfl (za rfl (yg (j := x.i) (b := bAt s (x.i)) Tryd.underlying9 rfl rfl rfl (yt (by omega)) (za rfl (qj rfl rfl (rnx (zt rfl (fun h6 => ?_) (fun h6 => ?_)))))))))
        ·
         have h6 : bAt s x.i ≠ 48 := fun e => absurd h6 (by rw [e]; decide);rw [if_pos h6] at hst;rw [hst] at hkeep hu2;refine zj (mvx rfl (za rfl (zg rfl (za rfl (zb Tryd.underlying125 rfl sz4 (by decide) rfl (yu (qa sz4 rfl rfl Ba rfl rfl (in_ hlx (by decide : 803 < 804)) (ydk hlx true) ?_)))))));intro w19 Bx Ea
         replace Ba : Blk w19 ga 125 (yz { x.t with tr := true }) := Bx;replace E := E.step1 Ea Mut.head;refine rnx (yo (yw rfl (zh (zu (ze (zj (mvx rfl (za rfl (yh rfl rfl (zo (by omega)) (avx rfl (yd (yr 5 (.int .i64 ((x.i + 1 : Nat) : Int)) rfl (rfl) ?_))))))))))))
         exact yn ({ x with i := x.i + 1, dig := true, t := { x.t with tr := true } }) (by show Z - (x.i + 1) < Z - x.i; omega) ⟨rfl, rfl, rfl, rfl, rfl, rfl, trivial⟩ ⟨M8.step E XM8, (by exact Ba), hkeep, hu2⟩
        ·
         have h6 : bAt s x.i = 48 := by
          rcases Nat.decEq (bAt s x.i) 48 with h7 | h7
          · rw [bne_iff_ne.2 (by omega)] at h6; cases h6
          · exact h7
         rw [if_neg (fun h => h h6)] at hst;rw [hst] at hkeep hu2;refine zk (ze (yo (yw rfl (zh (zu (ze (zj (mvx rfl (za rfl (yh rfl rfl (zo (by omega)) (avx rfl (yd (yr 5 (.int .i64 ((x.i + 1 : Nat) : Int)) rfl (rfl) ?_)))))))))))))
         exact yn ({ x with i := x.i + 1, dig := true, t := { x.t with tr := x.t.tr } }) (by show Z - (x.i + 1) < Z - x.i; omega) ⟨rfl, rfl, rfl, rfl, rfl, rfl, trivial⟩ ⟨M8.step E XM8, (by exact Ba), hkeep, hu2⟩
    ·
     have e : x.i = Z := by omega
     have hb : bAt s x.i = 101 := by rw [e]; exact (hs.exp (by omega)).1
     have hdone : xk s x = true := by
      unfold xk;rw [Bool.or_eq_true];right
      rw [hb];rfl
     rw [qf hdone] at hu
     refine za rfl (ye rfl rfl (anx rfl (zv 40 (.bool false) rfl ((by rw [hb]; rfl : (.bool (((bAt s (x.i) : Nat) : Int) == 95) : Value) = _)) (zx rfl (srx (mvx rfl (mvx rfl (za rfl (yg (j := x.i) (b := bAt s (x.i)) Tryd.underlying9 rfl rfl rfl (yt (by omega)) (za rfl (ye rfl rfl (anx rfl (zv 45 (.bool false) rfl ((by rw [hb]; rfl : (.bool (((bAt s (x.i) : Nat) : Int) == 46) : Value) = _)) (zx rfl (srx (mvx rfl (mvx rfl (za rfl (yg (j := x.i) (b := bAt s (x.i)) Tryd.underlying9 rfl rfl rfl (yt (by omega)) (za rfl (gz rfl rfl (mvx rfl (yc 63 (.bool true) rfl ((by rw [hb]; rfl : (.bool (decide (48 ≤ ((bAt s (x.i) : Nat) : Int))) : Value) = _)) (onx rfl (zn rfl (onx rfl (zn rfl (onx rfl (yg (j := x.i) (b := bAt s (x.i)) Tryd.underlying9 rfl rfl rfl (yt (by omega)) (onx rfl (gz rfl rfl (za rfl (zw rfl rfl (anx rfl (zv 58 (.bool false) rfl ((by rw [hb]; rfl : (.bool (decide (((bAt s (x.i) : Nat) : Int) ≤ 57)) : Value) = _)) (zx rfl (zk (zm (ze (yo (yw rfl ?_)))))))))))))))))))))))))))))))))))))))))
     refine zh (zh (zu ?_));exact yq x ⟨rfl, rfl, rfl, rfl, rfl, rfl, trivial⟩ ⟨M6.step E XM6, (by exact Ba), hu⟩
   ·
    have h1 : ¬ x.i < s.size := by have h1 := of_decide_eq_false h1; omega
    have hdone : xk s x = true := by
     unfold xk;rw [decide_eq_true (by omega)]; rfl
    rw [qf hdone] at hu;refine yo (zh (zh (zu ?_)));exact yq x ⟨rfl, rfl, rfl, rfl, rfl, rfl, trivial⟩ ⟨M6.step E XM6, (by exact Ba), hu⟩
  ·
   have LTa := (yj Ba.lt);clear Ba;rintro x w7 ⟨M6, Ba, hx⟩;replace E := E.trans M6;replace LW := LW.step E XLW;replace E := erx (Mut [(some ga)]) w7;obtain ⟨hR, hRi⟩ := stA_ends neg hs;rw [← hx] at hR hRi;have hfp := hs.fp;have hpE := hs.pE;have hsE := hs.hE;have hdig : x.dig = true := hR.dg (by omega);have hlx := hR.dec.len;have hnx := hR.dec.hn;have hpp := hR.hp;have hti := hR.iE
   refine zf (srx (mvx rfl (za rfl (vv rfl (rnx (zv 118 (.bool false) rfl ((by rw [hdig]; rfl : (.bool (!x.dig) : Value) = _)) (zx rfl (zk (ze (zf (srx (mvx rfl (za rfl (vv rfl (rnx ?_)))))))))))))));replace LW := LW.step E XLW;replace E := erx (Mut [(some ga)]) w7
   refine qe (ι := Int) (fun d2 => [(0, .pointer (some ⟨ga, 0, none⟩)), (1, .string s), (4, .bool false), (5, .int .i64 ((x.i : Nat) : Int))]) (fun d2 w' => Ext (Mut [(some ga)]) w7 w' ∧ Blk w' ga 125 (yz { x.t with dp := d2 }) ∧ (d2 = (if x.dot then x.t.dp else ((x.t.nd : Nat) : Int)))) ?_ ?_
   ·
    have M20 := erx (Mut [(some ga)]) w7;have XM20 := grx (Mut [(some ga)]) w7;by_cases hdd : x.dot = true
    ·
     refine zv 120 (.bool false) rfl ((by rw [hdd]; rfl : (.bool (!x.dot) : Value) = _)) (zx rfl (zk ?_));replace Ba : Blk w7 ga 125 (yz { x.t with dp := x.t.dp }) := Ba;exact yq x.t.dp ⟨rfl, rfl, rfl, rfl, trivial⟩ ⟨M20.step E XM20, (by exact Ba), by rw [hdd, if_pos rfl]⟩
    ·
     refine zv 120 (.bool true) rfl ((by rw [Bool.eq_false_iff.2 hdd]; rfl : (.bool (!x.dot) : Value) = _)) (ym rfl (zj (mvx rfl (mvx rfl (za rfl (zg rfl (za rfl (zb Tryd.underlying125 rfl sz3 (by decide) rfl (za rfl (zl Tryd.underlying3 rfl rfl Ba (xm hlx (x.t.nd) rfl) (za rfl (zg rfl (za rfl (zb Tryd.underlying125 rfl sz3 (by decide) rfl (yu (qa sz3 rfl rfl Ba rfl rfl (in_ hlx (by decide : 801 < 804)) (zuq hlx ((x.t.nd : Nat) : Int)) ?_))))))))))))))))
     intro w22 Bx Ea;replace Ba : Blk w22 ga 125 (yz { x.t with dp := ((x.t.nd : Nat) : Int) }) := Bx;replace E := E.step1 Ea Mut.head;refine yd ?_;exact yq ((x.t.nd : Nat) : Int) ⟨rfl, rfl, rfl, rfl, trivial⟩ ⟨M20.step E XM20, (by exact Ba), by rw [if_neg hdd]⟩
   ·
    have LTa := (yj Ba.lt);clear Ba;rintro d2 w21 ⟨M20, Ba, hd2⟩;replace E := E.trans M20;replace LW := LW.step E XLW;replace E := erx (Mut [(some ga)]) w21;have hb2 : -100000 ≤ d2 ∧ d2 ≤ 100000 := by rw [hd2]; split <;> omega
    have hl2 : ({ x.t with dp := d2 } : Dec).d.length = 800 := hlx;have hP0 : setD s f neg = { x.t with dp := d2 + zbz s Z } := by unfold setD; rw [← hx, hRi, hd2]
    by_cases he : Z < s.size
    ·
     obtain ⟨hx1, hx2, hx3, hx4⟩ := hs.exp he;have hb : bAt s x.i = 101 := by rw [hRi]; exact hx1
     refine zf (srx (mvx rfl (mvx rfl (za rfl (qc Tryd.underlying9 rfl (za rfl (yv rfl rfl (mvx rfl (yc 132 (.bool true) rfl ((by rw [decide_eq_true (by omega)] : (.bool (decide (((x.i : Nat) : Int) < ((s.size : Nat) : Int))) : Value) = _)) (onx rfl (zn rfl (onx rfl (zn rfl (onx rfl (yg (j := x.i) (b := bAt s (x.i)) Tryd.underlying9 rfl rfl rfl (yt (by omega)) (yc 135 (.int .u8 101) rfl ((by rw [hb]; rfl : (.int .u8 ((bAt s (x.i) : Nat) : Int) : Value) = _)) (onx rfl (ya en39 rfl ((pt39_1 _).mono ?_)))))))))))))))))))
     rintro e w23 ⟨rfl, hb⟩;refine ⟨_, rfl, ?_⟩;have Ec := Ext.of_below hb No;replace Ba := Ba.extN Ec NotIn.nil;replace E := E.trans Ec.no
     refine onx rfl (ye rfl rfl (za rfl (zw rfl rfl (rnx (ym rfl (srx (mvx rfl (za rfl (yh rfl rfl (zo (by omega)) (anx rfl (zf (srx (mvx rfl (mvx rfl (za rfl (qc Tryd.underlying9 rfl (za rfl (vk rfl rfl (rnx (zv 144 (.bool false) rfl ((by rw [decide_eq_false (by omega)] : (.bool (decide (((s.size : Nat) : Int) ≤ (((x.i : Nat) : Int) + 1))) : Value) = _)) (zx rfl (zk (ze (srx (anx rfl (zf (srx (mvx rfl (mvx rfl (za rfl (yg (j := x.i + 1) (b := bAt s (x.i + 1)) Tryd.underlying9 rfl rfl rfl (yt (by omega)) ?_)))))))))))))))))))))))))))))))
     rw [← hRi] at hx2;refine rnx ?_;replace LW := LW.step E XLW;replace E := erx (Mut [(some ga)]) w23
     refine qe (ι := Nat × Int) (fun (k, g) => [(0, .pointer (some ⟨ga, 0, none⟩)), (1, .string s), (4, .bool false), (5, .int .i64 ((k : Nat) : Int)), (8, .int .i64 g)]) (fun (k, g) w' => Ext (Mut [(some ga)]) w23 w' ∧ Blk w' ga 125 (yz { x.t with dp := d2 }) ∧ (k = q ∧ g = (if bAt s (x.i + 1) = 45 then -1 else 1))) ?_ ?_
     ·
      have M24 := erx (Mut [(some ga)]) w23;have XM24 := grx (Mut [(some ga)]) w23;refine zy (srx (za rfl (ye rfl rfl (anx rfl ?_))));by_cases c43 : bAt s (x.i + 1) = 43
      ·
       refine zv 148 (.bool true) rfl ((by rw [c43]; rfl : (.bool (((bAt s (x.i + 1) : Nat) : Int) == 43) : Value) = _)) (ym rfl (zj (mvx rfl (za rfl (yh rfl rfl (zo (by omega)) (avx rfl (yd (zm ?_))))))));exact yq (x.i + 2, 1) ⟨rfl, rfl, rfl, rfl, rfl, trivial⟩ ⟨M24.step E XM24, (by exact Ba), by omega, by rw [if_neg (by omega)]⟩
      ·
       refine zv 148 (.bool false) rfl ((by rw [vx (by omega)] : (.bool (((bAt s (x.i + 1) : Nat) : Int) == 43) : Value) = _)) (zx rfl (srx (za rfl (ye rfl rfl (anx rfl ?_)))));by_cases c45 : bAt s (x.i + 1) = 45
       ·
        refine zv 152 (.bool true) rfl ((by rw [c45]; rfl : (.bool (((bAt s (x.i + 1) : Nat) : Int) == 45) : Value) = _)) (ym rfl (srx (mvx rfl (za rfl (yh rfl rfl (zo (by omega)) (anx rfl (zj (avx rfl (yd (zm ?_))))))))))
        exact yq (x.i + 2, -1) ⟨rfl, rfl, rfl, rfl, rfl, trivial⟩ ⟨M24.step E XM24, (by exact Ba), by omega, by rw [if_pos c45]⟩
       ·
        refine zv 152 (.bool false) rfl ((by rw [vx (by omega)] : (.bool (((bAt s (x.i + 1) : Nat) : Int) == 45) : Value) = _)) (zx rfl (zk (zm ?_)));exact yq (x.i + 1, 1) ⟨rfl, rfl, rfl, rfl, rfl, trivial⟩ ⟨M24.step E XM24, (by exact Ba), by omega, by rw [if_neg c45]⟩
     ·
      have LTa := (yj Ba.lt);clear Ba;rintro ⟨k, g⟩ w25 ⟨M24, Ba, ⟨hk, hg⟩⟩;replace E := E.trans M24;replace LW := LW.step E XLW;replace E := erx (Mut [(some ga)]) w25;subst hk;have hdq := hx4 k (Nat.le_refl _) hx3
      refine zf (srx (mvx rfl (mvx rfl (za rfl (qc Tryd.underlying9 rfl (za rfl (vk rfl rfl (mvx rfl (yc 160 (.bool false) rfl ((by rw [decide_eq_false (by omega)] : (.bool (decide (((s.size : Nat) : Int) ≤ ((k : Nat) : Int))) : Value) = _)) (onx rfl (zn rfl (onx rfl (zn rfl (onx rfl (yg (j := k) (b := bAt s (k)) Tryd.underlying9 rfl rfl rfl (yt (by omega)) (onx rfl (yv rfl rfl (za rfl (yb rfl rfl (mvx rfl (yc 166 (.bool false) rfl ((by rw [decide_eq_false (by omega)] : (.bool (decide (((bAt s (k) : Nat) : Int) < 48)) : Value) = _)) (onx rfl (zn rfl (onx rfl (zn rfl (onx rfl (yg (j := k) (b := bAt s (k)) Tryd.underlying9 rfl rfl rfl (yt (by omega)) (onx rfl (qo rfl rfl (za rfl (yb rfl rfl (rnx (zv 171 (.bool false) rfl ((by rw [decide_eq_false (by omega)] : (.bool (decide (57 < ((bAt s (k) : Nat) : Int))) : Value) = _)) (zx rfl (zk (ze (srx (anx rfl (zf ?_)))))))))))))))))))))))))))))))))))))))
      replace LW := LW.step E XLW;replace E := erx (Mut [(some ga)]) w25;refine qe (ι := ExS) (fun y => [(0, .pointer (some ⟨ga, 0, none⟩)), (1, .string s), (4, .bool false), (5, .int .i64 ((y.i : Nat) : Int)), (8, .int .i64 g), (9, .int .i64 ((y.e : Nat) : Int))]) (fun y w' => Ext (Mut [(some ga)]) w25 w' ∧ Blk w' ga 125 (yz { x.t with dp := d2 }) ∧ (y = exA s k)) ?_ ?_
      ·
       have M26 := erx (Mut [(some ga)]) w25;have XM26 := grx (Mut [(some ga)]) w25;refine zy ?_;replace M26 := M26.step E XM26;replace E := erx (Mut [(some ga)]) w25
       refine qq (ι := ExS) (fun y => [(0, .pointer (some ⟨ga, 0, none⟩)), (1, .string s), (4, .bool false), (5, .int .i64 ((y.i : Nat) : Int)), (8, .int .i64 g), (9, .int .i64 ((y.e : Nat) : Int))]) (fun y w' => Ext (Mut [(some ga)]) w25 w' ∧ Blk w' ga 125 (yz { x.t with dp := d2 }) ∧ (ExI s k y ∧ qt (kp s) (oa s) y = exA s k)) (fun y => s.size - y.i) (⟨k, 0⟩) ⟨rfl, rfl, rfl, rfl, rfl, rfl, trivial⟩ ⟨Ext.refl _ _, (by exact Ba), ⟨⟨Nat.le_refl _, Nat.le_of_lt hx3⟩, by show 0 < 100000; decide⟩, rfl⟩ ?_
       have LTa := (yj Ba.lt);clear Ba;rintro y w29 ⟨M28, Ba, ⟨hI, hu⟩⟩;have XM28 : Gro (Mut [(some ga)]) (Mut [(some ga)]) w25 := (Mut.grow Mut.none_ (fun k e => Or.inl (Mut.head k e)));replace E := E.trans M28;replace M26 := M26.step E XM26;replace E := erx (Mut [(some ga)]) w29;have hhi := hI.hi;have hhe := hI.he
       refine zf (srx (mvx rfl (mvx rfl (za rfl (qc Tryd.underlying9 rfl (za rfl (yv rfl rfl (mvx rfl (yp 176 rfl (fun h7 => ?_) (fun h7 => ?_))))))))))
       ·
        have h7 : y.i < s.size := by have h7 := of_decide_eq_true h7; omega
        have hc := hx4 y.i hhi.1 h7;have hdone : kp s y = false := by unfold kp; rw [decide_eq_false (by omega), zrx hc]; rfl
        have hkeep := (ex_keeps hI hdone).1;rw [qv hdone] at hu
        refine onx rfl (zn rfl (onx rfl (zn rfl (onx rfl (yg (j := y.i) (b := bAt s (y.i)) Tryd.underlying9 rfl rfl rfl (yt (by omega)) (onx rfl (gz rfl rfl (onx rfl (zn rfl (yc 181 (.bool true) rfl ((by rw [decide_eq_true (by omega)] : (.bool (decide (48 ≤ ((bAt s (y.i) : Nat) : Int))) : Value) = _)) (onx rfl (zn rfl (onx rfl (zn rfl (onx rfl (yg (j := y.i) (b := bAt s (y.i)) Tryd.underlying9 rfl rfl rfl (yt (by omega)) (onx rfl (gz rfl rfl (onx rfl (zw rfl rfl (onx rfl (zn rfl (yc 187 (.bool true) rfl ((by rw [decide_eq_true (by omega)] : (.bool (decide (((bAt s (y.i) : Nat) : Int) ≤ 57)) : Value) = _)) (za rfl (zc rfl (za rfl (zc rfl (za rfl (zc rfl (za rfl (zc rfl (onx rfl (zw rfl rfl (za rfl (zw rfl rfl (rnx (ym rfl (zk (ze (zf (zy (zf (srx (mvx rfl (mvx rfl (za rfl (yg (j := y.i) (b := bAt s (y.i)) Tryd.underlying9 rfl rfl rfl (yt (by omega)) (za rfl (ye rfl rfl (rnx (zv 199 (.bool false) rfl ((by rw [vx (by omega)] : (.bool (((bAt s (y.i) : Nat) : Int) == 95) : Value) = _)) (zx rfl (zk (ze (zf ?_)))))))))))))))))))))))))))))))))))))))))))))))))))))))
        refine zj (mvx rfl (za rfl (yv rfl rfl (rnx (zt rfl (fun h8 => ?_) (fun h8 => ?_))))))
        ·
         have h8 : y.e < 10000 := by have h8 := of_decide_eq_true h8; omega
         have hstep : oa s y = ⟨y.i + 1, y.e * 10 + (bAt s y.i - 48)⟩ := by unfold oa; rw [if_pos h8]
         rw [hstep] at hkeep hu
         refine zj (mvx rfl (za rfl (gy rfl rfl (zo (by omega)) (mvx rfl (mvx rfl (za rfl (yg (j := y.i) (b := bAt s (y.i)) Tryd.underlying9 rfl rfl rfl (yt (by omega)) (za rfl (vd Tryd.underlying3 Tryd.underlying5 rfl (zo (by omega)) (za rfl (yh rfl rfl (zo (by omega)) (za rfl (yx rfl rfl (zo (by omega)) (avx rfl (yd (zm (ze (zj (mvx rfl (za rfl (yh rfl rfl (zo (by omega)) (avx rfl (yd (yr 9 (.int .i64 ((y.e * 10 + (bAt s y.i - 48) : Nat) : Int)) rfl ((by congr 1; omega : (.int .i64 (((((y.e : Nat) : Int) * 10) + ((bAt s (y.i) : Nat) : Int)) - 48) : Value) = _)) ?_))))))))))))))))))))))))
         exact yn (⟨y.i + 1, y.e * 10 + (bAt s y.i - 48)⟩) (by show s.size - (y.i + 1) < s.size - y.i; omega) ⟨rfl, rfl, rfl, rfl, rfl, rfl, trivial⟩ ⟨M28.step E XM28, (by exact Ba), hkeep, hu⟩
        ·
         have h8 : ¬ y.e < 10000 := by have h8 := of_decide_eq_false h8; omega
         have hstep : oa s y = ⟨y.i + 1, y.e⟩ := by unfold oa; rw [if_neg h8]
         rw [hstep] at hkeep hu;refine zk (zm (ze (zj (mvx rfl (za rfl (yh rfl rfl (zo (by omega)) (avx rfl (yd ?_))))))));exact yn (⟨y.i + 1, y.e⟩) (by show s.size - (y.i + 1) < s.size - y.i; omega) ⟨rfl, rfl, rfl, rfl, rfl, rfl, trivial⟩ ⟨M28.step E XM28, (by exact Ba), hkeep, hu⟩
       ·
        have h7 : ¬ y.i < s.size := by have h7 := of_decide_eq_false h7; omega
        have hdone : kp s y = true := by unfold kp; rw [decide_eq_true (by omega)]; rfl
        rw [qf hdone] at hu
        refine za rfl (zc rfl (za rfl (zc rfl (za rfl (zc rfl (za rfl (zc rfl (za rfl (zc rfl (za rfl (qr rfl rfl (za rfl (qr rfl rfl (za rfl (qr rfl rfl (za rfl (qr rfl rfl (za rfl (zc rfl (za rfl (zc rfl (za rfl (qr rfl rfl (za rfl (qr rfl rfl (za rfl (qr rfl rfl (za rfl (qr rfl rfl (za rfl (zc rfl (za rfl (yb rfl rfl (rnx (zx rfl (yo (zh (zh (zu ?_)))))))))))))))))))))))))))))))))))))))
        exact yq y ⟨rfl, rfl, rfl, rfl, rfl, rfl, trivial⟩ ⟨M26.step E XM26, (by exact Ba), hu⟩
      ·
       have LTa := (yj Ba.lt);clear Ba;rintro y w27 ⟨M26, Ba, hy⟩;replace E := E.trans M26;replace LW := LW.step E XLW;replace E := erx (Mut [(some ga)]) w27;obtain ⟨hI, hdx⟩ := znz (s := s) (q := k) (by omega);rw [← hy] at hI hdx;have hxi := ex_out hx4 hI hdx;have hxe := hI.he;have hX : IntKind.i64.wrap (((y.e : Nat) : Int) * g) = zbz s Z := by
        have e9 : zbz s Z = ((y.e : Nat) : Int) * g := by
         unfold zbz;rw [if_neg (by omega), ← hRi, hg, hy];rcases hx2 with ⟨h9, h10, h11⟩ | ⟨h9, h10⟩
         · rw [if_neg h11, if_neg h10, if_neg h11, ← h9, Int.mul_one]
         · rcases h10 with h10 | h10
           · rw [if_neg (by omega), if_pos h10, if_neg (by omega), ← h9, Int.mul_one]
           · rw [if_pos h10, if_pos h10, ← h9, Int.mul_neg, Int.mul_one]
        have h12 := ybx hs;rw [← e9];exact zo (by omega)
       have h12 := ybx hs
       refine zj (mvx rfl (za rfl (zg rfl (za rfl (zb Tryd.underlying125 rfl sz3 (by decide) rfl (za rfl (zl Tryd.underlying3 rfl rfl Ba (znq hl2 d2 rfl) (mvx rfl (mvx rfl (za rfl (gy rfl rfl hX (za rfl (yh rfl rfl (zo (by omega)) (za rfl (zg rfl (za rfl (zb Tryd.underlying125 rfl sz3 (by decide) rfl (yu (qa sz3 rfl rfl Ba rfl rfl (in_ hl2 (by decide : 801 < 804)) (zuq hl2 (d2 + zbz s Z)) ?_)))))))))))))))))))
       intro w30 Bx Ea;replace Ba : Blk w30 ga 125 (yz { x.t with dp := d2 + zbz s Z }) := Bx;replace E := E.step1 Ea Mut.head
       refine rnx (zf (srx (mvx rfl (mvx rfl (za rfl (qc Tryd.underlying9 rfl (za rfl (qj rfl rfl (rnx (zv 223 (.bool false) rfl ((by rw [hxi]; simp : (.bool (((y.i : Nat) : Int) != ((s.size : Nat) : Int)) : Value) = _)) (zx rfl (zk (ze (srx (anx rfl (zr (zq (rs := [.tmp 4]) (vs := [_]) rfl ⟨rfl, trivial⟩ ?_)))))))))))))))))
       exact ⟨rfl, by rw [hP0]; exact Ba, (LW.step E XLW)⟩
    ·
     have hz : zbz s Z = 0 := by unfold zbz; rw [if_pos (by omega)]
     refine zf (srx (mvx rfl (mvx rfl (za rfl (qc Tryd.underlying9 rfl (za rfl (yv rfl rfl (mvx rfl (yc 132 (.bool false) rfl ((by rw [decide_eq_false (by omega)] : (.bool (decide (((x.i : Nat) : Int) < ((s.size : Nat) : Int))) : Value) = _)) (za rfl (zc rfl (za rfl (zc rfl (za rfl (zc rfl (za rfl (zc rfl (za rfl (zc rfl (za rfl (yb rfl rfl (rnx (zx rfl (zk (ze (zf (srx (mvx rfl (mvx rfl (za rfl (qc Tryd.underlying9 rfl (za rfl (qj rfl rfl (rnx (zv 223 (.bool false) rfl ((by rw [show x.i = s.size by omega]; simp : (.bool (((x.i : Nat) : Int) != ((s.size : Nat) : Int)) : Value) = _)) (zx rfl (zk (ze (srx (anx rfl (zr (zq (rs := [.tmp 4]) (vs := [_]) rfl ⟨rfl, trivial⟩ ?_))))))))))))))))))))))))))))))))))))))))))
     exact ⟨rfl, by rw [hP0, hz, Int.add_zero]; exact Ba, (LW.step E XLW)⟩
end
end Go.Proofs.YtmjbnhjgebjhlaaDoor
namespace Go.Proofs.YtmjbnhjgebjhlaaDoor
open Go.RowKit
set_option maxRecDepth 100000
theorem run_equalIN {P : Program} {w : World} {T U : TypeId} {v : Value} {ms : Array (String × TypeId)} (hd : P.underlying T = some (.interface ms)) : (Op.equal T (.iface U v) .nilIface).run P w = .ok false w := by
 have e : Op.maxDepth = 9999 + 1 := rfl;have key : ∀ d : Nat, (Op.equalIn (d + 1) T (.iface U v) .nilIface).run P w = .ok false w := by
  intro d;rw [Op.equalIn];simp only [Sem.run_bind, run_underlying hd, Result.andThen_ok]
  rfl
 unfold Op.equal;rw [e];exact key 9999
theorem ow_neqI {P : Program} {N : Nat} {ops : Array Oper} {Q : Exit → Act → World → Prop} {σ : Env} {w : World} {ty : TypeId} {pos : String} {af : Array Edge} {dst : Option Nat} {Post : Value → World → Prop} {T U D : TypeId} {v : Value} {x : Operand} {ms : Array (String × TypeId)} (hd : P.underlying T = some (.interface ms)) (hx : ev σ x = some (.iface D v)) (k : Post (.bool true) w) : OW P N ops Q ⟨dst, .binOp .neq T x (.const .nilIface) U, ty, pos, af, none⟩ σ w Post :=
 qd (fun ρ ha => by
  have e := run_equalIN (P := P) (w := w) (U := D) (v := v) hd;have hc : ρ (.const .nilIface) = .nilIface := ha rfl;simp only [execOp, ha hx, hc, eqGuard, binOp]
  simp only [Bool.not_true, Bool.false_eq_true, if_false, Sem.run_bind, e, Result.andThen_ok, Sem.run_pure]
  rfl) k
theorem range_err (fn s : ByteArray) (base bits : Int) (w : World) (hl : s.size < 100000) (hv : ∃ te pe, w.cell? ⟨2, 0, none⟩ = some (.iface te pe)) :
 Calls Tryd.prog 32 #[.string fn, .string s, .int .i64 base, .int .i64 bits, rangeE] w fun e w' => (∃ er, e = .returned er) ∧ Below w.heap.size w w' := by
 obtain ⟨te, pe, hv⟩ := hv;refine (AnyPu.strconv_toError_range (ρ := Tryd.laysPu14_ren) { Tryd.laysPu14 with } fn s base bits (.iface te pe) w (by omega) hv (.inr ⟨te, pe, rfl⟩)).mono ?_;rintro e w' ⟨N, rfl, _, _, hb⟩;exact ⟨⟨_, rfl⟩, hb⟩
theorem zrDec : jh Tryd.prog 125 (.agg (yz (zjv false))) := by
 unfold yz decL;exact (by kernel_rfl : (Tryd.prog.info? 125).map (·.zero) = some (some (.agg ((zjv false).d.map (fun b => (.int .u8 ((b : Nat) : Int) : Value)) ++ ([.int .i64 (((zjv false).nd : Nat) : Int), .int .i64 (zjv false).dp, .bool (zjv false).neg, .bool (zjv false).tr] : List Value)).toArray)))
theorem kf {s : ByteArray} {k i : Nat} : bAt (s.extract k s.size) i = bAt s (k + i) := by
 unfold bAt;rw [ByteArray.data_extract, Array.getElem?_extract];by_cases h : i < s.size - k
 · rw [if_pos (by show i < min s.size s.data.size - k; rw [show s.data.size = s.size from rfl, Nat.min_self]; exact h)]
 · rw [if_neg (by show ¬ i < min s.size s.data.size - k; rw [show s.data.size = s.size from rfl, Nat.min_self]; exact h)];have : s.data[k + i]? = none := Array.getElem?_eq_none (by show s.size ≤ k + i; omega);rw [this]
theorem ykk (s : ByteArray) : s.extract 0 s.size = s := by
 apply ByteArray.ext
 rw [ByteArray.data_extract];exact Array.extract_eq_self_of_le (Nat.le_refl _)
theorem qi {s : ByteArray} {k : Nat} : (s.extract k s.size).size = s.size - k := by
 rw [ByteArray.size_extract, Nat.min_self]
theorem setD_dp {s : ByteArray} {f p Z q : Nat} (neg : Bool) (hs : Nm s f p Z q) (hl : s.size < 100000) : -20000000 ≤ (setD s f neg).dp ∧ (setD s f neg).dp ≤ 20000000 := by
 obtain ⟨h, hi⟩ := stA_ends neg hs;have h1 := h.hp;have h2 := h.dec.hn;have h3 := h.iE;have h4 := hs.hE;have h5 := ybx hs;rw [← hi] at h5;unfold setD
 show -20000000 ≤ (if (stA s f neg).dot = true then (stA s f neg).t.dp else (((stA s f neg).t.nd : Nat) : Int)) + zbz s (stA s f neg).i ∧ (if (stA s f neg).dot = true then (stA s f neg).t.dp else (((stA s f neg).t.nd : Nat) : Int)) + zbz s (stA s f neg).i ≤ 20000000
 split <;> omega
theorem ru_shift {s : ByteArray} {f i : Nat} : gm (s.extract f s.size) i = gm s (f + i) := by
 unfold gm;rw [kf, qi];congr 1
 exact decide_eq_decide.2 (by omega)
theorem run_shift {s : ByteArray} {f a : Nat} (h : f + a ≤ s.size) : xu s (f + a) = f + xu (s.extract f s.size) a := by
 obtain ⟨h1, h2⟩ := ku (s := s.extract f s.size) (a := a) (by rw [qi]; omega);have h3 := h1.lo;have h4 := h1.hi;rw [qi] at h4;refine runD_eq ⟨by omega, by omega, fun j hj hk => ?_⟩ (by rw [← ru_shift]; exact h2);have := h1.dig (j - f) (by omega) (by omega);rw [kf, show f + (j - f) = j by omega] at this;exact this
theorem extract_extract {s : ByteArray} {f k : Nat} : (s.extract f s.size).extract k (s.extract f s.size).size = s.extract (f + k) s.size := by
 rw [qi];apply ByteArray.ext
 rw [ByteArray.data_extract, ByteArray.data_extract, ByteArray.data_extract, Array.extract_extract];congr 1
 show min (f + (s.size - f)) s.size = s.size
 omega
theorem len_bytes (s : ByteArray) : s.toList.length = s.size := by rw [ByteArray.toList_eq]; rfl
theorem ykq {s : ByteArray} {k : Nat} : (s.extract k s.size).toList = [] ↔ s.size ≤ k := by
 have h := len_bytes (s.extract k s.size);rw [qi] at h;constructor
 · intro e;rw [e] at h;have h : 0 = s.size - k := h;omega
 · intro e;exact List.eq_nil_of_length_eq_zero (by omega)
theorem at_bytes (s : ByteArray) (i : Nat) : (s.toList[i]?).map (·.toNat) = (s.data[i]?).map (·.toNat) := by
 rw [ByteArray.toList_eq, Array.getElem?_toList]
theorem list_one {s : ByteArray} {c : UInt8} (h0 : 0 < s.size) : ((s.extract 0 1).toList == [c]) = decide (bAt s 0 = c.toNat) := by
 have hl := len_bytes (s.extract 0 1);rw [ByteArray.size_extract, Nat.sub_zero, Nat.min_eq_left (by omega)] at hl;obtain ⟨d, hd⟩ := List.length_eq_one_iff.1 hl;have h1 := at_bytes (s.extract 0 1) 0;rw [hd] at h1;have h2 : (s.extract 0 1).data[0]? = s.data[0]? := by
  rw [ByteArray.data_extract, Array.getElem?_extract, if_pos (by show 0 < min 1 s.size - 0; omega), Nat.zero_add]
 rw [h2, yt h0] at h1;have h1 : d.toNat = bAt s 0 := Option.some.inj h1;rw [hd, ← h1];by_cases h : d = c
 · subst h; simp
 · rw [decide_eq_false (fun e => h (UInt8.toNat_inj.1 e))];simp [h]
end Go.Proofs.YtmjbnhjgebjhlaaDoor
namespace Go.Proofs.YtmjbnhjgebjhlaaDoor
open Go.RowKit
set_option maxRecDepth 100000
attribute [local irreducible] OW RS
theorem shl63 (neg : Bool) : IntKind.u64.wrap (((b2n neg : Nat) : Int) * 2 ^ (min (63 : Int).toNat IntKind.u64.bits)) = ((sgB neg : Nat) : Int) := by
 cases neg <;> decide +kernel
section
variable (w : World) {bp op cp bf of cf bl ol cl : Nat}
theorem common_digit (s : ByteArray) (h : 48 ≤ bAt s 0 ∧ bAt s 0 ≤ 57) : Calls Tryd.prog 67 #[.string s, .string ⟨#[105, 110, 102, 105, 110, 105, 116, 121]⟩] w fun e w' => e = .returned (.int .i64 0) ∧ Below w.heap.size w w' := by
 have hs : 0 < s.size := zak (by omega);refine yk Tryd.func67 rfl Tryd.ntmps67 rfl ?_;have LW := erx (No) w;have XLW := grx (No) w;have E := erx (No) w
 refine srx (anx rfl (srx (mvx rfl (za rfl (qc Tryd.underlying9 rfl (mvx rfl (za rfl (qc Tryd.underlying9 rfl (za rfl (ow_min rfl rfl (anx rfl (zf (srx (anx rfl (zy (cw_unroll (zf (srx (mvx rfl (mvx rfl (za rfl (yv rfl rfl (rnx (zv 15 (.bool true) rfl ((by rw [decide_eq_true (by split <;> omega)] : (.bool (decide (0 < (if ((s.size : Nat) : Int) < 8 then ((s.size : Nat) : Int) else 8))) : Value) = _)) (ym rfl (zk (ze (zf (zy (srx (mvx rfl ?_)))))))))))))))))))))))))))))))
 refine mvx rfl (za rfl (yg (j := 0) (b := bAt s 0) Tryd.underlying9 rfl rfl rfl (yt hs) (anx rfl (zf (srx (mvx rfl (za rfl (gz rfl rfl (mvx rfl (yc 23 (.bool false) rfl ((by rw [decide_eq_false (by omega)] : (.bool (decide (65 ≤ ((bAt s 0 : Nat) : Int))) : Value) = _)) (za rfl (zc rfl (za rfl (zc rfl (za rfl (yb rfl rfl (rnx (zx rfl (zk (ze (srx (mvx rfl (mvx rfl (mvx rfl (za rfl (yg (j := 0) (b := 105) Tryd.underlying9 rfl rfl rfl (by kernel_rfl) (za rfl (qj rfl rfl (rnx (zv 33 (.bool true) rfl ((by rw [bne_iff_ne.2 (by omega)] : (.bool (((bAt s 0 : Nat) : Int) != 105) : Value) = _)) (ym rfl (srx (mvx rfl (anx rfl (zr (zp (zd ?_)))))))))))))))))))))))))))))))))))))
 refine zd (zp (zd (zq (rs := [.tmp 4]) (vs := [_]) rfl ⟨rfl, trivial⟩ ?_)));exact ⟨rfl, (LW.step E XLW).toBelow⟩
theorem special_neg (s : ByteArray) (h45 : bAt s 0 = 45) (h : 48 ≤ bAt s 1 ∧ bAt s 1 ≤ 57) : Calls Tryd.prog 53 #[.string s] w fun e w' => e = .returned (.tuple #[.float .f64 0, .int .i64 0, .bool false]) ∧ Below w.heap.size w w' := by
 have hs : 1 < s.size := zak (by omega);refine yk Tryd.func53 rfl Tryd.ntmps53 rfl ?_;have LW := erx (No) w;have XLW := grx (No) w;have E := erx (No) w
 refine srx (avx rfl (avx rfl (anx rfl (zf (srx (mvx rfl (za rfl (qc Tryd.underlying9 rfl (za rfl (ye rfl rfl (rnx (zv 10 (.bool false) rfl ((by rw [vx (by omega)] : (.bool (((s.size : Nat) : Int) == 0) : Value) = _)) (zx rfl (zk (ze (srx (anx rfl (srx (anx rfl (zf (srx (mvx rfl (za rfl (yg (j := 0) (b := bAt s 0) Tryd.underlying9 rfl rfl rfl (yt (by omega)) (yc 12 (.int .u8 45) rfl ((by rw [h45]; rfl : (.int .u8 ((bAt s 0 : Nat) : Int) : Value) = _)) (rnx (zy (zf (zy ?_)))))))))))))))))))))))))))))
 refine zf (zy (zf (zy (zf (zf (zf (srx (za rfl (ye rfl rfl (anx rfl (zx rfl (zj (za rfl (ye rfl rfl (anx rfl (ym rfl (yo (zh (zh (zu (ze (zf (srx (mvx rfl (za rfl (yg (j := 0) (b := bAt s 0) Tryd.underlying9 rfl rfl rfl (yt (by omega)) (yc 23 (.int .u8 45) rfl ((by rw [h45]; rfl : (.int .u8 ((bAt s 0 : Nat) : Int) : Value) = _)) (za rfl (ye rfl rfl (rnx (ym rfl (zj (anx rfl (zf ?_))))))))))))))))))))))))))))))))))
 refine zj (anx rfl (zj (mvx rfl (za rfl (vg (l := 1) (h := s.size) Tryd.underlying9 rfl ⟨_, rfl⟩ rfl (by omega) (by omega) (avx rfl (yd (zm (ze (zf (srx (mvx rfl (za rfl (ya en67 rfl ((common_digit _ (s.extract 1 s.size) (by rw [kf]; exact h)).mono ?_)))))))))))))));rintro e w1 ⟨rfl, hb⟩;refine ⟨_, rfl, ?_⟩;replace E := blx E hb
 refine anx rfl (zf (srx (mvx rfl (za rfl (yv rfl rfl (mvx rfl (za rfl (zc rfl (za rfl (zc rfl (za rfl (yb rfl rfl (rnx (zx rfl (zk (ze (srx (mvx rfl (za rfl (ye rfl rfl (mvx rfl (onx rfl (zn rfl (onx rfl (ye rfl rfl (za rfl (yb rfl rfl (rnx (zx rfl (zk (ze (yo (yw rfl (zh (zu (ze (srx (avx rfl (avx rfl (avx rfl ?_))))))))))))))))))))))))))))))))))))))))
 refine rnx (zr (zq (rs := [.tmp 2, .tmp 3, .tmp 4]) (vs := [_, _, _]) rfl ⟨rfl, rfl, rfl, trivial⟩ ?_));exact ⟨rfl, (LW.step E XLW).toBelow⟩
theorem special_any (s : ByteArray) (f : Nat) (neg : Bool) (hsg : SgnAt s f neg) (h : 48 ≤ bAt s f ∧ bAt s f ≤ 57) : Calls Tryd.prog 53 #[.string s] w fun e w' => e = .returned (.tuple #[.float .f64 0, .int .i64 0, .bool false]) ∧ Below w.heap.size w w' := by
 rcases hsg with ⟨_, rfl⟩ | ⟨_, rfl, h45⟩
 · exact special_digit w s (bAt s 0) (yt (zak (by omega))) h
 · exact special_neg w s h45 h
theorem atof_any (s : ByteArray) (f : Nat) (neg : Bool) {p Z q : Nat} (hsg : SgnAt s f neg) (hs : Nm s f p Z q) (hl : s.size < 100000) (hT : Tabs bp op cp bf of cf bl ol cl w) : Calls Tryd.prog 51 #[.string s] w fun e w' => e = .returned (.tuple #[.float .f64 (atV s f neg), .int .i64 ((s.size : Nat) : Int), atE s f neg]) ∧ Below w.heap.size w w' := by
 have hfd := hs.first;have hmm := rdM_lt hs;refine yk Tryd.func51 rfl Tryd.ntmps51 rfl ?_;have HF : Per (No) w (fun _ => True) := Per.true_;have LW := erx (No) w;have XLW := grx (No) w;have E := erx (No) w;replace HF := HF.on E;replace LW := LW.step E XLW;replace E := erx (No) w;replace HF := HF.and (Per.tabs hT (fun _ h => h.elim))
 refine srx (avx rfl (avx rfl (anx rfl (zf (srx (mvx rfl (za rfl (ya en53 rfl ((special_any _ s f neg hsg hfd).mono ?_)))))))));rintro e w1 ⟨rfl, hb⟩;refine ⟨_, rfl, ?_⟩;replace E := blx E hb
 refine mvx rfl (za rfl (zz rfl rfl (za rfl (zz rfl rfl (za rfl (zz rfl rfl (avx rfl (avx rfl (anx rfl (srx (mvx rfl (rnx (zx rfl (zk (ze (srx (mvx rfl (za rfl (ya en54 rfl ((readf_any _ s f neg hsg hs hl).mono ?_))))))))))))))))))));rintro e w2 ⟨rfl, hb⟩;refine ⟨_, rfl, ?_⟩;replace E := blx E hb
 refine mvx rfl (za rfl (zz rfl rfl (za rfl (zz rfl rfl (za rfl (zz rfl rfl (za rfl (zz rfl rfl (za rfl (zz rfl rfl (za rfl (zz rfl rfl (za rfl (zz rfl rfl (avx rfl (avx rfl (avx rfl (avx rfl (avx rfl (avx rfl (anx rfl (zf (srx (mvx rfl (za rfl (vv rfl (rnx (zx rfl (zk (ze (zf (srx (mvx rfl (rnx (zx rfl (zk (ze (zf (srx (za rfl (yi Tryd.underlying4 rfl rfl (HF.on E).here.2.opt ?_)))))))))))))))))))))))))))))))))))))))))
 refine rnx (ym rfl (srx (mvx rfl (za rfl (ya en62 rfl ((bool2u _ neg).mono ?_))))));rintro e w3 ⟨rfl, hb⟩;refine ⟨_, rfl, ?_⟩;replace E := blx E hb
 refine za rfl (je rfl rfl (by decide) (shl63 neg) (anx rfl (zf (srx (mvx rfl (za rfl (ye rfl rfl (rnx (zv 69 (.bool (decide (rdM s f = 0))) rfl ((by rw [zero_b] : (.bool (((rdM s f : Nat) : Int) == 0) : Value) = _)) (zt rfl (fun h1 => ?_) (fun h1 => ?_)))))))))))
 ·
  have h1 := of_decide_eq_true h1;refine srx (mvx rfl (za rfl (xd rfl rfl (kh (n := 0) (sgB_lt neg) (by decide)) (za rfl (jc (b := sgB neg ||| 0) ex63 rfl (mvx rfl (avx rfl (avx rfl (anx rfl (zr (zd (zd (zq (rs := [.tmp 2, .tmp 3, .tmp 4]) (vs := [_, _, _]) rfl ⟨rfl, rfl, rfl, trivial⟩ ?_)))))))))))))
  exact ⟨by rw [show atV s f neg = sgB neg ||| 0 by unfold atV; rw [if_pos h1], show atE s f neg = .nilIface by unfold atE; rw [if_pos h1]]; rfl, (LW.step E XLW).toBelow⟩
 ·
  have h1 := of_decide_eq_false h1;refine zk (ze (zf (srx (mvx rfl (za rfl (qo rfl rfl (rnx (zt rfl (fun h2 => ?_) (fun h2 => ?_)))))))))
  ·
   have h2 := of_decide_eq_true h2
   refine srx (mvx rfl (za rfl (xd rfl rfl (kh (n := 9218868437227405312) (sgB_lt neg) (by decide)) (za rfl (jc (b := sgB neg ||| 9218868437227405312) ex63 rfl (mvx rfl (za rfl (ow_mkI (by kernel_rfl) rfl (avx rfl (avx rfl (anx rfl (zr (zd (zd (zq (rs := [.tmp 2, .tmp 3, .tmp 4]) (vs := [_, _, _]) rfl ⟨rfl, rfl, rfl, trivial⟩ ?_)))))))))))))))
   exact ⟨by rw [show atV s f neg = sgB neg ||| 9218868437227405312 by unfold atV; rw [if_neg h1, if_pos h2], show atE s f neg = rangeE by unfold atE; rw [if_neg h1, if_pos h2]]; rfl, (LW.step E XLW).toBelow⟩
  ·
   have h2 := of_decide_eq_false h2;refine zk (ze (zf (srx (mvx rfl (za rfl (yv rfl rfl (rnx (zt rfl (fun h3 => ?_) (fun h3 => ?_)))))))))
   ·
    have h3 := of_decide_eq_true h3;refine srx (mvx rfl (za rfl (xd rfl rfl (kh (n := 0) (sgB_lt neg) (by decide)) (za rfl (jc (b := sgB neg ||| 0) ex63 rfl (mvx rfl (avx rfl (avx rfl (anx rfl (zr (zd (zd (zq (rs := [.tmp 2, .tmp 3, .tmp 4]) (vs := [_, _, _]) rfl ⟨rfl, rfl, rfl, trivial⟩ ?_)))))))))))))
    exact ⟨by rw [show atV s f neg = sgB neg ||| 0 by unfold atV; rw [if_neg h1, if_neg h2, if_pos h3], show atE s f neg = .nilIface by unfold atE; rw [if_neg h1, if_neg h2, if_pos h3]]; rfl, (LW.step E XLW).toBelow⟩
   ·
    have h3 := of_decide_eq_false h3;refine zk (ze (zf (srx (mvx rfl (za rfl (vv rfl (rnx ?_)))))));replace HF := HF.on E;replace LW := LW.step E XLW;replace E := erx (No) w3
    refine qe (ι := Unit) (fun _ => [(0, .string s), (3, .int .i64 ((s.size : Nat) : Int)), (4, .nilIface), (8, .int .u64 ((rdM s f : Nat) : Int)), (9, .int .i64 (rdX s f)), (11, .bool (rdT s f)), (16, .int .u64 ((sgB neg : Nat) : Int))]) (fun _ w' => Ext (No) w3 w' ∧ (¬ (rdT s f = false ∧ (exF (rdM s f) (rdX s f) neg).2 = true))) ?_ ?_
    ·
     have M4 := erx (No) w3;have XM4 := grx (No) w3;refine zt rfl (fun h5 => ?_) (fun h5 => ?_)
     ·
      have h5 : rdT s f = false := by simpa using h5
      refine srx (mvx rfl (mvx rfl (mvx rfl (za rfl (ya en64 rfl ((exact_any _ (rdM s f) (rdX s f) neg (by omega) (HF.on E).here.2).mono ?_))))));rintro e w6 ⟨rfl, hb⟩;refine ⟨_, rfl, ?_⟩;replace E := blx E hb;refine mvx rfl (za rfl (zz rfl rfl (za rfl (zz rfl rfl (avx rfl (anx rfl (srx (mvx rfl (rnx (zt rfl (fun h6 => ?_) (fun h6 => ?_)))))))))))
      ·
       refine srx (mvx rfl (mvx rfl (avx rfl (avx rfl (anx rfl (zr (zd (zd (zq (rs := [.tmp 2, .tmp 3, .tmp 4]) (vs := [_, _, _]) rfl ⟨rfl, rfl, rfl, trivial⟩ ?_)))))))))
       exact ⟨by rw [show atV s f neg = (exF (rdM s f) (rdX s f) neg).1 by unfold atV; rw [if_neg h1, if_neg h2, if_neg h3, if_pos ⟨h5, h6⟩], show atE s f neg = .nilIface by unfold atE; rw [if_neg h1, if_neg h2, if_neg h3, if_pos ⟨h5, h6⟩]]; rfl, (LW.step E XLW).toBelow⟩
      ·
       refine zk ?_;exact yq () ⟨rfl, rfl, rfl, rfl, rfl, rfl, rfl, trivial⟩ ⟨M4.step E XM4, fun h => absurd h.2 (by rw [h6]; decide)⟩
     ·
      refine zk ?_;exact yq () ⟨rfl, rfl, rfl, rfl, rfl, rfl, rfl, trivial⟩ ⟨M4.step E XM4, fun h => absurd h5 (by rw [h.1]; decide)⟩
    ·
     rintro _ w5 ⟨M4, h4⟩;replace E := E.trans M4;replace HF := HF.on E;replace LW := LW.step E XLW;replace E := erx (No) w5;have hj : 3 ≤ atJ s f ∧ atJ s f ≤ 658 := by unfold atJ; omega
     refine srx (mvx rfl (mvx rfl (mvx rfl (yc 101 (.int .i64 (((atJ s f : Nat) : Int) - 348)) rfl ((by congr 1; unfold atJ; omega : (.int .i64 (rdX s f) : Value) = _)) (za rfl (ya en65 rfl ((fast_any _ (rdM s f) (atJ s f) (sgB neg) (by omega) hj (sgB_lt neg) (HF.on E).here.2.pow).mono ?_)))))));rintro e w7 ⟨rfl, hb⟩;refine ⟨_, rfl, ?_⟩;replace E := blx E hb
     refine mvx rfl (za rfl (zz rfl rfl (za rfl (zz rfl rfl (avx rfl (anx rfl (zf (srx (mvx rfl (za rfl (vv rfl (rnx (zt rfl (fun h5 => ?_) (fun h5 => ?_))))))))))))))
     ·
      have h5 : rdT s f = false := by simpa using h5
      refine srx (mvx rfl (mvx rfl (mvx rfl (avx rfl (avx rfl (anx rfl (zr (zd (zd (zq (rs := [.tmp 2, .tmp 3, .tmp 4]) (vs := [_, _, _]) rfl ⟨rfl, rfl, rfl, trivial⟩ ?_))))))))))
      exact ⟨by rw [show atV s f neg = yaq (rdM s f) (atJ s f) (sgB neg) by unfold atV; rw [if_neg h1, if_neg h2, if_neg h3, if_neg h4, if_pos (.inl h5)]; try rfl, show atE s f neg = yak (rdM s f) (atJ s f) (sgB neg) by unfold atE; rw [if_neg h1, if_neg h2, if_neg h3, if_neg h4, if_pos (.inl h5)]; try rfl]; rfl, (LW.step E XLW).toBelow⟩
     ·
      have h5 : ¬ rdT s f = false := fun e => absurd h5 (by rw [e]; decide)
      refine zk (ze (srx (mvx rfl (za rfl (yh rfl rfl (wrap_u64 (by omega)) (mvx rfl (mvx rfl (yc 113 (.int .u64 ((rdM s f + 1 : Nat) : Int)) rfl (rfl) (yc 114 (.int .i64 (((atJ s f : Nat) : Int) - 348)) rfl ((by congr 1; unfold atJ; omega : (.int .i64 (rdX s f) : Value) = _)) (za rfl (ya en65 rfl ((fast_any _ (rdM s f + 1) (atJ s f) (sgB neg) (by omega) hj (sgB_lt neg) (HF.on E).here.2.pow).mono ?_))))))))))))
      rintro e w8 ⟨rfl, hb⟩;refine ⟨_, rfl, ?_⟩;have Ec := Ext.of_below hb No;replace E := E.trans Ec.no;refine mvx rfl (za rfl (zz rfl rfl (za rfl (zz rfl rfl (avx rfl (anx rfl (srx (mvx rfl (mvx rfl (za rfl (ow_feql rfl rfl (rnx (zt rfl (fun h6 => ?_) (fun h6 => ?_))))))))))))))
      ·
       have h6 : atL s f neg = true := h6;refine srx (mvx rfl (mvx rfl (mvx rfl (avx rfl (avx rfl (anx rfl (zr (zd (zq (rs := [.tmp 2, .tmp 3, .tmp 4]) (vs := [_, _, _]) rfl ⟨rfl, rfl, rfl, trivial⟩ ?_)))))))))
       exact ⟨by rw [show atV s f neg = yaq (rdM s f) (atJ s f) (sgB neg) by unfold atV; rw [if_neg h1, if_neg h2, if_neg h3, if_neg h4, if_pos (.inr h6)]; try rfl, show atE s f neg = yak (rdM s f) (atJ s f) (sgB neg) by unfold atE; rw [if_neg h1, if_neg h2, if_neg h3, if_neg h4, if_pos (.inr h6)]; try rfl]; rfl, (LW.step E XLW).toBelow⟩
      ·
       have h6 : ¬ (rdT s f = false ∨ atL s f neg = true) := fun h => h.elim h5 (fun h => by rw [show atL s f neg = false from h6] at h; cases h);have hdec := setD_ok neg hs;have hddp := setD_dp neg hs hl;refine zk (ze (srx (za rfl (va zrDec ?_))));intro gc w9 Bc Ec Gc;replace Bc : Blk w9 gc 125 (yz (zjv false)) := Bc;have Gc : _ ≤ gc := Nat.le_trans E.size Gc
       have GLc := Nat.le_trans LW.size Gc;replace E := E.trans Ec.no;replace HF := HF.cons (yf Gc);replace E := E.cons (some gc);replace XLW := Mut.grow XLW (fun k e => Or.inr (Nat.le_trans LW.size ((yf Gc) k e)));have hg := hT.below.le GLc
       refine rnx (zf (srx (mvx rfl (mvx rfl (za rfl (vg (l := 0) (h := s.size) Tryd.underlying9 rfl rfl ⟨_, rfl⟩ (Nat.zero_le _) (Nat.le_refl _) (yc 127 (.string s) rfl ((by rw [ykk] : (.string (s.extract 0 s.size) : Value) = _)) (za rfl (ya en60 rfl ((set_any _ gc s f neg hsg hs hl Bc).mono ?_))))))))));rintro e w10 ⟨rfl, hB, hE⟩;refine ⟨_, rfl, ?_⟩
       replace Bc := hB;clear hB;replace E := E.step1 hE Mut.head;clear hE;refine za rfl (vv rfl (rnx (zx rfl (zk (ze (srx (za rfl (ya en61 rfl ((bits_any _ gc (setD s f neg) hdec hddp Bc (HF.on E).here.2 hg).mono ?_)))))))));rintro e w11 ⟨rfl, ⟨t9, hB⟩, hE⟩;refine ⟨_, rfl, ?_⟩;replace Bc := hB;clear hB;replace E := E.step1 hE Mut.head;clear hE
       refine mvx rfl (za rfl (zz rfl rfl (za rfl (zz rfl rfl (avx rfl (anx rfl (srx (mvx rfl (za rfl (jc (b := zbk (setD s f neg)) ex63 rfl (anx rfl (zf (srx (mvx rfl (rnx (zt rfl (fun h7 => ?_) (fun h7 => ?_)))))))))))))))))
       ·
        refine zj (za rfl (ow_mkI (by kernel_rfl) rfl (anx rfl (srx (mvx rfl (mvx rfl (mvx rfl (avx rfl (avx rfl (anx rfl (zr (zq (rs := [.tmp 2, .tmp 3, .tmp 4]) (vs := [_, _, _]) rfl ⟨rfl, rfl, rfl, trivial⟩ ?_))))))))))))
        exact ⟨by rw [show atV s f neg = zbk (setD s f neg) by unfold atV; rw [if_neg h1, if_neg h2, if_neg h3, if_neg h4, if_neg h6], show atE s f neg = rangeE by unfold atE; rw [if_neg h1, if_neg h2, if_neg h3, if_neg h4, if_neg h6, if_pos h7]]; rfl, (LW.step E XLW).toBelow⟩
       ·
        refine zk (ze (srx (mvx rfl (mvx rfl (mvx rfl (avx rfl (avx rfl (anx rfl (zr (zq (rs := [.tmp 2, .tmp 3, .tmp 4]) (vs := [_, _, _]) rfl ⟨rfl, rfl, rfl, trivial⟩ ?_))))))))))
        exact ⟨by rw [show atV s f neg = zbk (setD s f neg) by unfold atV; rw [if_neg h1, if_neg h2, if_neg h3, if_neg h4, if_neg h6], show atE s f neg = .nilIface by unfold atE; rw [if_neg h1, if_neg h2, if_neg h3, if_neg h4, if_neg h6, if_neg (by rw [h7]; decide)]]; rfl, (LW.step E XLW).toBelow⟩
theorem prefix_any64 (s : ByteArray) (f : Nat) (neg : Bool) {p Z q : Nat} (hsg : SgnAt s f neg) (hs : Nm s f p Z q) (hl : s.size < 100000) (hT : Tabs bp op cp bf of cf bl ol cl w) : Calls Tryd.prog 46 #[.string s, .int .i64 64] w fun e w' => e = .returned (.tuple #[.float .f64 (atV s f neg), .int .i64 ((s.size : Nat) : Int), atE s f neg]) ∧ Below w.heap.size w w' := by
 refine yk Tryd.func46 rfl Tryd.ntmps46 rfl ?_;have LW := erx (No) w;have XLW := grx (No) w;have E := erx (No) w;refine srx (avx rfl (avx rfl (anx rfl (zf (srx (mvx rfl (za rfl (ye rfl rfl (rnx (zx rfl (zk (ze (srx (mvx rfl (za rfl (ya en51 rfl ((atof_any _ s f neg hsg hs hl hT).mono ?_)))))))))))))))));rintro e w1 ⟨rfl, hb⟩;refine ⟨_, rfl, ?_⟩
 replace E := blx E hb;refine za rfl (zz rfl rfl (za rfl (zz rfl rfl (za rfl (zz rfl rfl (avx rfl (avx rfl (anx rfl (zr (zq (rs := [.tmp 4, .tmp 5, .tmp 6]) (vs := [_, _, _]) rfl ⟨rfl, rfl, rfl, trivial⟩ ?_))))))))));exact ⟨rfl, (LW.step E XLW).toBelow⟩
theorem inner_any (s : ByteArray) (f : Nat) (neg : Bool) {p Z q : Nat} (hsg : SgnAt s f neg) (hs : Nm s f p Z q) (hl : s.size < 100000) (hT : Tabs bp op cp bf of cf bl ol cl w) : Calls Tryd.prog 37 #[.string s, .int .i64 64] w fun e w' => e = .returned (.tuple #[.float .f64 (atV s f neg), atE s f neg]) ∧ Below w.heap.size w w' := by
 refine yk Tryd.func37 rfl Tryd.ntmps37 rfl ?_;have LW := erx (No) w;have XLW := grx (No) w;have E := erx (No) w;refine srx (avx rfl (anx rfl (srx (mvx rfl (mvx rfl (za rfl (ya en46 rfl ((prefix_any64 _ s f neg hsg hs hl hT).mono ?_))))))));rintro e w1 ⟨rfl, hb⟩;refine ⟨_, rfl, ?_⟩;replace E := blx E hb
 refine mvx rfl (za rfl (zz rfl rfl (za rfl (zz rfl rfl (za rfl (zz rfl rfl (avx rfl (avx rfl (anx rfl (zf (srx (mvx rfl (mvx rfl (za rfl (qc Tryd.underlying9 rfl (za rfl (qj rfl rfl (rnx (zv 19 (.bool false) rfl ((by simp : (.bool (((s.size : Nat) : Int) != ((s.size : Nat) : Int)) : Value) = _)) (zx rfl (zk (ze (srx (mvx rfl (mvx rfl (avx rfl (anx rfl (zr (zq (rs := [.tmp 4, .tmp 5]) (vs := [_, _]) rfl ⟨rfl, rfl, trivial⟩ ?_)))))))))))))))))))))))))))))
 exact ⟨rfl, (LW.step E XLW).toBelow⟩
theorem parsef_any (s : ByteArray) (f : Nat) (neg : Bool) {p Z q : Nat} (hsg : SgnAt s f neg) (hs : Nm s f p Z q) (hl : s.size < 100000) (hT : Tabs bp op cp bf of cf bl ol cl w) (hE : ∃ te pe, w.cell? ⟨2, 0, none⟩ = some (.iface te pe)) : Calls Tryd.prog 28 #[.string s, .int .i64 64] w fun e w' => (∃ er, e = .returned (.tuple #[.float .f64 (atV s f neg), er])) ∧ Below w.heap.size w w' := by
 obtain ⟨te, pe, hE⟩ := hE;have hor := atE_or s f neg;obtain ⟨er, her⟩ : ∃ er, er = atE s f neg := ⟨_, rfl⟩;rw [← her] at hor;refine yk Tryd.func28 rfl Tryd.ntmps28 rfl ?_;have HF : Per (No) w (fun _ => True) := Per.true_;have LW := erx (No) w;have XLW := grx (No) w;have E := erx (No) w;replace HF := HF.on E;replace LW := LW.step E XLW;replace E := erx (No) w
 replace HF := HF.and (Per.cellA hE (fun _ h => h.elim));refine srx (avx rfl (anx rfl (srx (mvx rfl (mvx rfl (za rfl (ya en37 rfl ((inner_any _ s f neg hsg hs hl hT).mono ?_))))))));rintro e w1 ⟨rfl, hb⟩;refine ⟨_, rfl, ?_⟩;replace E := blx E hb;rw [← her];by_cases hn : er = .nilIface
 ·
  subst hn;refine mvx rfl (za rfl (zz rfl rfl (za rfl (zz rfl rfl (avx rfl (anx rfl (zf (srx (mvx rfl (za rfl (ow_neqN Tryd.underlying69 rfl (rnx (zx rfl (zk (ze (srx (mvx rfl (avx rfl (anx rfl (zr (zq (rs := [.tmp 4, .tmp 5]) (vs := [_, _]) rfl ⟨rfl, rfl, trivial⟩ ?_)))))))))))))))))))));exact ⟨⟨_, rfl⟩, (LW.step E XLW).toBelow⟩
 ·
  obtain rfl : er = rangeE := hor.resolve_left hn;refine mvx rfl (za rfl (zz rfl rfl (za rfl (zz rfl rfl (avx rfl (anx rfl (zf (srx (mvx rfl (za rfl (ow_neqI Tryd.underlying69 rfl (rnx (ym rfl (srx (mvx rfl (mvx rfl (mvx rfl (mvx rfl (za rfl (ya en32 rfl ((range_err _ s 0 64 _ hl ⟨te, pe, (HF.on E).here.2⟩).mono ?_)))))))))))))))))))))
  rintro e w2 ⟨⟨er2, rfl⟩, hb⟩;refine ⟨_, rfl, ?_⟩;replace E := blx E hb;refine avx rfl (anx rfl (zr (zd (zq (rs := [.tmp 4, .tmp 5]) (vs := [_, _]) rfl ⟨rfl, rfl, trivial⟩ ?_))));exact ⟨⟨_, rfl⟩, (LW.step E XLW).toBelow⟩
theorem parse_pos (s : ByteArray) {p Z q : Nat} (hs : Nm s 0 p Z q) (hl : s.size < 100000) (hT : Tabs bp op cp bf of cf bl ol cl w) (hE : ∃ te pe, w.cell? ⟨2, 0, none⟩ = some (.iface te pe)) : Calls Tryd.prog 28 #[.string s, .int .i64 64] w fun e w' => (∃ er, e = .returned (.tuple #[.float .f64 (atV s 0 false), er])) ∧ Below w.heap.size w w' := parsef_any w s 0 false (.inl ⟨rfl, rfl⟩) hs hl hT hE
end
end Go.Proofs.YtmjbnhjgebjhlaaDoor
namespace Go.Proofs.YtmjbnhjgebjhlaaDoor
open Go.RowKit
set_option maxRecDepth 100000
attribute [local irreducible] OW RS
theorem eq_nil (s : ByteArray) (k : Nat) : ((s.extract k s.size).toList == (⟨#[]⟩ : ByteArray).toList) = decide (s.size ≤ k) := by
 rw [bytes_list #[]];by_cases h : s.size ≤ k
 · rw [decide_eq_true h, ykq.2 h]; rfl
 · rw [decide_eq_false h];exact beq_eq_false_iff_ne.2 (fun e => h (ykq.1 e))
theorem ne_nil (s : ByteArray) (k : Nat) : (!((s.extract k s.size).toList == (⟨#[]⟩ : ByteArray).toList)) = decide (k < s.size) := by
 rw [eq_nil];by_cases h : k < s.size
 · rw [decide_eq_true h, decide_eq_false (by omega)]; rfl
 · rw [decide_eq_false h, decide_eq_true (by omega)]; rfl
theorem yav {s : ByteArray} {f k z m : Nat} (hz : z = s.size - f) (hm : f + k = m) : (s.extract f s.size).extract k z = s.extract m s.size := by
 subst hz; subst hm;rw [← extract_extract, qi]
theorem nB_dot {s : ByteArray} {a : Nat} (h : bAt s a = 46) : nB s a = xu s (a + 1) := by unfold nB; rw [if_pos h]
theorem nB_no {s : ByteArray} {a : Nat} (h : ¬ bAt s a = 46) : nB s a = a := by unfold nB; rw [if_neg h]
theorem nC_e {s : ByteArray} {a : Nat} (h : bAt s a = 101) : nC s a = xu s (nQ s a) := by unfold nC; rw [if_pos h]
theorem nC_no {s : ByteArray} {a : Nat} (h : ¬ bAt s a = 101) : nC s a = a := by unfold nC; rw [if_neg h]
theorem nC_le {s : ByteArray} {b : Nat} (hb : b ≤ s.size) : nC s b ≤ s.size := by
 by_cases h : bAt s b = 101
 · rw [nC_e h];exact (ku (nQ_le (zak (by omega)))).1.hi
 · rw [nC_no h]; exact hb
theorem sgB_add {x : Nat} (h : x ≤ 9218868437227405312) (neg : Bool) : sgB neg ||| x = sgB neg + x := by
 cases neg with
 | false => rw [show sgB false = 0 from rfl, Nat.zero_or, Nat.zero_add]
 | true =>
  have h2 := Nat.two_pow_add_eq_or_of_lt (show x < 2 ^ 63 by show x < 9223372036854775808; omega) 1;exact h2.symm
section
variable (w : World)
theorem zvk (s : ByteArray) (hl : s.size < 100000) : Calls Tryd.prog 35 #[.string s] w fun e w' => e = .returned (.int .i64 ((xu s 0 : Nat) : Int)) ∧ Below w.heap.size w w' := by
 have hle := Nat.zero_le s.size;refine yk Tryd.func35 rfl Tryd.ntmps35 rfl ?_;have LW := erx (No) w;have XLW := grx (No) w;have E := erx (No) w;refine srx (anx rfl (srx (anx rfl (zf (zy ?_)))));replace LW := LW.step E XLW;replace E := erx (No) w
 refine qq (ι := Nat) (fun n => [(0, .string s), (3, .int .i64 ((n : Nat) : Int))]) (fun n w' => Ext (No) w w' ∧ (RuI s 0 n ∧ qt (gm s) (fun i => i + 1) n = xu s 0)) (fun n => s.size - n) 0 ⟨rfl, rfl, trivial⟩ ⟨Ext.refl _ _, ⟨Nat.le_refl _, hle, fun j h1 h2 => absurd h1 (Nat.not_le.2 h2)⟩, rfl⟩ ?_;rintro n w2 ⟨M1, ⟨hI, hu⟩⟩;have XM1 := grx (No) w;replace E := E.trans M1
 replace LW := LW.step E XLW;replace E := erx (No) w2;have hlo := hI.lo;have hhi := hI.hi;refine zf (srx (mvx rfl (mvx rfl (za rfl (qc Tryd.underlying9 rfl (za rfl (yv rfl rfl (mvx rfl (yp 8 rfl (fun h1 => ?_) (fun h1 => ?_))))))))))
 ·
  have h1 : n < s.size := by have h1 := of_decide_eq_true h1; omega
  refine onx rfl (zn rfl (onx rfl (zn rfl (onx rfl (yg (j := n) (b := bAt s (n)) Tryd.underlying9 rfl rfl rfl (yt (by omega)) (onx rfl (vk rfl rfl (za rfl (zw rfl rfl (mvx rfl (yp 14 rfl (fun h2 => ?_) (fun h2 => ?_))))))))))))
  ·
   have h2 : 48 ≤ bAt s n := by have h2 := of_decide_eq_true h2; omega
   refine onx rfl (zn rfl (onx rfl (zn rfl (onx rfl (yg (j := n) (b := bAt s (n)) Tryd.underlying9 rfl rfl rfl (yt (by omega)) (onx rfl (gz rfl rfl (za rfl (zw rfl rfl (rnx (zt rfl (fun h3 => ?_) (fun h3 => ?_))))))))))))
   ·
    have h3 : bAt s n ≤ 57 := by have h3 := of_decide_eq_true h3; omega
    have hdone := ru_on h1 ⟨h2, h3⟩;have hk := ru_keeps hI hdone;rw [qv hdone] at hu;refine zk (ze (zy (zj (mvx rfl (za rfl (yh rfl rfl (zo (by omega)) (avx rfl (yd (zm ?_)))))))));exact yn (n + 1) (by omega) ⟨rfl, rfl, trivial⟩ ⟨M1.step E XM1, hk, hu⟩
   ·
    have h3 : ¬ bAt s n ≤ 57 := by have h3 := of_decide_eq_false h3; omega
    have hdone : gm s n = true := by
     cases hd : gm s n with
     | true => rfl
     | false => exact absurd (ru_go hd).2.2 h3
    rw [qf hdone] at hu;refine yo (zh (zh (zu (ze (srx (mvx rfl (anx rfl (zr (zq (rs := [.tmp 2]) (vs := [_]) rfl ⟨rfl, trivial⟩ ?_)))))))));exact ⟨by rw [← hu]; rfl, (LW.step E XLW).toBelow⟩
  ·
   have h2 : ¬ 48 ≤ bAt s n := by have h2 := of_decide_eq_false h2; omega
   have hdone : gm s n = true := by
    cases hd : gm s n with
    | true => rfl
    | false => exact absurd (ru_go hd).2.1 h2
   rw [qf hdone] at hu;refine za rfl (zc rfl (za rfl (zc rfl (za rfl (zc rfl (za rfl (zc rfl (za rfl (yb rfl rfl (rnx (zx rfl (yo (zh (zh (zu (ze (srx (mvx rfl (anx rfl (zr (zq (rs := [.tmp 2]) (vs := [_]) rfl ⟨rfl, trivial⟩ ?_)))))))))))))))))))))
   exact ⟨by rw [← hu]; rfl, (LW.step E XLW).toBelow⟩
 ·
  have h1 : ¬ n < s.size := by have h1 := of_decide_eq_false h1; omega
  have hdone : gm s n = true := by
   cases hd : gm s n with
   | true => rfl
   | false => exact absurd (ru_go hd).1 h1
  rw [qf hdone] at hu
  refine za rfl (zc rfl (za rfl (zc rfl (za rfl (zc rfl (za rfl (zc rfl (za rfl (yb rfl rfl (mvx rfl (za rfl (zc rfl (za rfl (zc rfl (za rfl (zc rfl (za rfl (zc rfl (za rfl (yb rfl rfl (rnx (zx rfl (yo (zh (zh (zu (ze (srx (mvx rfl (anx rfl (zr (zq (rs := [.tmp 2]) (vs := [_]) rfl ⟨rfl, trivial⟩ ?_))))))))))))))))))))))))))))))))
  exact ⟨by rw [← hu]; rfl, (LW.step E XLW).toBelow⟩
theorem prefix1_in (s : ByteArray) (c : UInt8) (hc : c.toNat ≠ 0) : Calls Tryd.prog 45 #[.string s, .string ⟨#[c]⟩] w fun e w' => e = .returned (.bool (decide (bAt s 0 = c.toNat))) ∧ Below w.heap.size w w' := by
 have h1s : ((⟨#[c]⟩ : ByteArray).size : Nat) = 1 := rfl;refine yk Tryd.func45 rfl Tryd.ntmps45 rfl ?_;have LW := erx (No) w;have XLW := grx (No) w;have E := erx (No) w;refine srx (anx rfl (srx (mvx rfl (za rfl (qc Tryd.underlying9 rfl (mvx rfl (za rfl (qc Tryd.underlying9 rfl (za rfl (vk rfl rfl (mvx rfl (yp 10 rfl (fun h1 => ?_) (fun h1 => ?_)))))))))))))
 ·
  have h1 : 0 < s.size := by have h1 := of_decide_eq_true h1; rw [h1s] at h1; omega
  refine onx rfl (zn rfl (onx rfl (zn rfl (onx rfl (qc Tryd.underlying9 rfl (onx rfl (vg (l := 0) (h := 1) Tryd.underlying9 rfl rfl ⟨_, rfl⟩ (by decide) (by omega) (onx rfl (zn rfl (onx rfl (oh rfl rfl (za rfl (zw rfl rfl (anx rfl (zr (yr 4 (.bool (decide (bAt s 0 = c.toNat))) rfl (by rw [bytes_list #[c], list_one h1]) (zq (rs := [.tmp 4]) (vs := [_]) rfl ⟨rfl, trivial⟩ ?_)))))))))))))))))
  exact ⟨rfl, (LW.step E XLW).toBelow⟩
 ·
  have h1 : ¬ 0 < s.size := by have h1 := of_decide_eq_false h1; rw [h1s] at h1; omega
  refine za rfl (zc rfl (za rfl (zc rfl (za rfl (zc rfl (za rfl (zc rfl (za rfl (zc rfl (za rfl (zc rfl (za rfl (yb rfl rfl (anx rfl (zr (zq (rs := [.tmp 4]) (vs := [_]) rfl ⟨rfl, trivial⟩ ?_))))))))))))))));exact ⟨by rw [decide_eq_false (by rw [bAt_end (by omega)]; omega)]; rfl, (LW.step E XLW).toBelow⟩
theorem yjz (s : ByteArray) (c : UInt8) (hc : c.toNat ≠ 0) : Calls Tryd.prog 36 #[.string s, .string ⟨#[c]⟩] w fun e w' => e = .returned (.bool (decide (bAt s 0 = c.toNat))) ∧ Below w.heap.size w w' := by
 refine yk Tryd.func36 rfl Tryd.ntmps36 rfl ?_;have LW := erx (No) w;have XLW := grx (No) w;have E := erx (No) w;refine srx (anx rfl (srx (mvx rfl (mvx rfl (za rfl (ya en45 rfl ((prefix1_in _ s c hc).mono ?_)))))));rintro e w1 ⟨rfl, hb⟩;refine ⟨_, rfl, ?_⟩;replace E := blx E hb;refine anx rfl (zr (zq (rs := [.tmp 4]) (vs := [_]) rfl ⟨rfl, trivial⟩ ?_))
 exact ⟨rfl, (LW.step E XLW).toBelow⟩
def signed (s : ByteArray) : Bool := decide (bAt s 0 = 45)
def cut1 (s : ByteArray) : Nat := if bAt s 0 = 45 then 1 else 0
theorem cut_in (s : ByteArray) : Calls Tryd.prog 33 #[.string s, .string ⟨#[45]⟩] w fun e w' => e = .returned (.tuple #[.string (s.extract (cut1 s) s.size), .bool (signed s)]) ∧ Below w.heap.size w w' := by
 refine yk Tryd.func33 rfl Tryd.ntmps33 rfl ?_;have LW := erx (No) w;have XLW := grx (No) w;have E := erx (No) w;refine srx (avx rfl (anx rfl (zf (srx (mvx rfl (mvx rfl (za rfl (ya en45 rfl ((prefix1_in _ s 45 (by decide)).mono ?_)))))))));rintro e w1 ⟨rfl, hb⟩;refine ⟨_, rfl, ?_⟩;replace E := blx E hb
 refine yc 8 (.bool (signed s)) rfl (rfl) (za rfl (vv rfl (rnx ?_)));by_cases h : bAt s 0 = 45
 ·
  have e1 : signed s = true := decide_eq_true h;have e2 : cut1 s = 1 := by unfold cut1; rw [if_pos h]
  have hs := zak (s := s) (i := 0) (by omega)
  refine zv 9 (.bool false) rfl ((by rw [e1]; rfl : (.bool (!(signed s)) : Value) = _)) (zx rfl (zk (ze (srx (mvx rfl (mvx rfl (za rfl (qc Tryd.underlying9 rfl (za rfl (vg (l := 1) (h := s.size) Tryd.underlying9 rfl ⟨_, rfl⟩ rfl (by omega) (by omega) (avx rfl (anx rfl (zr (zq (rs := [.tmp 4, .tmp 5]) (vs := [_, _]) rfl ⟨rfl, rfl, trivial⟩ ?_))))))))))))))
  exact ⟨by rw [e1, e2]; rfl, (LW.step E XLW).toBelow⟩
 ·
  have e1 : signed s = false := decide_eq_false h;have e2 : cut1 s = 0 := by unfold cut1; rw [if_neg h]
  refine zv 9 (.bool true) rfl ((by rw [e1]; rfl : (.bool (!(signed s)) : Value) = _)) (ym rfl (srx (mvx rfl (avx rfl (anx rfl (zr (zd (zq (rs := [.tmp 4, .tmp 5]) (vs := [_, _]) rfl ⟨rfl, rfl, trivial⟩ ?_))))))));exact ⟨by rw [e1, e2, ykk]; rfl, (LW.step E XLW).toBelow⟩
theorem cut_any (s : ByteArray) : Calls Tryd.prog 25 #[.string s, .string ⟨#[45]⟩] w fun e w' => e = .returned (.tuple #[.string (s.extract (cut1 s) s.size), .bool (signed s)]) ∧ Below w.heap.size w w' := by
 refine yk Tryd.func25 rfl Tryd.ntmps25 rfl ?_;have LW := erx (No) w;have XLW := grx (No) w;have E := erx (No) w;refine srx (avx rfl (anx rfl (srx (mvx rfl (mvx rfl (za rfl (ya en33 rfl ((cut_in _ s).mono ?_))))))));rintro e w1 ⟨rfl, hb⟩;refine ⟨_, rfl, ?_⟩;replace E := blx E hb
 refine za rfl (zz rfl rfl (za rfl (zz rfl rfl (avx rfl (anx rfl (zr (zq (rs := [.tmp 4, .tmp 5]) (vs := [_, _]) rfl ⟨rfl, rfl, trivial⟩ ?_)))))));exact ⟨rfl, (LW.step E XLW).toBelow⟩
theorem numeral_any (s : ByteArray) (hl : s.size < 100000) : Calls Tryd.prog 27 #[.string s] w fun e w' => e = .returned (.bool (numB s 0)) ∧ Below w.heap.size w w' := by
 obtain ⟨n, hn⟩ : ∃ n, n = xu s 0 := ⟨_, rfl⟩;have hnI := (ku (s := s) (Nat.zero_le _)).1;rw [← hn] at hnI;have hns := hnI.hi;obtain ⟨b, hbq⟩ : ∃ b, b = nB s n := ⟨_, rfl⟩;have hbs := nB_le (s := s) hns;rw [← hbq] at hbs;refine yk Tryd.func27 rfl Tryd.ntmps27 rfl ?_;have LW := erx (No) w;have XLW := grx (No) w;have E := erx (No) w
 refine srx (anx rfl (srx (mvx rfl (za rfl (ya en35 rfl ((zvk _ s hl).mono ?_))))));rintro e w1 ⟨rfl, hb⟩;refine ⟨_, rfl, ?_⟩;replace E := blx E hb;refine yc 5 (.int .i64 ((n : Nat) : Int)) rfl ((by rw [hn] : (.int .i64 ((xu s 0 : Nat) : Int) : Value) = _)) (anx rfl (zf (srx (mvx rfl (za rfl (ye rfl rfl (rnx (zt rfl (fun h1 => ?_) (fun h1 => ?_)))))))))
 ·
  have h1 : n = 0 := by have h1 := eq_of_beq h1; omega
  have e : numB s 0 = false := zzq (fun h => by have := h.1; rw [← hn] at this; omega);refine srx (anx rfl (zr (zd (zq (rs := [.tmp 2]) (vs := [_]) rfl ⟨rfl, trivial⟩ ?_))));exact ⟨by rw [e]; rfl, (LW.step E XLW).toBelow⟩
 ·
  have h1 : n ≠ 0 := fun e => absurd h1 (by rw [e]; decide);refine zk (ze (srx (mvx rfl (mvx rfl (za rfl (vg (l := n) (h := s.size) Tryd.underlying9 rfl ⟨_, rfl⟩ rfl (by omega) (by omega) (anx rfl (zf (srx (mvx rfl (za rfl (ya en36 rfl ((yjz _ (s.extract n s.size) 46 (by decide)).mono ?_)))))))))))));rintro e w2 ⟨rfl, hb⟩;refine ⟨_, rfl, ?_⟩
  replace E := blx E hb;refine yc 12 (.bool (decide (bAt s n = 46))) rfl ((by rw [kf, Nat.add_zero]; rfl : (.bool (decide (bAt (s.extract n s.size) 0 = (46 : UInt8).toNat)) : Value) = _)) (rnx ?_);replace LW := LW.step E XLW;replace E := erx (No) w2
  refine qe (ι := Unit) (fun _ => [(0, .string (s.extract b s.size))]) (fun _ w' => Ext (No) w2 w' ∧ ((bAt s n = 46 → n + 1 < b))) ?_ ?_
  ·
   have M3 := erx (No) w2;have XM3 := grx (No) w2;refine zt rfl (fun h3 => ?_) (fun h3 => ?_)
   ·
    have h3 := of_decide_eq_true h3;have hin := zak (s := s) (i := n) (by omega);obtain ⟨r, hr⟩ : ∃ r, r = xu (s.extract (n + 1) s.size) 0 := ⟨_, rfl⟩;have e1 : b = n + 1 + r := by rw [hbq, nB_dot h3, hr]; exact run_shift (f := n + 1) (a := 0) (by omega)
    refine zf (srx (mvx rfl (za rfl (vg (l := 1) (h := s.size - n) Tryd.underlying9 rfl ⟨_, rfl⟩ (qi).symm (by omega) (by rw [qi]; omega) (yc 14 (.string (s.extract (n + 1) s.size)) rfl ((by rw [yav rfl rfl] : (.string ((s.extract n s.size).extract 1 (s.size - n)) : Value) = _)) (za rfl (ya en35 rfl ((zvk _ (s.extract (n + 1) s.size) (by rw [qi]; omega)).mono ?_))))))))
    rintro e w5 ⟨rfl, hb⟩;refine ⟨_, rfl, ?_⟩;replace E := blx E hb;refine yc 15 (.int .i64 ((r : Nat) : Int)) rfl ((by rw [hr] : (.int .i64 ((xu (s.extract (n + 1) s.size) 0 : Nat) : Int) : Value) = _)) (anx rfl (srx (mvx rfl (za rfl (ye rfl rfl (rnx (zt rfl (fun h4 => ?_) (fun h4 => ?_))))))))
    ·
     have h4 : r = 0 := by have h4 := eq_of_beq h4; omega
     have e : numB s 0 = false := zzq (fun h => by have := h.2.1; rw [← hn, ← hbq] at this; have := this h3; omega);refine srx (anx rfl (zr (zd (zd (zq (rs := [.tmp 2]) (vs := [_]) rfl ⟨rfl, trivial⟩ ?_)))));exact ⟨by rw [e]; rfl, (LW.step E XLW).toBelow⟩
    ·
     have h4 : r ≠ 0 := fun e => absurd h4 (by rw [e]; decide)
     refine zk (ze (zj (mvx rfl (mvx rfl (za rfl (yh rfl rfl (zo (by omega)) (yc 20 (.int .i64 ((r + 1 : Nat) : Int)) rfl (rfl) (za rfl (vg (l := r + 1) (h := s.size - n) Tryd.underlying9 rfl ⟨_, rfl⟩ (qi).symm (by omega) (by rw [qi]; omega) (avx rfl (yd (yr 0 (.string (s.extract b s.size)) rfl ((by rw [yav (m := b) rfl (by omega)] : (.string ((s.extract n s.size).extract (r + 1) (s.size - n)) : Value) = _)) ?_))))))))))))
     exact yq () ⟨rfl, trivial⟩ ⟨M3.step E XM3, fun _ => by omega⟩
   ·
    have h3 := of_decide_eq_false h3;have e1 : b = n := by rw [hbq, nB_no h3]
    refine zk (yr 0 (.string (s.extract b s.size)) rfl ((by rw [e1] : (.string (s.extract n s.size) : Value) = _)) ?_);exact yq () ⟨rfl, trivial⟩ ⟨M3.step E XM3, fun h => absurd h h3⟩
  ·
   rintro _ w4 ⟨M3, h2⟩;replace E := E.trans M3;replace LW := LW.step E XLW;replace E := erx (No) w4;have hcs := nC_le (s := s) hbs.2;refine zf (srx (mvx rfl (za rfl (ya en36 rfl ((yjz _ (s.extract b s.size) 101 (by decide)).mono ?_)))));rintro e w6 ⟨rfl, hb⟩;refine ⟨_, rfl, ?_⟩;replace E := blx E hb
   refine yc 23 (.bool (decide (bAt s b = 101))) rfl ((by rw [kf, Nat.add_zero]; rfl : (.bool (decide (bAt (s.extract b s.size) 0 = (101 : UInt8).toNat)) : Value) = _)) (rnx ?_);replace LW := LW.step E XLW;replace E := erx (No) w6;refine qe (ι := Unit) (fun _ => [(0, .string (s.extract (nC s b) s.size))]) (fun _ w' => Ext (No) w6 w' ∧ ((bAt s b = 101 → nQ s b < nC s b))) ?_ ?_
   ·
    have M7 := erx (No) w6;have XM7 := grx (No) w6;refine zt rfl (fun h3 => ?_) (fun h3 => ?_)
    ·
     have h3 := of_decide_eq_true h3;have hin := zak (s := s) (i := b) (by omega);have hqs := nQ_le hin
     refine srx (mvx rfl (za rfl (vg (l := 1) (h := s.size - b) Tryd.underlying9 rfl ⟨_, rfl⟩ (qi).symm (by omega) (by rw [qi]; omega) (yc 25 (.string (s.extract (b + 1) s.size)) rfl ((by rw [yav rfl rfl] : (.string ((s.extract b s.size).extract 1 (s.size - b)) : Value) = _)) (anx rfl (zf (zf ?_)))))));replace LW := LW.step E XLW
     replace M7 := M7.step E XM7;replace E := erx (No) w6;refine qe (ι := Bool) (fun g => [(0, .string (s.extract (b + 1) s.size)), (37, .bool g)]) (fun g w' => Ext (No) w6 w' ∧ (g = decide (bAt s (b + 1) = 43 ∨ bAt s (b + 1) = 45))) ?_ ?_
     ·
      have M9 := erx (No) w6;have XM9 := grx (No) w6;refine zj (mvx rfl (za rfl (ow_neqS rfl rfl (mvx rfl (yc 28 (.bool (decide (b + 1 < s.size))) rfl (by rw [ne_nil]) (yp 28 rfl (fun h6 => ?_) (fun h6 => ?_)))))))
      ·
       have h6 := of_decide_eq_true h6
       refine onx rfl (zn rfl (onx rfl (yg (j := 0) (b := bAt (s.extract (b + 1) s.size) 0) Tryd.underlying9 rfl rfl rfl (yt (by rw [qi]; omega)) (yc 30 (.int .u8 ((bAt s (b + 1) : Nat) : Int)) rfl ((by rw [kf] : (.int .u8 ((bAt (s.extract (b + 1) s.size) 0 : Nat) : Int) : Value) = _)) (onx rfl (ye rfl rfl (onx rfl (zn rfl (yp 32 rfl (fun h7 => ?_) (fun h7 => ?_))))))))))
       ·
        have h7 : bAt s (b + 1) = 43 := by have h7 := eq_of_beq h7; omega
        refine za rfl (zc rfl (za rfl (zc rfl (za rfl (zc rfl (onx rfl (zw rfl rfl (za rfl (zw rfl rfl (yd ?_))))))))));exact yq true ⟨rfl, rfl, trivial⟩ ⟨M9.step E XM9, (decide_eq_true (.inl h7)).symm⟩
       ·
        have h7 : ¬ bAt s (b + 1) = 43 := fun e => absurd h7 (by rw [e]; decide)
        refine onx rfl (zn rfl (onx rfl (yg (j := 0) (b := bAt (s.extract (b + 1) s.size) 0) Tryd.underlying9 rfl rfl rfl (yt (by rw [qi]; omega)) (yc 34 (.int .u8 ((bAt s (b + 1) : Nat) : Int)) rfl ((by rw [kf] : (.int .u8 ((bAt (s.extract (b + 1) s.size) 0 : Nat) : Int) : Value) = _)) (onx rfl (ye rfl rfl (onx rfl (yb rfl rfl (za rfl (zw rfl rfl (yd ?_)))))))))))
        by_cases h8 : bAt s (b + 1) = 45
        ·
         refine yr 37 (.bool true) rfl ((by rw [h8]; rfl : (.bool (((bAt s (b + 1) : Nat) : Int) == 45) : Value) = _)) ?_;exact yq true ⟨rfl, rfl, trivial⟩ ⟨M9.step E XM9, (decide_eq_true (.inr h8)).symm⟩
        ·
         refine yr 37 (.bool false) rfl ((by rw [vx (by omega)] : (.bool (((bAt s (b + 1) : Nat) : Int) == 45) : Value) = _)) ?_;exact yq false ⟨rfl, rfl, trivial⟩ ⟨M9.step E XM9, (decide_eq_false (by omega)).symm⟩
      ·
       have h6 := of_decide_eq_false h6;have h0 := bAt_end (s := s) (i := b + 1) (by omega);refine za rfl (zc rfl (za rfl (zc rfl (za rfl (zc rfl (za rfl (zc rfl (za rfl (qr rfl rfl (za rfl (qr rfl rfl (za rfl (qr rfl rfl (za rfl (zc rfl (za rfl (yb rfl rfl (yd ?_))))))))))))))))))
       exact yq false ⟨rfl, rfl, trivial⟩ ⟨M9.step E XM9, (decide_eq_false (by omega)).symm⟩
     ·
      rintro g w10 ⟨M9, hg⟩;replace E := E.trans M9;replace LW := LW.step E XLW;replace M7 := M7.step E XM7;replace E := erx (No) w10;replace LW := LW.step E XLW;replace M7 := M7.step E XM7;replace E := erx (No) w10;refine qe (ι := Unit) (fun _ => [(0, .string (s.extract (nQ s b) s.size))]) (fun _ w' => Ext (No) w10 w' ∧ (True)) ?_ ?_
      ·
       have M11 := erx (No) w10;have XM11 := grx (No) w10;refine zt rfl (fun h6 => ?_) (fun h6 => ?_)
       ·
        rw [hg] at h6;have h6 := of_decide_eq_true h6;have e1 : nQ s b = b + 2 := by unfold nQ; rw [if_pos h6]
        have hin2 := zak (s := s) (i := b + 1) (by omega)
        refine zj (mvx rfl (za rfl (vg (l := 1) (h := s.size - (b + 1)) Tryd.underlying9 rfl ⟨_, rfl⟩ (qi).symm (by omega) (by rw [qi]; omega) (avx rfl (yd (yr 0 (.string (s.extract (nQ s b) s.size)) rfl ((by rw [yav (f := b + 1) (k := 1) (m := nQ s b) rfl (by omega)] : (.string ((s.extract (b + 1) s.size).extract 1 (s.size - (b + 1))) : Value) = _)) ?_))))))
        exact yq () ⟨rfl, trivial⟩ ⟨M11.step E XM11, trivial⟩
       ·
        rw [hg] at h6;have h6 := of_decide_eq_false h6;have e1 : nQ s b = b + 1 := by unfold nQ; rw [if_neg h6]
        refine zk (yr 0 (.string (s.extract (nQ s b) s.size)) rfl ((by rw [e1] : (.string (s.extract (b + 1) s.size) : Value) = _)) ?_);exact yq () ⟨rfl, trivial⟩ ⟨M11.step E XM11, trivial⟩
      ·
       rintro _ w12 ⟨M11, _⟩;replace E := E.trans M11;replace LW := LW.step E XLW;replace M7 := M7.step E XM7;replace E := erx (No) w12;obtain ⟨r, hr⟩ : ∃ r, r = xu (s.extract (nQ s b) s.size) 0 := ⟨_, rfl⟩;have e1 : nC s b = nQ s b + r := by rw [nC_e h3, hr]; exact run_shift (f := nQ s b) (a := 0) (by omega)
       refine zf (srx (mvx rfl (za rfl (ya en35 rfl ((zvk _ (s.extract (nQ s b) s.size) (by rw [qi]; omega)).mono ?_)))));rintro e w13 ⟨rfl, hb⟩;refine ⟨_, rfl, ?_⟩;replace E := blx E hb
       refine yc 41 (.int .i64 ((r : Nat) : Int)) rfl ((by rw [hr] : (.int .i64 ((xu (s.extract (nQ s b) s.size) 0 : Nat) : Int) : Value) = _)) (anx rfl (srx (mvx rfl (za rfl (ye rfl rfl (rnx (zt rfl (fun h4 => ?_) (fun h4 => ?_))))))))
       ·
        have h4 : r = 0 := by have h4 := eq_of_beq h4; omega
        have e : numB s 0 = false := zzq (fun h => by have := h.2.2.2; rw [← hn, ← hbq] at this; have := this h3; omega);refine srx (anx rfl (zr (zd (zd (zq (rs := [.tmp 2]) (vs := [_]) rfl ⟨rfl, trivial⟩ ?_)))));exact ⟨by rw [e]; rfl, (LW.step E XLW).toBelow⟩
       ·
        have h4 : r ≠ 0 := fun e => absurd h4 (by rw [e]; decide)
        refine zk (ze (zj (mvx rfl (mvx rfl (za rfl (vg (l := r) (h := s.size - nQ s b) Tryd.underlying9 rfl ⟨_, rfl⟩ (qi).symm (by omega) (by rw [qi]; omega) (avx rfl (yd (yr 0 (.string (s.extract (nC s b) s.size)) rfl ((by rw [yav rfl e1.symm] : (.string ((s.extract (nQ s b) s.size).extract r (s.size - nQ s b)) : Value) = _)) ?_)))))))))
        exact yq () ⟨rfl, trivial⟩ ⟨M7.step E XM7, fun _ => by omega⟩
    ·
     have h3 := of_decide_eq_false h3;refine zk (yr 0 (.string (s.extract (nC s b) s.size)) rfl ((by rw [nC_no h3] : (.string (s.extract b s.size) : Value) = _)) ?_);exact yq () ⟨rfl, trivial⟩ ⟨M7.step E XM7, fun h => absurd h h3⟩
   ·
    rintro _ w8 ⟨M7, h5⟩;replace E := E.trans M7;replace LW := LW.step E XLW;replace E := erx (No) w8;refine srx (mvx rfl (za rfl (oh rfl rfl (anx rfl (zr (yr 2 (.bool (decide (s.size ≤ nC s b))) rfl (by rw [eq_nil]) ?_))))));by_cases h6 : s.size ≤ nC s b
    ·
     have e : numB s 0 = true := numB_on ⟨by rw [← hn]; omega, by rw [← hn, ← hbq]; exact h2, by rw [← hn, ← hbq]; omega, by rw [← hn, ← hbq]; exact h5⟩;refine zq (rs := [.tmp 2]) (vs := [_]) rfl ⟨rfl, trivial⟩ ?_;exact ⟨by rw [e, decide_eq_true h6]; rfl, (LW.step E XLW).toBelow⟩
    ·
     have e : numB s 0 = false := zzq (fun h => by have := h.2.2.1; rw [← hn, ← hbq] at this; omega);refine zq (rs := [.tmp 2]) (vs := [_]) rfl ⟨rfl, trivial⟩ ?_;exact ⟨by rw [e, decide_eq_false h6]; rfl, (LW.step E XLW).toBelow⟩
end
end Go.Proofs.YtmjbnhjgebjhlaaDoor
namespace Go.Proofs.YtmjbnhjgebjhlaaDoor
open Go.RowKit
set_option maxRecDepth 100000
attribute [local irreducible] OW RS
noncomputable def prX (s : ByteArray) : ByteArray := s.extract (cut1 s) s.size
noncomputable def prInf (s : ByteArray) : Bool := (prX s).toList == (⟨#[105, 110, 102]⟩ : ByteArray).toList
noncomputable def prNan (s : ByteArray) : Bool := (prX s).toList == (⟨#[110, 97, 110]⟩ : ByteArray).toList
noncomputable def prV (s : ByteArray) : Nat :=
 if 1000 < s.size then 0
 else if prInf s then sgB (signed s) + 9218868437227405312
 else if prNan s then 9221120237041090560
 else if numB (prX s) 0 then sgB (signed s) + atV (prX s) 0 false
 else 0
noncomputable def prE (s : ByteArray) : Int :=
 if 1000 < s.size then 2
 else if prInf s then 0
 else if prNan s then 0
 else if numB (prX s) 0 then 0
 else 4
theorem prX_size (s : ByteArray) : (prX s).size ≤ s.size := by unfold prX; rw [qi]; omega
theorem Sgn.le {v : Nat} (h : Sgn false v) : v ≤ 9218868437227405312 := h.tame
theorem ykv {v : Nat} (h : Sgn false v) (n : Bool) : ylx (sgB n + v) = sgB n + v := by
 have h1 := zmz h.tame n;rw [sgB_add h.tame] at h1;unfold ylx;rw [h1.num, if_neg (by decide)]
theorem word_signed {v : Nat} (h : Sgn false v) : Ieee.double.word (ng 13830554455654793216) (rg v) = sgB true + v := by
 have h1 : rg v = v := by
  have := h.tame;unfold rg;omega
 rw [h1, show ng 13830554455654793216 = true by decide +kernel];unfold Ieee.Format.word;rw [c1, if_pos rfl];show _ = 9223372036854775808 + v
 omega
theorem sgn_inf : Sgn false 9218868437227405312 := by
 have h := zmz (Nat.le_refl 9218868437227405312) false;rw [show sgB false = 0 from rfl, Nat.zero_or] at h;exact h
theorem rp26_1 : Gives 26 #[.int .i64 1] (.float .f64 9218868437227405312) := by
 intro w;refine yk Tryd.func26 rfl Tryd.ntmps26 rfl ?_;have LW := erx (No) w;have XLW := grx (No) w;have E := erx (No) w
 refine srx (anx rfl (srx (anx rfl (zf (srx (mvx rfl (za rfl (vk rfl rfl (rnx (ym rfl (zj (anx rfl (srx (mvx rfl (za rfl (jc (b := 9218868437227405312) ex34 rfl (anx rfl (zr (zq (rs := [.tmp 2]) (vs := [.float .f64 9218868437227405312]) rfl ⟨rfl, trivial⟩ ?_)))))))))))))))))));exact ⟨rfl, (LW.step E XLW).toBelow⟩
section
variable (w : World) {bp op cp bf of cf bl ol cl : Nat}
theorem realparse_any (s : ByteArray) (hT : Tabs bp op cp bf of cf bl ol cl w) (hE : ∃ te pe, w.cell? ⟨2, 0, none⟩ = some (.iface te pe)) : Calls Tryd.prog 21 #[.string s] w fun e w' => e = .returned (.tuple #[.int .u64 ((prV s : Nat) : Int), .int .i64 (prE s)]) ∧ Below w.heap.size w w' := by
 have hxs := prX_size s;obtain ⟨te, pe, hE⟩ := hE;refine yk Tryd.func21 rfl Tryd.ntmps21 rfl ?_;have HF : Per (No) w (fun _ => True) := Per.true_;have LW := erx (No) w;have XLW := grx (No) w;have E := erx (No) w;replace HF := HF.on E;replace LW := LW.step E XLW;replace E := erx (No) w;replace HF := HF.and (Per.tabs hT (fun _ h => h.elim));replace HF := HF.on E;replace LW := LW.step E XLW
 replace E := erx (No) w;replace HF := HF.and (Per.cellA hE (fun _ h => h.elim));refine srx (avx rfl (anx rfl (zf (srx (mvx rfl (za rfl (qc Tryd.underlying9 rfl (za rfl (qo rfl rfl (rnx (zt rfl (fun h1 => ?_) (fun h1 => ?_))))))))))))
 ·
  have h1 : 1000 < s.size := by have h1 := of_decide_eq_true h1; omega
  refine srx (avx rfl (anx rfl (zr (zd (zq (rs := [.tmp 2, .tmp 3]) (vs := [_, _]) rfl ⟨rfl, rfl, trivial⟩ ?_)))));exact ⟨by unfold prV prE; rw [if_pos h1, if_pos h1]; rfl, (LW.step E XLW).toBelow⟩
 ·
  have h1 : ¬ 1000 < s.size := by have h1 := of_decide_eq_false h1; omega
  refine zk (ze (srx (mvx rfl (za rfl (ya en25 rfl ((cut_any _ s).mono ?_))))));rintro e w1 ⟨rfl, hb⟩;refine ⟨_, rfl, ?_⟩;replace E := blx E hb;refine mvx rfl (za rfl (zz rfl rfl (za rfl (zz rfl rfl (avx rfl (anx rfl (srx (anx rfl (zf ?_)))))))));replace HF := HF.on E;replace LW := LW.step E XLW;replace E := erx (No) w1
  refine qe (ι := Nat) (fun v => [(5, .bool (signed s)), (6, .float .f64 v)]) (fun v w' => Ext (No) w1 w' ∧ (Sgn false v ∧ sgB (signed s) + v = prV s ∧ prE s = 0)) ?_ ?_
  ·
   have M2 := erx (No) w1;have XM2 := grx (No) w1;refine zy (srx (mvx rfl (za rfl (oh rfl rfl (anx rfl (zt rfl (fun h2 => ?_) (fun h2 => ?_)))))))
   ·
    have h2 : prInf s = true := h2;refine zj (za rfl (ya en26 rfl ((rp26_1 _).mono ?_)));rintro e w4 ⟨rfl, hb⟩;refine ⟨_, rfl, ?_⟩;replace E := blx E hb;refine avx rfl (yd (zm ?_));exact yq 9218868437227405312 ⟨rfl, rfl, trivial⟩ ⟨M2.step E XM2, sgn_inf, by unfold prV; rw [if_neg h1, if_pos h2], by unfold prE; rw [if_neg h1, if_pos h2]⟩
   ·
    have h2 : ¬ prInf s = true := by rw [show prInf s = false from h2]; decide
    refine srx (mvx rfl (za rfl (oh rfl rfl (anx rfl (zt rfl (fun h3 => ?_) (fun h3 => ?_))))))
    ·
     have h3 : prNan s = true := h3;refine srx (avx rfl (anx rfl (zr (zp (zd (zq (rs := [.tmp 2, .tmp 3]) (vs := [_, _]) rfl ⟨rfl, rfl, trivial⟩ ?_))))));exact ⟨by unfold prV prE; rw [if_neg h1, if_neg h1, if_neg h2, if_neg h2, if_pos h3, if_pos h3]; rfl, (LW.step E XLW).toBelow⟩
    ·
     have h3 : ¬ prNan s = true := by rw [show prNan s = false from h3]; decide
     refine srx (mvx rfl (za rfl (ya en27 rfl ((numeral_any _ (prX s) (by omega)).mono ?_))));rintro e w5 ⟨rfl, hb⟩;refine ⟨_, rfl, ?_⟩;replace E := blx E hb;refine anx rfl (zt rfl (fun h4 => ?_) (fun h4 => ?_))
     ·
      have hnm := num_nm (Nat.zero_le _) (numB_is h4);refine zj (mvx rfl (za rfl (ya en28 rfl ((parse_pos _ (prX s) hnm (by omega) (HF.on E).here.1.2 ⟨te, pe, (HF.on E).here.2⟩).mono ?_))));rintro e w6 ⟨⟨er, rfl⟩, hb⟩;refine ⟨_, rfl, ?_⟩;replace E := blx E hb
      refine mvx rfl (za rfl (zz rfl rfl (za rfl (zz rfl rfl (avx rfl (yd (zm ?_)))))));exact yq (atV (prX s) 0 false) ⟨rfl, rfl, trivial⟩ ⟨M2.step E XM2, atV_sgn false hnm, by unfold prV; rw [if_neg h1, if_neg h2, if_neg h3, if_pos h4], by unfold prE; rw [if_neg h1, if_neg h2, if_neg h3, if_pos h4]⟩
     ·
      have h4 : ¬ numB (prX s) 0 = true := by rw [h4]; decide
      refine srx (avx rfl (anx rfl (zr (zp (zd (zq (rs := [.tmp 2, .tmp 3]) (vs := [_, _]) rfl ⟨rfl, rfl, trivial⟩ ?_))))));exact ⟨by unfold prV prE; rw [if_neg h1, if_neg h1, if_neg h2, if_neg h2, if_neg h3, if_neg h3, if_neg h4, if_neg h4]; rfl, (LW.step E XLW).toBelow⟩
  ·
   rintro v w3 ⟨M2, ⟨hv, hpv, hpe⟩⟩;replace E := E.trans M2;replace LW := LW.step E XLW;replace E := erx (No) w3;refine zf (srx (mvx rfl (rnx (zt rfl (fun h5 => ?_) (fun h5 => ?_)))))
   ·
    refine zj (mvx rfl (za rfl (ya en29 rfl ((copysign_any _ v hv.lt 13830554455654793216 (by decide)).mono ?_))));rintro e w7 ⟨rfl, hb⟩;refine ⟨_, rfl, ?_⟩;replace E := blx E hb
    refine yc 32 (.float .f64 (sgB true + v)) rfl ((by rw [word_signed hv] : (.float .f64 (Ieee.double.word (ng 13830554455654793216) (rg v)) : Value) = _)) (anx rfl (srx (mvx rfl (za rfl (ya en30 rfl ((bare_any _ (sgB true + v)).mono ?_))))));rintro e w8 ⟨rfl, hb⟩;refine ⟨_, rfl, ?_⟩;replace E := blx E hb
    refine avx rfl (anx rfl (zr (zq (rs := [.tmp 2, .tmp 3]) (vs := [_, _]) rfl ⟨rfl, rfl, trivial⟩ ?_)));exact ⟨by rw [ykv hv, ← hpv, hpe, h5]; rfl, (LW.step E XLW).toBelow⟩
   ·
    refine zk (ze (srx (mvx rfl (za rfl (ya en30 rfl ((bare_any _ v).mono ?_))))));rintro e w9 ⟨rfl, hb⟩;refine ⟨_, rfl, ?_⟩;replace E := blx E hb;have hb0 := ykv hv false;rw [show sgB false = 0 from rfl, Nat.zero_add] at hb0;refine avx rfl (anx rfl (zr (zq (rs := [.tmp 2, .tmp 3]) (vs := [_, _]) rfl ⟨rfl, rfl, trivial⟩ ?_)))
    exact ⟨by rw [hb0, ← hpv, hpe, h5, show sgB false = 0 from rfl, Nat.zero_add]; rfl, (LW.step E XLW).toBelow⟩
end
end Go.Proofs.YtmjbnhjgebjhlaaDoor
namespace Go.Proofs.YtmjbnhjgebjhlaaDoor
open Go.RowKit
def ThreeB (w : World) (n1 n2 : Bool) (A B : Option Addr) (c d : Nat) (xs ys : List Nat) (b : World) : Prop :=
 Two w n1 n2 A B c d xs ys b ∧ (b.cell? ⟨w.heap.size + 1 + 1, 0, none⟩ = some (.bool false) ∧ b.cell? ⟨w.heap.size + 1 + 1, 1, none⟩ = some (.slice none 0 0) ∧ b.frozen? ⟨w.heap.size + 1 + 1, 0, none⟩ = false ∧ b.frozen? ⟨w.heap.size + 1 + 1, 1, none⟩ = false)
def threeB (w : World) (n1 n2 : Bool) (A B : Option Addr) (c d : Nat) (xs ys : List Nat) : World := (two w n1 n2 A B c d xs ys).alloc (.cells #[.bool false, .slice none 0 0] 61)
section
variable (n1 n2 : Bool) (A B : Option Addr) (c d : Nat) (xs ys : List Nat) (w : World)
set_option maxRecDepth 100000
end
section
variable {i j : Int} (A B : Option Addr) (c d : Nat) (w : World) (hi : i.natAbs < B18 ^ 30) (hj : j.natAbs < B18 ^ 30) (hx : Nums w A (limbs i)) (hy : Nums w B (limbs j))
include hi
include hx
include hj hy
end
set_option maxRecDepth 100000
theorem jb {W w' : World} {f : Int} (hb : Below W.heap.size W w') : kk W 0 f (.returned (.tuple #[.agg #[.bool false, .slice none 0 0], .int .i64 f])) w' :=
 ⟨none, 0, by rw [ziv]; rfl, by rw [ziv]; exact Own.nil _ _, hb⟩
theorem kw {w : World} {base c g : Nat} {A : Option Addr} {xs : List Nat} {t : TypeId} {cs : Array Value} (h : Own w base A c xs) (hb : Blk w g t cs) (ht : 30 ≠ t) : Apart (Value.slice A xs.length c).ownBlock (some g) :=
 fun k e f => own_blk_ne h.1 hb ht (e.trans f.symm)
theorem Per.ownN {l : List (Option Nat)} {w : World} {base c : Nat} {A : Option Addr} {xs : List Nat} (h : Own w base A c xs) (hn : NotIn (Value.slice A xs.length c).ownBlock l) : Per (Mut l) w (fun b => Own b base A c xs) :=
 fun _ hb => ⟨jd h.1 hb hn, h.2⟩
section
variable (n1 n2 : Bool) (A B : Option Addr) (c d : Nat) (xs ys : List Nat) (w : World)
end
section
variable (i j : Int) (A B : Option Addr) (c d : Nat) (w : World) (hi : i.natAbs < B18 ^ 30) (hj : j.natAbs < B18 ^ 30) (hx : Nums w A (limbs i)) (hy : Nums w B (limbs j))
include hi hj hx hy
end
/-! ### what stands in the limbs -/
section
variable (i j : Int) (A B : Option Addr) (c d : Nat) (w : World) (hi : i.natAbs < B18 ^ 30) (hj : j.natAbs < B18 ^ 30) (hx : Nums w A (limbs i)) (hy : Nums w B (limbs j))
include hi hj hx hy
end
def RetNumE (W : World) (A0 : Option Addr) (xs0 : List Nat) (v f : Int) (e : Ending) (w' : World) : Prop := ∃ A c, e = .returned (.tuple #[.agg #[.bool (decide (v < 0)), .slice A (tens v).length c], .int .i64 f]) ∧ Nums8 w' A (tens v) ∧ ((∀ q, A = some q → W.heap.size ≤ q.block) ∨ (A = A0 ∧ tens v = xs0)) ∧ Below W.heap.size W w'
section
variable (i j : Int) (A B : Option Addr) (c d : Nat) (w : World) (hi : i.natAbs < B18 ^ 30) (hj : j.natAbs < B18 ^ 30) (hx : Nums8 w A (tens i)) (hy : Nums8 w B (tens j))
include hi hj hx hy
end
def qz (b : UInt8) : Bool := decide (48 ≤ b.toNat) && decide (b.toNat ≤ 57)
def dv (b : UInt8) : Nat := b.toNat - 48
def yy (r : List UInt8) : Nat := val 10 (r.reverse.map dv)
def jz (neg : Bool) (r : List UInt8) : Int := if r ≠ [] ∧ r.all qz = true ∧ yy r < B18 ^ 30 then sgn neg (yy r) else 0
def jk (r : List UInt8) : Int := if r ≠ [] ∧ r.all qz = true then (if yy r < B18 ^ 30 then 0 else 2) else 4
def textN (bs : List UInt8) : Bool := decide (bs.head? = some 45)
def textR (bs : List UInt8) : List UInt8 := if bs.head? = some 45 then bs.tail else bs
theorem dv_small {r : List UInt8} (h : r.all qz = true) : small 10 (r.map dv) := by
 intro x hx;obtain ⟨b, hb, rfl⟩ := List.mem_map.1 hx;have h1 := List.all_eq_true.1 h b hb;unfold qz at h1;unfold dv;simp at h1
 omega
theorem ba_get (s : ByteArray) (j : Nat) : s[j]? = s.data.toList[j]? := by
 show (if h : j < s.size then some s[j] else none) = _
 by_cases h : j < s.size
 · rw [dif_pos h, List.getElem?_eq_getElem (by simpa using h)]; rfl
 · rw [dif_neg h, List.getElem?_eq_none (by simpa using h)]
def dvals (l : List UInt8) : List Value := l.map fun b => .int .u8 ((b.toNat : Int) - 48)
theorem dig_of {b : UInt8} (h1 : 48 ≤ b.toNat) (h2 : b.toNat ≤ 57) : qz b = true := by unfold qz; simp [h1, h2]
def RetRead (W : World) (v f : Int) (e : Ending) (w' : World) : Prop := ∃ A c, e = .returned (.tuple #[.agg #[.bool (decide (v < 0)), .slice A (tens v).length c], .int .i64 f]) ∧ Own8 w' W.heap.size A c (tens v) ∧ Below W.heap.size W w'
theorem zwv {neg : Bool} {r : List UInt8} (h : r.all qz = false) : jz neg r = 0 ∧ jk r = 4 := by
 unfold jz jk;simp [h]
section
variable (s : ByteArray) (r : List UInt8) (w : World)
end
section
variable (s : ByteArray) (w : World)
theorem text_empty {neg : Bool} : jz neg [] = 0 ∧ jk [] = 4 := by unfold jz jk; simp
end
end Go.Proofs.YtmjbnhjgebjhlaaDoor
namespace Go.Proofs.YtmjbnhjgebjhlaaDoor
set_option maxRecDepth 100000
def inI (v n : Int) : Bool := decide (0 ≤ v) && decide (v < n)
def yl (set : Bool) (v n : Int) : Bool := if set then inI v n else decide (v = 0)
def kOK (nf : Nat) (f : LFn) (i : LIns) : Bool :=
 if rK i.op = 1 then decide (0 ≤ i.k)
 else if rK i.op = 2 then inI i.k f.consts.length
 else if rK i.op = 3 then inI i.k f.names.length
 else if rK i.op = 4 then inI i.k f.frees
 else if rK i.op = 5 then decide (0 < i.k) && decide (i.k < (nf : Int))
 else if rK i.op = 10 then decide (rLo i.op ≤ i.k) && decide (i.k ≤ rHi i.op)
 else decide (i.k = 0)
def fsAt (fs : List LFn) (k : Int) : Int := ((fs[k.toNat]?).map (·.frees)).getD 0
def lOK (fs : List LFn) (f : LFn) (i : LIns) : Bool := i.l.all (fun r => inI r f.regs) &&
 (if rL i.op = -2 then true else if rL i.op = -3 then decide (i.l.length % 2 = 0) else if rL i.op = -4 then decide ((i.l.length : Int) = fsAt fs i.k) else if rL i.op = -1 then decide (i.l.length = 0) else decide ((i.l.length : Int) = rL i.op))
def vr (fs : List LFn) (f : LFn) (at_ : Nat) (i : LIns) : Bool := (flN i.op != 0) && (yl (uD i.op) i.d f.regs && (yl (uA i.op) i.a f.regs && (yl (uB i.op) i.b f.regs && (yl (uT i.op) i.t f.ins.length && (kOK fs.length f i && (lOK fs f i && ((!(decide (i.op = 40)) || f.gen) && ((decide (at_ + 1 < f.ins.length) || (decide (i.op = 18) || (decide (i.op = 41) || decide (i.op = 42))))))))))))
noncomputable def zez (c : Int × ByteArray) : Bool :=
 if c.1 = 3 then decide (c.2.size ≤ 20000)
 else if c.2.data.toList.head?.all (fun b => !qz b) = true then false
 else if c.1 = 1 then decide (jk c.2.data.toList = 0)
 else if c.1 = 2 then decide (prE c.2 = 0) else false
noncomputable def jt (f : LFn) (n : Nat) : Bool := decide (0 ≤ f.regs) && (decide (f.regs ≤ 65536) && (decide (0 ≤ f.params) && (decide (f.params ≤ f.regs) && (decide (0 ≤ f.frees) && (decide (0 ≤ f.bound) && (decide (f.ins.length ≠ 0) && (decide (f.name.size ≤ 20000) && (f.names.all (fun s => decide (s.size ≤ 20000)) && (f.consts.all zez && ((decide (0 < n) || (decide (f.params = 0) && (decide (f.frees = 0) && !f.gen)))))))))))))
def rgC (f : LFn) (r : LReg) : Bool := decide (0 ≤ r.fr) && (decide (r.fr ≤ r.to) && (decide (r.to ≤ (f.ins.length : Int)) && (inI r.tg f.ins.length && inI r.d f.regs)))
def jo (fs : List LFn) (f : LFn) : Nat → List LIns → Option Nat
 | _, [] => none
 | at_, i :: l => if vr fs f at_ i then jo fs f (at_ + 1) l else some at_
noncomputable def goF (fs : List LFn) : Nat → List LFn → Int × Int × Int
 | _, [] => (0, 0, 0)
 | n, f :: l => if jt f n then (match jo fs f 0 f.ins with
  | some at_ => ((n : Int), (at_ : Int), 3)
  | none => if f.rgs.all (rgC f) then goF fs (n + 1) l else ((n : Int), -2, 3)) else ((n : Int), -1, 3)
noncomputable def kd (fs : List LFn) : Int × Int × Int := if fs.length < 1 ∨ 4000 < fs.length then (-1, -1, 3) else goF fs 0 fs
end Go.Proofs.YtmjbnhjgebjhlaaDoor
namespace Go.Proofs.YtmjbnhjgebjhlaaDoor
open Go.RowKit
set_option maxRecDepth 100000
attribute [local irreducible] OW RS
theorem bitL (op : Int) : (flN op).testBit 4 = uT op := rfl
theorem range_op {op : Int} (h : (flN op).testBit 15 = true) : op = 2 ∨ op = 14 ∨ op = 15 ∨ op = 16 ∨ op = 44 := by
 by_cases h0 : op < 0 ∨ 44 < op
 · have e : flN op = 0 := by unfold flN; rw [if_pos h0]
   rw [e] at h; simp at h
 · have key : ∀ k : Fin 45, (flN (k.val : Int)).testBit 15 = true → k.val = 2 ∨ k.val = 14 ∨ k.val = 15 ∨ k.val = 16 ∨ k.val = 44 := by decide +kernel
   have e : op = ((op.toNat : Nat) : Int) := by omega
   rw [e] at h;have := key ⟨op.toNat, by omega⟩ h;simp only at this
   omega
def spLo (op : Int) : Int := if op = 2 then 0 else if op = 14 then 1 else if op = 15 then 1 else if op = 16 then 1 else 0
def spHi (op : Int) : Int := if op = 2 then 2 else if op = 14 then 7 else if op = 15 then 2 else if op = 16 then 10 else 34
theorem span_row {op : Int} (h : (flN op).testBit 15 = true) : spLo op = rLo op ∧ spHi op = rHi op := by
 rcases range_op h with rfl | rfl | rfl | rfl | rfl <;> decide
theorem zdv (nf : Nat) (f : LFn) (i : LIns) : kOK nf f i = if (flN i.op).testBit 10 = true then decide (0 ≤ i.k) else if (flN i.op).testBit 11 = true then inI i.k f.consts.length else if (flN i.op).testBit 12 = true then inI i.k f.names.length else if (flN i.op).testBit 13 = true then inI i.k f.frees
 else if (flN i.op).testBit 14 = true then decide (0 < i.k) && decide (i.k < (nf : Int)) else if (flN i.op).testBit 15 = true then decide (rLo i.op ≤ i.k) && decide (i.k ≤ rHi i.op) else decide (i.k = 0) := by
 unfold kOK rK;generalize (flN i.op).testBit 10 = b1
 generalize (flN i.op).testBit 11 = b2
 generalize (flN i.op).testBit 12 = b3
 generalize (flN i.op).testBit 13 = b4
 generalize (flN i.op).testBit 14 = b5
 generalize (flN i.op).testBit 15 = b6
 cases b1 <;> cases b2 <;> cases b3 <;> cases b4 <;> cases b5 <;> cases b6 <;> rfl
def fnC (p : Pl) (f : LFn) : List Value := [.string f.name, .int .i64 f.params, .int .i64 f.regs, .int .i64 f.frees, .bool f.gen, .int .i64 f.bound, .slice p.an f.names.length p.cn, .slice p.ac f.consts.length p.cc, .slice p.ai f.ins.length p.ci, .slice p.ar f.rgs.length p.cr]
attribute [local irreducible] flN uD uA uB uT uL rL rK rLo rHi
section
variable (w : World)
theorem zex (b : Bool) (v n : Int) : Calls Tryd.prog 14 #[.bool b, .int .i64 v, .int .i64 n] w fun e w' => e = .returned (.bool (yl b v n)) ∧ Below w.heap.size w w' := by
 refine yk Tryd.func14 rfl Tryd.ntmps14 rfl ?_;have LW := erx (No) w;have XLW := grx (No) w;have E := erx (No) w;refine srx (anx rfl (srx (mvx rfl (mvx rfl (yp 8 rfl (fun h1 => ?_) (fun h1 => ?_))))))
 ·
  refine onx rfl (zn rfl (onx rfl (vk rfl rfl (za rfl (zw rfl rfl (mvx rfl (yp 12 rfl (fun h2 => ?_) (fun h2 => ?_))))))))
  ·
   replace h2 := of_decide_eq_true h2;refine onx rfl (zn rfl (onx rfl (zn rfl (onx rfl (yv rfl rfl (za rfl (zw rfl rfl (mvx rfl (yp 17 rfl (fun h3 => ?_) (fun h3 => ?_))))))))))
   ·
    replace h3 := of_decide_eq_true h3;refine za rfl (zc rfl (za rfl (zc rfl (za rfl (zc rfl (za rfl (qr rfl rfl (za rfl (qr rfl rfl (za rfl (zc rfl (za rfl (zw rfl rfl (anx rfl (zr (zq (rs := [.tmp 6]) (vs := [_]) rfl ⟨rfl, trivial⟩ ?_))))))))))))))))
    exact ⟨by refine congrArg (fun z => Ending.returned (.bool z)) ?_; first | rfl | (simp_all [yl, inI]; done) | (simp_all [yl, inI]; omega) | (simp_all [yl, inI]; intros; omega) | (simp_all [yl, inI]; rfl), (LW.step E XLW).toBelow⟩
   ·
    replace h3 := of_decide_eq_false h3;refine onx rfl (zn rfl (onx rfl (vv rfl (onx rfl (zn rfl (yp 20 rfl (fun h4 => ?_) (fun h4 => ?_)))))))
    ·
     refine onx rfl (zn rfl (onx rfl (ye rfl rfl (onx rfl (zw rfl rfl (za rfl (yb rfl rfl (anx rfl (zr (zq (rs := [.tmp 6]) (vs := [_]) rfl ⟨rfl, trivial⟩ ?_))))))))))
     exact ⟨by refine congrArg (fun z => Ending.returned (.bool z)) ?_; first | rfl | (simp_all [yl, inI]; done) | (simp_all [yl, inI]; omega) | (simp_all [yl, inI]; intros; omega) | (simp_all [yl, inI]; rfl), (LW.step E XLW).toBelow⟩
    ·
     refine za rfl (zc rfl (za rfl (zc rfl (onx rfl (yb rfl rfl (za rfl (yb rfl rfl (anx rfl (zr (zq (rs := [.tmp 6]) (vs := [_]) rfl ⟨rfl, trivial⟩ ?_))))))))))
     exact ⟨by refine congrArg (fun z => Ending.returned (.bool z)) ?_; first | rfl | (simp_all [yl, inI]; done) | (simp_all [yl, inI]; omega) | (simp_all [yl, inI]; intros; omega) | (simp_all [yl, inI]; rfl), (LW.step E XLW).toBelow⟩
  ·
   replace h2 := of_decide_eq_false h2;refine za rfl (zc rfl (za rfl (zc rfl (za rfl (zc rfl (za rfl (yb rfl rfl (mvx rfl (onx rfl (zn rfl (onx rfl (vv rfl (onx rfl (zn rfl (yp 20 rfl (fun h5 => ?_) (fun h5 => ?_))))))))))))))))
   ·
    refine onx rfl (zn rfl (onx rfl (ye rfl rfl (onx rfl (zw rfl rfl (za rfl (yb rfl rfl (anx rfl (zr (zq (rs := [.tmp 6]) (vs := [_]) rfl ⟨rfl, trivial⟩ ?_))))))))))
    exact ⟨by refine congrArg (fun z => Ending.returned (.bool z)) ?_; first | rfl | (simp_all [yl, inI]; done) | (simp_all [yl, inI]; omega) | (simp_all [yl, inI]; intros; omega) | (simp_all [yl, inI]; rfl), (LW.step E XLW).toBelow⟩
   ·
    refine za rfl (zc rfl (za rfl (zc rfl (onx rfl (yb rfl rfl (za rfl (yb rfl rfl (anx rfl (zr (zq (rs := [.tmp 6]) (vs := [_]) rfl ⟨rfl, trivial⟩ ?_))))))))))
    exact ⟨by refine congrArg (fun z => Ending.returned (.bool z)) ?_; first | rfl | (simp_all [yl, inI]; done) | (simp_all [yl, inI]; omega) | (simp_all [yl, inI]; intros; omega) | (simp_all [yl, inI]; rfl), (LW.step E XLW).toBelow⟩
 ·
  refine za rfl (zc rfl (za rfl (zc rfl (za rfl (yb rfl rfl (mvx rfl (za rfl (zc rfl (za rfl (zc rfl (za rfl (zc rfl (za rfl (yb rfl rfl (mvx rfl (onx rfl (zn rfl (onx rfl (vv rfl (onx rfl (zn rfl (yp 20 rfl (fun h6 => ?_) (fun h6 => ?_)))))))))))))))))))))))
  ·
   refine onx rfl (zn rfl (onx rfl (ye rfl rfl (onx rfl (zw rfl rfl (za rfl (yb rfl rfl (anx rfl (zr (zq (rs := [.tmp 6]) (vs := [_]) rfl ⟨rfl, trivial⟩ ?_))))))))))
   exact ⟨by refine congrArg (fun z => Ending.returned (.bool z)) ?_; first | rfl | (simp_all [yl, inI]; done) | (simp_all [yl, inI]; omega) | (simp_all [yl, inI]; intros; omega) | (simp_all [yl, inI]; rfl), (LW.step E XLW).toBelow⟩
  ·
   refine za rfl (zc rfl (za rfl (zc rfl (onx rfl (yb rfl rfl (za rfl (yb rfl rfl (anx rfl (zr (zq (rs := [.tmp 6]) (vs := [_]) rfl ⟨rfl, trivial⟩ ?_))))))))))
   exact ⟨by refine congrArg (fun z => Ending.returned (.bool z)) ?_; first | rfl | (simp_all [yl, inI]; done) | (simp_all [yl, inI]; omega) | (simp_all [yl, inI]; intros; omega) | (simp_all [yl, inI]; rfl), (LW.step E XLW).toBelow⟩
theorem span_any (op : Int) : Calls Tryd.prog 22 #[.int .i64 op] w fun e w' => e = .returned (.tuple #[.int .i64 (spLo op), .int .i64 (spHi op)]) ∧ Below w.heap.size w w' := by
 refine yk Tryd.func22 rfl Tryd.ntmps22 rfl ?_;have LW := erx (No) w;have XLW := grx (No) w;have E := erx (No) w;refine srx (avx rfl (anx rfl (zf (srx (mvx rfl (rnx (zy (srx (za rfl (ye rfl rfl (anx rfl (zt rfl (fun h1 => ?_) (fun h1 => ?_)))))))))))))
 ·
  refine zv 5 (.bool true) rfl (congrArg Value.bool h1) ?_;replace h1 := eq_of_beq h1;subst h1;refine srx (avx rfl (anx rfl (zr (zp (zd (zq (rs := [.tmp 2, .tmp 3]) (vs := [_, _]) rfl ⟨rfl, rfl, trivial⟩ ?_))))));exact ⟨by first | rfl | (simp_all [spLo, spHi]; done) | (simp_all [spLo, spHi]; rfl), (LW.step E XLW).toBelow⟩
 ·
  refine zv 5 (.bool false) rfl (congrArg Value.bool h1) ?_;replace h1 := beq_eq_false_iff_ne.1 h1;refine srx (za rfl (ye rfl rfl (anx rfl (zt rfl (fun h2 => ?_) (fun h2 => ?_)))))
  ·
   refine zv 7 (.bool true) rfl (congrArg Value.bool h2) ?_;replace h2 := eq_of_beq h2;subst h2;refine srx (avx rfl (anx rfl (zr (zp (zd (zq (rs := [.tmp 2, .tmp 3]) (vs := [_, _]) rfl ⟨rfl, rfl, trivial⟩ ?_))))));exact ⟨by first | rfl | (simp_all [spLo, spHi]; done) | (simp_all [spLo, spHi]; rfl), (LW.step E XLW).toBelow⟩
  ·
   refine zv 7 (.bool false) rfl (congrArg Value.bool h2) ?_;replace h2 := beq_eq_false_iff_ne.1 h2;refine srx (za rfl (ye rfl rfl (anx rfl (zt rfl (fun h3 => ?_) (fun h3 => ?_)))))
   ·
    refine zv 9 (.bool true) rfl (congrArg Value.bool h3) ?_;replace h3 := eq_of_beq h3;subst h3;refine srx (avx rfl (anx rfl (zr (zp (zd (zq (rs := [.tmp 2, .tmp 3]) (vs := [_, _]) rfl ⟨rfl, rfl, trivial⟩ ?_))))));exact ⟨by first | rfl | (simp_all [spLo, spHi]; done) | (simp_all [spLo, spHi]; rfl), (LW.step E XLW).toBelow⟩
   ·
    refine zv 9 (.bool false) rfl (congrArg Value.bool h3) ?_;replace h3 := beq_eq_false_iff_ne.1 h3;refine srx (za rfl (ye rfl rfl (anx rfl (zt rfl (fun h4 => ?_) (fun h4 => ?_)))))
    ·
     refine zv 11 (.bool true) rfl (congrArg Value.bool h4) ?_;replace h4 := eq_of_beq h4;subst h4;refine srx (avx rfl (anx rfl (zr (zp (zd (zq (rs := [.tmp 2, .tmp 3]) (vs := [_, _]) rfl ⟨rfl, rfl, trivial⟩ ?_))))));exact ⟨by first | rfl | (simp_all [spLo, spHi]; done) | (simp_all [spLo, spHi]; rfl), (LW.step E XLW).toBelow⟩
    ·
     refine zv 11 (.bool false) rfl (congrArg Value.bool h4) ?_;replace h4 := beq_eq_false_iff_ne.1 h4;refine zk (zm (ze (srx (avx rfl (anx rfl (zr (zq (rs := [.tmp 2, .tmp 3]) (vs := [_, _]) rfl ⟨rfl, rfl, trivial⟩ ?_)))))));exact ⟨by first | rfl | (simp_all [spLo, spHi]; done) | (simp_all [spLo, spHi]; rfl), (LW.step E XLW).toBelow⟩
end
section
variable (w : World) (A : Option Addr) (nf cp : Nat) (p : Pl) (f : LFn) (i : LIns) (B : Option Addr) (c : Nat)
theorem rightK_any : Calls Tryd.prog 18 #[.agg #[.slice A nf cp], fnV p f, .agg #[.int .i64 i.op, .int .i64 i.d, .int .i64 i.a, .int .i64 i.b, .int .i64 i.t, .int .i64 i.k, .slice B i.l.length c], .int .i64 ((flN i.op : Nat) : Int)] w fun e w' => e = .returned (.bool (kOK nf f i)) ∧ Below w.heap.size w w' := by
 refine yk Tryd.func18 rfl Tryd.ntmps18 rfl ?_;have HF : Per (No) w (fun _ => True) := Per.true_;have LW := erx (No) w;have XLW := grx (No) w;have E := erx (No) w;refine srx (za rfl (jx rfl ?_));intro gb1 w2 Bb1 Eb1 Gb1;have Gb1 : _ ≤ gb1 := Nat.le_trans E.size Gb1;have GLb1 := Nat.le_trans LW.size Gb1;replace E := E.trans Eb1.no;replace HF := HF.cons (yf Gb1)
 replace E := E.cons (some gb1);replace XLW := Mut.grow XLW (fun k e => Or.inr (Nat.le_trans LW.size ((yf Gb1) k e)));replace HF := HF.on E;replace LW := LW.step E XLW;have SB : ∀ q9, No q9 → Mut [(some gb1)] q9 := (Mut.skip Mut.nil_);replace HF := HF.less SB;replace XLW := fun k h => XLW k (SB k h);clear SB;replace E := erx (No) w2;replace HF := HF.and (Per.blkN Bb1 NotIn.nil)
 refine za rfl (jx rfl ?_);intro gb3 w4 Bb3 Eb3 Gb3;have Gb3 : _ ≤ gb3 := Nat.le_trans E.size Gb3;have GLb3 := Nat.le_trans LW.size Gb3;replace E := E.trans Eb3.no;replace HF := HF.cons (yf Gb3);replace E := E.cons (some gb3);replace XLW := Mut.grow XLW (fun k e => Or.inr (Nat.le_trans LW.size ((yf Gb3) k e)));replace HF := HF.on E;replace LW := LW.step E XLW
 have SB : ∀ q9, No q9 → Mut [(some gb3)] q9 := (Mut.skip Mut.nil_);replace HF := HF.less SB;replace XLW := fun k h => XLW k (SB k h);clear SB;replace E := erx (No) w4;replace HF := HF.and (Per.blkN Bb3 NotIn.nil);refine za rfl (jx rfl ?_);intro gb5 w6 Bb5 Eb5 Gb5;have Gb5 : _ ≤ gb5 := Nat.le_trans E.size Gb5;have GLb5 := Nat.le_trans LW.size Gb5;replace E := E.trans Eb5.no
 replace HF := HF.cons (yf Gb5);replace E := E.cons (some gb5);replace XLW := Mut.grow XLW (fun k e => Or.inr (Nat.le_trans LW.size ((yf Gb5) k e)));replace HF := HF.on E;replace LW := LW.step E XLW;have SB : ∀ q9, No q9 → Mut [(some gb5)] q9 := (Mut.skip Mut.nil_);replace HF := HF.less SB;replace XLW := fun k h => XLW k (SB k h);clear SB;replace E := erx (No) w6
 replace HF := HF.and (Per.blkN Bb5 NotIn.nil)
 refine anx rfl (zf (zy (srx (mvx rfl (za rfl (qx rfl rfl (vb i.op 1024 (by decide)) (za rfl (qj rfl rfl (anx rfl (zv 11 (.bool ((flN i.op).testBit 10)) rfl ((by rw [show (1024 : Nat) = 2 ^ 10 from rfl, jf] : (.bool (((flN i.op &&& 1024 : Nat) : Int) != 0) : Value) = _)) (zt rfl (fun q10 => ?_) (fun q10 => ?_))))))))))))
 ·
  refine srx (za rfl (zb Tryd.underlying40 rfl sz3 (by decide) rfl (za rfl (zl Tryd.underlying3 rfl rfl (HF.on E).here.2 rfl (za rfl (vk rfl rfl (anx rfl (zr (zp (zd (zq (rs := [.tmp 8]) (vs := [_]) rfl ⟨rfl, trivial⟩ ?_)))))))))));exact ⟨by rw [zdv, if_pos q10]; rfl, (LW.step E XLW).toBelow⟩
 ·
  refine srx (mvx rfl (za rfl (qx rfl rfl (vb i.op 2048 (by decide)) (za rfl (qj rfl rfl (anx rfl (zv 18 (.bool ((flN i.op).testBit 11)) rfl ((by rw [show (2048 : Nat) = 2 ^ 11 from rfl, jf] : (.bool (((flN i.op &&& 2048 : Nat) : Int) != 0) : Value) = _)) (zt rfl (fun q11 => ?_) (fun q11 => ?_)))))))))
  ·
   refine srx (za rfl (zb Tryd.underlying40 rfl sz3 (by decide) rfl (za rfl (zl Tryd.underlying3 rfl rfl (HF.on E).here.2 rfl (za rfl (zb Tryd.underlying37 rfl sz33 (by decide) rfl (za rfl (zl Tryd.underlying33 rfl rfl (HF.on E).here.1.2 rfl (za rfl (vj Tryd.underlying33 rfl (za rfl (ya en14 rfl ((zex _ true i.k f.consts.length).mono ?_)))))))))))))
   rintro e w7 ⟨rfl, hb⟩;refine ⟨_, rfl, ?_⟩;replace E := blx E hb;refine anx rfl (zr (zp (zd (zq (rs := [.tmp 8]) (vs := [_]) rfl ⟨rfl, trivial⟩ ?_))));exact ⟨by rw [zdv, if_neg (by rw [q10]; decide), if_pos q11]; rfl, (LW.step E XLW).toBelow⟩
  ·
   refine srx (mvx rfl (za rfl (qx rfl rfl (vb i.op 4096 (by decide)) (za rfl (qj rfl rfl (anx rfl (zv 28 (.bool ((flN i.op).testBit 12)) rfl ((by rw [show (4096 : Nat) = 2 ^ 12 from rfl, jf] : (.bool (((flN i.op &&& 4096 : Nat) : Int) != 0) : Value) = _)) (zt rfl (fun q12 => ?_) (fun q12 => ?_)))))))))
   ·
    refine srx (za rfl (zb Tryd.underlying40 rfl sz3 (by decide) rfl (za rfl (zl Tryd.underlying3 rfl rfl (HF.on E).here.2 rfl (za rfl (zb Tryd.underlying37 rfl sz32 (by decide) rfl (za rfl (zl Tryd.underlying32 rfl rfl (HF.on E).here.1.2 rfl (za rfl (vj Tryd.underlying32 rfl (za rfl (ya en14 rfl ((zex _ true i.k f.names.length).mono ?_)))))))))))))
    rintro e w8 ⟨rfl, hb⟩;refine ⟨_, rfl, ?_⟩;replace E := blx E hb;refine anx rfl (zr (zp (zd (zq (rs := [.tmp 8]) (vs := [_]) rfl ⟨rfl, trivial⟩ ?_))));exact ⟨by rw [zdv, if_neg (by rw [q10]; decide), if_neg (by rw [q11]; decide), if_pos q12]; rfl, (LW.step E XLW).toBelow⟩
   ·
    refine srx (mvx rfl (za rfl (qx rfl rfl (vb i.op 8192 (by decide)) (za rfl (qj rfl rfl (anx rfl (zv 38 (.bool ((flN i.op).testBit 13)) rfl ((by rw [show (8192 : Nat) = 2 ^ 13 from rfl, jf] : (.bool (((flN i.op &&& 8192 : Nat) : Int) != 0) : Value) = _)) (zt rfl (fun q13 => ?_) (fun q13 => ?_)))))))))
    ·
     refine srx (za rfl (zb Tryd.underlying40 rfl sz3 (by decide) rfl (za rfl (zl Tryd.underlying3 rfl rfl (HF.on E).here.2 rfl (za rfl (zb Tryd.underlying37 rfl sz3 (by decide) rfl (za rfl (zl Tryd.underlying3 rfl rfl (HF.on E).here.1.2 rfl (za rfl (ya en14 rfl ((zex _ true i.k f.frees).mono ?_)))))))))));rintro e w9 ⟨rfl, hb⟩
     refine ⟨_, rfl, ?_⟩;replace E := blx E hb;refine anx rfl (zr (zp (zd (zq (rs := [.tmp 8]) (vs := [_]) rfl ⟨rfl, trivial⟩ ?_))));exact ⟨by rw [zdv, if_neg (by rw [q10]; decide), if_neg (by rw [q11]; decide), if_neg (by rw [q12]; decide), if_pos q13]; rfl, (LW.step E XLW).toBelow⟩
    ·
     refine srx (mvx rfl (za rfl (qx rfl rfl (vb i.op 16384 (by decide)) (za rfl (qj rfl rfl (anx rfl (zv 47 (.bool ((flN i.op).testBit 14)) rfl ((by rw [show (16384 : Nat) = 2 ^ 14 from rfl, jf] : (.bool (((flN i.op &&& 16384 : Nat) : Int) != 0) : Value) = _)) (zt rfl (fun q14 => ?_) (fun q14 => ?_)))))))))
     ·
      refine srx (za rfl (zb Tryd.underlying40 rfl sz3 (by decide) rfl (za rfl (zl Tryd.underlying3 rfl rfl (HF.on E).here.2 rfl (za rfl (qo rfl rfl (mvx rfl (yp 54 rfl (fun t1 => ?_) (fun t1 => ?_)))))))))
      ·
       replace t1 := of_decide_eq_true t1
       refine onx rfl (zb Tryd.underlying40 rfl sz3 (by decide) rfl (onx rfl (zl Tryd.underlying3 rfl rfl (HF.on E).here.2 rfl (onx rfl (zb Tryd.underlying24 rfl sz22 (by decide) rfl (onx rfl (zl Tryd.underlying22 rfl rfl (HF.on E).here.1.1.2 rfl (onx rfl (vj Tryd.underlying22 rfl (onx rfl (yv rfl rfl (za rfl (zw rfl rfl (anx rfl (zr (zp (zd (zq (rs := [.tmp 8]) (vs := [_]) rfl ⟨rfl, trivial⟩ ?_))))))))))))))))))
       exact ⟨by rw [zdv, if_neg (by rw [q10]; decide), if_neg (by rw [q11]; decide), if_neg (by rw [q12]; decide), if_neg (by rw [q13]; decide), if_pos q14]; refine congrArg (fun z => Ending.returned (.bool z)) ?_; first | rfl | (simp_all; done) | (simp_all; omega) | (simp_all; intros; omega) | (simp_all; rfl), (LW.step E XLW).toBelow⟩
      ·
       replace t1 := of_decide_eq_false t1;refine za rfl (zc rfl (za rfl (zc rfl (za rfl (zc rfl (za rfl (zc rfl (za rfl (zc rfl (za rfl (zc rfl (za rfl (yb rfl rfl (anx rfl (zr (zp (zd (zq (rs := [.tmp 8]) (vs := [_]) rfl ⟨rfl, trivial⟩ ?_))))))))))))))))))
       exact ⟨by rw [zdv, if_neg (by rw [q10]; decide), if_neg (by rw [q11]; decide), if_neg (by rw [q12]; decide), if_neg (by rw [q13]; decide), if_pos q14]; refine congrArg (fun z => Ending.returned (.bool z)) ?_; first | rfl | (simp_all; done) | (simp_all; omega) | (simp_all; intros; omega) | (simp_all; rfl), (LW.step E XLW).toBelow⟩
     ·
      refine srx (mvx rfl (za rfl (qx rfl rfl (vb i.op 32768 (by decide)) (za rfl (qj rfl rfl (anx rfl (zv 62 (.bool ((flN i.op).testBit 15)) rfl ((by rw [show (32768 : Nat) = 2 ^ 15 from rfl, jf] : (.bool (((flN i.op &&& 32768 : Nat) : Int) != 0) : Value) = _)) (zt rfl (fun q15 => ?_) (fun q15 => ?_)))))))))
      ·
       refine srx (za rfl (zb Tryd.underlying40 rfl sz3 (by decide) rfl (za rfl (zl Tryd.underlying3 rfl rfl (HF.on E).here.2 rfl (za rfl (ya en22 rfl ((span_any _ i.op).mono ?_)))))));rintro e w10 ⟨rfl, hb⟩;refine ⟨_, rfl, ?_⟩;replace E := blx E hb;obtain ⟨eL, eH⟩ := span_row q15
       refine mvx rfl (za rfl (zz rfl rfl (za rfl (zz rfl rfl (avx rfl (anx rfl (srx (za rfl (zb Tryd.underlying40 rfl sz3 (by decide) rfl (za rfl (zl Tryd.underlying3 rfl rfl (HF.on E).here.2 rfl (mvx rfl (za rfl (vk rfl rfl (mvx rfl (yp 76 rfl (fun t1 => ?_) (fun t1 => ?_)))))))))))))))))
       ·
        replace t1 := of_decide_eq_true t1;refine onx rfl (zb Tryd.underlying40 rfl sz3 (by decide) rfl (onx rfl (zl Tryd.underlying3 rfl rfl (HF.on E).here.2 rfl (onx rfl (zn rfl (onx rfl (gz rfl rfl (za rfl (zw rfl rfl (anx rfl (zr (zp (zd (zq (rs := [.tmp 8]) (vs := [_]) rfl ⟨rfl, trivial⟩ ?_))))))))))))))
        exact ⟨by rw [zdv, if_neg (by rw [q10]; decide), if_neg (by rw [q11]; decide), if_neg (by rw [q12]; decide), if_neg (by rw [q13]; decide), if_neg (by rw [q14]; decide), if_pos q15, ← eL, ← eH]; refine congrArg (fun z => Ending.returned (.bool z)) ?_; first | rfl | (simp_all; done) | (simp_all; omega) | (simp_all; intros; omega) | (simp_all; rfl), (LW.step E XLW).toBelow⟩
       ·
        replace t1 := of_decide_eq_false t1;refine za rfl (zc rfl (za rfl (zc rfl (za rfl (zc rfl (za rfl (zc rfl (za rfl (yb rfl rfl (anx rfl (zr (zp (zd (zq (rs := [.tmp 8]) (vs := [_]) rfl ⟨rfl, trivial⟩ ?_))))))))))))))
        exact ⟨by rw [zdv, if_neg (by rw [q10]; decide), if_neg (by rw [q11]; decide), if_neg (by rw [q12]; decide), if_neg (by rw [q13]; decide), if_neg (by rw [q14]; decide), if_pos q15, ← eL, ← eH]; refine congrArg (fun z => Ending.returned (.bool z)) ?_; first | rfl | (simp_all; done) | (simp_all; omega) | (simp_all; intros; omega) | (simp_all; rfl), (LW.step E XLW).toBelow⟩
      ·
       refine zk (zm (ze (srx (za rfl (zb Tryd.underlying40 rfl sz3 (by decide) rfl (za rfl (zl Tryd.underlying3 rfl rfl (HF.on E).here.2 rfl (za rfl (ye rfl rfl (anx rfl (zr (zq (rs := [.tmp 8]) (vs := [_]) rfl ⟨rfl, trivial⟩ ?_))))))))))))
       exact ⟨by rw [zdv, if_neg (by rw [q10]; decide), if_neg (by rw [q11]; decide), if_neg (by rw [q12]; decide), if_neg (by rw [q13]; decide), if_neg (by rw [q14]; decide), if_neg (by rw [q15]; decide)]; refine congrArg (fun z => Ending.returned (.bool z)) ?_; first | rfl | (simp_all; done) | (simp_all; omega) | (simp_all; intros; omega) | (simp_all; rfl), (LW.step E XLW).toBelow⟩
end
end Go.Proofs.YtmjbnhjgebjhlaaDoor
namespace Go.Proofs.YtmjbnhjgebjhlaaDoor
open Go.RowKit
set_option maxRecDepth 100000
theorem zsv {α : Type} {l : List α} {P : α → Bool} {k : Nat} {y : α} (hy : l[k]? = some y) (h : (l.take k).all P = true) (hp : P y = true) : (l.take (k + 1)).all P = true := by
 rw [List.take_add_one, hy, List.all_append, h];simp [hp]
theorem jg {α : Type} {l : List α} {P : α → Bool} {k : Nat} {y : α} (hy : l[k]? = some y) (hp : P y = false) : l.all P = false := by
 rw [List.all_eq_false];exact ⟨y, List.mem_of_getElem? hy, by rw [hp]; decide⟩
theorem ycq {α : Type} {l : List α} {P : α → Bool} {k : Nat} (h : (l.take k).all P = true) (hk : ¬ k < l.length) : l.all P = true := by rwa [List.take_of_length_le (by omega)] at h
structure FsA (n : Nat) (w : World) (A : Option Addr) (fs : List LFn) : Prop where
 len : fs.length ≤ 140737488351232
 row : RowS n w 10 (fun w g o f => ∃ p, FnA n w p f ∧ xp w g o (fnC p f)) A fs
 strs : ∀ f ∈ fs, ∀ c ∈ f.consts, c.2.size ≤ 140737488355328
theorem FsA.low {n : Nat} {X : Nat → Prop} {w w' : World} {A : Option Addr} {fs : List LFn} (h : FsA n w A fs) (k : Low n X w w') : FsA n w' A fs :=
 ⟨h.len, h.row.low fun g o f hg ⟨p, h1, h2⟩ => ⟨p, h1.low k, k.cells hg h2⟩, h.strs⟩
theorem FsA.no {n : Nat} {w w' : World} {A : Option Addr} {fs : List LFn} (h : FsA n w A fs) (k : Ext No w w') : FsA n w' A fs := h.low (X := No) ⟨k, fun _ h => h.elim⟩
theorem Per.fsA {n : Nat} {X : Nat → Prop} {w : World} {A : Option Addr} {fs : List LFn} (h : FsA n w A fs) (hX : ∀ k, X k → n ≤ k) : Per X w (fun z => FsA n z A fs) := fun _ hb => h.low ⟨hb, hX⟩
theorem FsA.at {n : Nat} {w : World} {A : Option Addr} {fs : List LFn} (h : FsA n w A fs) {j : Nat} {f : LFn} (hj : fs[j]? = some f) : ∃ g o p, A = some ⟨g, o, none⟩ ∧ g < n ∧ FnA n w p f ∧ xp w g (o + j * 10) (fnC p f) := by
 obtain ⟨g, o, e, hg, p, h1, h2⟩ := h.row.at hj;exact ⟨g, o, p, e, hg, h1, h2⟩
theorem fsAt_of {fs : List LFn} {k : Nat} {f : LFn} (h : fs[k]? = some f) : fsAt fs ((k : Nat) : Int) = f.frees := by
 unfold fsAt;rw [show ((k : Nat) : Int).toNat = k from rfl, h]; rfl
theorem yjv (v n : Int) : yl true v n = inI v n := rfl
theorem op_36 {op : Int} (h : (flN op).testBit 9 = true) : (flN op).testBit 10 = false ∧ (flN op).testBit 11 = false ∧ (flN op).testBit 12 = false ∧ (flN op).testBit 13 = false ∧ (flN op).testBit 14 = true := by
 by_cases h0 : op < 0 ∨ 44 < op
 · have e : flN op = 0 := by unfold flN; rw [if_pos h0]
   rw [e] at h; simp at h
 · have key : ∀ k : Fin 45, (flN (k.val : Int)).testBit 9 = true → (flN (k.val : Int)).testBit 10 = false ∧ (flN (k.val : Int)).testBit 11 = false ∧ (flN (k.val : Int)).testBit 12 = false ∧ (flN (k.val : Int)).testBit 13 = false ∧ (flN (k.val : Int)).testBit 14 = true := by decide +kernel
   have e : op = ((op.toNat : Nat) : Int) := by omega
   rw [e] at h ⊢;exact key ⟨op.toNat, by omega⟩ h
theorem kOK_36 {nf : Nat} {f : LFn} {i : LIns} (h : kOK nf f i = true) (h9 : (flN i.op).testBit 9 = true) : 0 < i.k ∧ i.k < (nf : Int) := by
 obtain ⟨h10, h11, h12, h13, h14⟩ := op_36 h9;rw [zdv, h10, h11, h12, h13, h14] at h;simp at h
 omega
theorem zvx (fs : List LFn) (f : LFn) (i : LIns) : lOK fs f i = (i.l.all (fun r => inI r f.regs) && (if (flN i.op).testBit 5 = true then true else if (flN i.op).testBit 6 = true then decide (i.l.length % 2 = 0) else if (flN i.op).testBit 7 = true then decide ((i.l.length : Int) = 1) else if (flN i.op).testBit 8 = true then decide ((i.l.length : Int) = 2) else if (flN i.op).testBit 9 = true then decide ((i.l.length : Int) = fsAt fs i.k) else decide (i.l.length = 0))) := by
 unfold lOK rL;generalize (flN i.op).testBit 5 = b1
 generalize (flN i.op).testBit 6 = b2
 generalize (flN i.op).testBit 7 = b3
 generalize (flN i.op).testBit 8 = b4
 generalize (flN i.op).testBit 9 = b5
 cases b1 <;> cases b2 <;> cases b3 <;> cases b4 <;> cases b5 <;> rfl
theorem IntsA.cellA {n : Nat} {w : World} {A : Option Addr} {xs : List Int} (h : IntsA n w A xs) {j g o : Nat} {x : Int} (hj : xs[j]? = some x) (hA : A = some ⟨g, o, none⟩) : w.cell? ⟨g, o + j, none⟩ = some (.int .i64 x) := by
 obtain ⟨g', o', e, _, hc⟩ := h.cell hj;rw [hA] at e;cases e
 exact hc
theorem FsA.cellA {n : Nat} {w : World} {A : Option Addr} {fs : List LFn} (h : FsA n w A fs) {j g o : Nat} {f : LFn} (hj : fs[j]? = some f) (hA : A = some ⟨g, o, none⟩) : w.cell? ⟨g, o + j * 10 + 3, none⟩ = some (.int .i64 f.frees) := by
 obtain ⟨g', o', p, e, _, _, hc⟩ := h.at hj;rw [hA] at e;cases e
 exact hc 3 _ rfl
theorem InsA.at {n : Nat} {w : World} {A : Option Addr} {xs : List LIns} (h : InsA n w A xs) {j : Nat} {x : LIns} (hj : xs[j]? = some x) : ∃ g o B c, A = some ⟨g, o, none⟩ ∧ g < n ∧ 8 * x.l.length ≤ 140737488351232 ∧ IntsA n w B x.l ∧ xp w g (o + j * 7) (zlz x B c) := by
 obtain ⟨g, o, e, hg, _, B, c, h1, h2, h3⟩ := h.row.at hj;exact ⟨g, o, B, c, e, hg, h1, h2, h3⟩
abbrev FB := LFn × QP
def fsV (xs : List FB) : List Value := xs.flatMap fun x => fnC x.2.pl x.1
theorem fsV_len (xs : List FB) : (fsV xs).length = xs.length * 10 := yaz (en := fun x : FB => fnC x.2.pl x.1) (s := 10) (fun _ => rfl) xs
theorem fsV_add (xs : List FB) (x : FB) : fsV xs ++ fnC x.2.pl x.1 = fsV (xs ++ [x]) := by unfold fsV; rw [List.flatMap_append]; simp
theorem fsV_one {xs : List FB} : ∀ u ∈ fsV xs, u.oneCell' = true := fun u hu => by
 unfold fsV at hu;obtain ⟨x, _, hx⟩ := List.mem_flatMap.1 hu;unfold fnC at hx;simp only [List.mem_cons, List.not_mem_nil, or_false] at hx
 rcases hx with rfl | rfl | rfl | rfl | rfl | rfl | rfl | rfl | rfl | rfl <;> rfl
def Odd (t : TypeId) : Prop := 9 ≠ t ∧ 55 ≠ t ∧ 40 ≠ t ∧ 50 ≠ t ∧ 3 ≠ t
theorem zzx : Odd 37 := ⟨by decide, by decide, by decide, by decide, by decide⟩
theorem zzz : Odd 24 := ⟨by decide, by decide, by decide, by decide, by decide⟩
section
variable {lo : Nat} {w w' : World} {q : QP} {f : LFn} {X : Nat → Prop}
theorem FnO.ne_blk (h : FnO lo w q f) {g : Nat} {t : TypeId} {cs : Array Value} (ht : Odd t) (hb : Blk w g t cs) : ¬ zoz q f g := fun hk => by
 have key : ∀ {e : TypeId} {b n s : Nat} {v : Value} {ys : List Value}, w.ownsRow b e s v n ys → v.ownBlock = some g → e ≠ t → False := fun ho hg hne => by
  obtain ⟨cur, h2⟩ := gu ho hg;exact hne (znv h2 hb)
 rcases hk with hk | hk | hk | hk | ⟨x, hx, hk⟩
 · exact key h.names hk ht.1
 · exact key h.consts hk ht.2.1
 · exact key h.ins.i hk ht.2.2.1
 · exact key h.rgs hk ht.2.2.2.1
 · exact key (h.ins.l x hx) hk ht.2.2.2.2
theorem FnO.blk (h : FnO lo w q f) {g : Nat} {t : TypeId} {cs : Array Value} (ht : Odd t) (hb : Blk w g t cs) (k : Ext (Mut [some g]) w w') : FnO lo w' q f := h.ext k fun b hk hx => by
 rw [kq hx] at hk;exact h.ne_blk ht hb hk
theorem FnO.row (h : FnO lo w q f) {b n s : Nat} {t : TypeId} {v : Value} {ys : List Value} (ht : Odd t) (ho : w.ownsRow b t s v n ys) (k : Ext (Mut [v.ownBlock]) w w') : FnO lo w' q f := h.ext k fun b hk hx => by
 obtain ⟨cur, h2⟩ := gu ho (zcq hx);exact h.ne_blk ht h2 hk
end
theorem FnO.base {lo m : Nat} {w : World} {q : QP} {f : LFn} (hx : FnO m w q f) (hlo : lo ≤ m) : FnO lo w q f := ⟨oo hx.names hlo, oo hx.consts hlo, ⟨oo hx.ins.i hlo, fun y hy => oo (hx.ins.l y hy) hlo, hx.ins.ap⟩, hx.ise, oo hx.rgs hlo⟩
theorem Per.fnO {X : Nat → Prop} {m m0 : Nat} {w : World} {q : QP} {f : LFn} (h : FnO m w q f) (hX : ∀ k, X k → k < m) (hm : m0 ≤ m) : Per X w (fun b => FnO m0 b q f) := fun z hz => (h.ext hz (fun b hb hx => by have := (h.bl hb).1; have := hX b hx; omega)).base hm
structure FnG (f : LFn) : Prop where
 i : FnI f
 s : ∀ c ∈ f.consts, c.2.size ≤ 140737488355328
structure FsO (lo : Nat) (w : World) (A : Option Addr) (c : Nat) (xs : List FB) : Prop where
 row : w.ownsRow lo 37 10 (.slice A xs.length c) xs.length (fsV xs)
 fn : ∀ x ∈ xs, FnO lo w x.2 x.1
 g : ∀ x ∈ xs, FnG x.1
 ap : ∀ (i j : Nat) x y, xs[i]? = some x → xs[j]? = some y → i ≠ j → ∀ k, zoz x.2 x.1 k → ¬ zoz y.2 y.1 k
 len : xs.length ≤ 140737488351232
section
variable {lo : Nat} {w w' : World} {A : Option Addr} {c : Nat} {xs : List FB} {X : Nat → Prop}
theorem FsO.nil : FsO lo w none 0 [] := ⟨xc, fun _ h => (by cases h), fun _ h => (by cases h), fun _ _ _ _ h => (by cases h), by decide⟩
theorem FsO.ext (h : FsO lo w A c xs) (k : Ext X w w') (hr : ∀ q, (Value.slice A xs.length c).ownBlock = some q → ¬ X q) (hf : ∀ x ∈ xs, ∀ b, zoz x.2 x.1 b → ¬ X b) : FsO lo w' A c xs :=
 ⟨qg h.row k hr, fun x hx => (h.fn x hx).ext k (hf x hx), h.g, h.ap, h.len⟩
theorem FsO.no (h : FsO lo w A c xs) (k : Ext No w w') : FsO lo w' A c xs := h.ext k (fun _ _ h => h.elim) fun _ _ _ _ h => h.elim
theorem FsO.blk (h : FsO lo w A c xs) {g : Nat} {t : TypeId} {cs : Array Value} (ht : Odd t) (h2 : 37 ≠ t) (hb : Blk w g t cs) (k : Ext (Mut [some g]) w w') : FsO lo w' A c xs :=
 ⟨qb h.row hb h2 k, fun x hx => (h.fn x hx).blk ht hb k, h.g, h.ap, h.len⟩
theorem FsO.add (h : FsO lo w A c xs) {x : FB} {A' : Option Addr} {c' : Nat} (hx : FnO w.heap.size w' x.2 x.1) (hlo : lo ≤ w.heap.size) (hg : FnG x.1) (hl : xs.length + 1 ≤ 140737488351232)
 (hr : w'.ownsRow lo 37 10 (.slice A' (xs ++ [x]).length c') (xs ++ [x]).length (fsV (xs ++ [x]))) (k : Ext (Mut [(Value.slice A xs.length c).ownBlock]) w w') : FsO lo w' A' c' (xs ++ [x]) := by
 obtain ⟨m, hm0⟩ : ∃ m, m = w.heap.size := ⟨_, rfl⟩;have hm : ∀ y ∈ xs, ∀ b, zoz y.2 y.1 b → b < m := fun y hy b hb => by rw [hm0]; exact ((h.fn y hy).bl hb).2
 rw [← hm0] at hx hlo;have hx2 : FnO lo w' x.2 x.1 := hx.base hlo;have hge : ∀ b, zoz x.2 x.1 b → m ≤ b := fun b hb => (hx.bl hb).1;refine ⟨hr, fun y hy => ?_, fun y hy => ?_, fun i j y z hi hj hij b hb hb2 => ?_, by rw [List.length_append]; exact hl⟩
 · rcases List.mem_append.1 hy with hy | hy
   · exact (h.fn y hy).row zzx h.row k
   · rw [List.mem_singleton] at hy;subst hy;exact hx2
 · rcases List.mem_append.1 hy with hy | hy
   · exact h.g y hy
   · rw [List.mem_singleton] at hy;subst hy;exact hg
 · have hcase : ∀ {i : Nat} {y : FB}, (xs ++ [x])[i]? = some y → (i < xs.length ∧ xs[i]? = some y) ∨ (i = xs.length ∧ y = x) := fun {i y} hi => by
    rcases Nat.lt_or_ge i xs.length with h1 | h1
    · rw [List.getElem?_append_left h1] at hi;exact Or.inl ⟨h1, hi⟩
    · rw [List.getElem?_append_right h1] at hi;rcases hz : i - xs.length with _ | z
      · rw [hz] at hi;exact Or.inr ⟨by omega, (Option.some.inj hi).symm⟩
      · rw [hz] at hi; cases hi
   rcases hcase hi with ⟨h1, h2⟩ | ⟨h1, rfl⟩ <;> rcases hcase hj with ⟨h3, h4⟩ | ⟨h3, rfl⟩
   · exact h.ap i j y z h2 h4 hij b hb hb2
   · have := hm y (List.mem_of_getElem? h2) b hb;have := hge b hb2;omega
   · have := hm z (List.mem_of_getElem? h4) b hb2;have := hge b hb;omega
   · omega
theorem FsO.lt (h : FsO lo w A c xs) {x : FB} (hx : x ∈ xs) {b : Nat} (hb : zoz x.2 x.1 b) : b < w.heap.size := ((h.fn x hx).bl hb).2
theorem FsO.fsA (h : FsO lo w A c xs) : FsA w.heap.size w A (xs.map (·.1)) := by
 refine ⟨by rw [List.length_map]; exact h.len, fun h0 => ?_, fun f hf => ?_⟩
 · have h1 : 0 < xs.length := by rcases xs with _ | ⟨y, ys⟩ <;> simp at h0 ⊢
   obtain ⟨g, hA, _, hg, hc⟩ := kv h.row h1;refine ⟨g, 0, hA, hg, fun j f hj => ?_⟩;rw [List.getElem?_map] at hj;obtain ⟨x, hx, rfl⟩ := Option.map_eq_some_iff.1 hj;have hm := List.mem_of_getElem? hx;refine ⟨x.2.pl, (h.fn x hm).fn (h.g x hm).i, fun i v hv => ?_⟩;rw [Nat.zero_add];exact hc _ _ (zjq (s := 10) (fun _ => rfl) hx hv)
 · obtain ⟨x, hx, rfl⟩ := List.mem_map.1 hf;exact (h.g x hx).s
end
end Go.Proofs.YtmjbnhjgebjhlaaDoor

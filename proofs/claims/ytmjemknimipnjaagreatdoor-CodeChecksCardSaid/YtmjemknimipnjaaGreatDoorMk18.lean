/- Texts of this claim. -/
import Derived.Test.YtmjemknimipnjaaGreatDoorMk17
namespace Go.Proofs.YtmjemknimipnjaaGreatDoor
open Go.RowKit
set_option maxRecDepth 100000
attribute [local irreducible] OW RS
theorem powtab_at {j : Nat} (h : j < 9) : (pows.map (fun z => Value.int .i64 z))[j]? = some (.int .i64 ((pt j : Nat) : Int)) := by
 have key : ∀ i : Fin 9, pows[i.val]? = some ((pt i.val : Nat) : Int) := by decide +kernel
 rw [List.getElem?_map, key ⟨j, h⟩]; rfl
theorem pt_far {j : Nat} (h : 9 ≤ j) : pt j = 27 := by unfold pt; rw [if_pos h]
theorem and_i2047 {k : Nat} (h : k ≤ 2047) : IntKind.i64.wrap (BitVec.ofInt IntKind.i64.bits ((k : Nat) : Int) &&& BitVec.ofInt IntKind.i64.bits 2047).toNat = ((k : Nat) : Int) := by
 have key : ∀ v : Fin 2048, IntKind.i64.wrap (BitVec.ofInt IntKind.i64.bits ((v.val : Nat) : Int) &&& BitVec.ofInt IntKind.i64.bits 2047).toNat = ((v.val : Nat) : Int) := by decide +kernel
 exact key ⟨k, by omega⟩
theorem shl_52 {k : Nat} (h : k ≤ 2047) : IntKind.u64.wrap (((k : Nat) : Int) * 2 ^ (min ((52 : Int)).toNat IntKind.u64.bits)) = ((k * 4503599627370496 : Nat) : Int) := by
 have e := zox k 52 (by decide);have e2 : k * 2 ^ 52 % 18446744073709551616 = k * 4503599627370496 := Nat.mod_eq_of_lt (by show k * 4503599627370496 < 18446744073709551616; omega);rw [e2] at e;exact e
theorem and_lo {m : Nat} (h : m < 18446744073709551616) : IntKind.u64.wrap (BitVec.ofInt IntKind.u64.bits ((m : Nat) : Int) &&& BitVec.ofInt IntKind.u64.bits 4503599627370495).toNat = ((m &&& 4503599627370495 : Nat) : Int) := xp (n := 4503599627370495) h (by decide)
theorem and_hi {m : Nat} (h : m < 18446744073709551616) : IntKind.u64.wrap (BitVec.ofInt IntKind.u64.bits ((m : Nat) : Int) &&& BitVec.ofInt IntKind.u64.bits 4503599627370496).toNat = ((m &&& 4503599627370496 : Nat) : Int) := xp (n := 4503599627370496) h (by decide)
theorem fbR_neg {t : Dec} (ht : DecI t) (h0 : 0 < t.nd) (hd : -330 ≤ t.dp ∧ t.dp ≤ 310) : (fbR t).t.neg = t.neg := by
 have h := vt (done := zdz) (step := zcv) (fun s => FbRI s ∧ s.t.neg = t.neg) (fun s => msR s.t) (fun s h hd => ?_) ⟨yex ht h0 hd, rfl⟩
 · exact h.1.2
 · obtain ⟨h1, h2⟩ := yez h.1 hd;obtain ⟨_, _, _, _, h5⟩ := kk (k := pt s.t.dp.toNat) h.1.dec (pt_le _).1 h.1.pos;exact ⟨⟨h1, h5.trans h.2⟩, h2⟩
theorem fbL_neg {t : Dec} (ht : DecI t) (h0 : 0 < t.nd) (hd : -330 ≤ t.dp ∧ t.dp ≤ 310) : (fbL t).t.neg = t.neg := by
 obtain ⟨h1, h2⟩ := fbR_ends ht h0 hd;have h := vt (done := zjq) (step := zdx) (fun s => FbLI s ∧ s.t.neg = t.neg) (fun s => msL s.t) (fun s h hd => ?_) ⟨yeq h1 h2, fbR_neg ht h0 hd⟩
 · exact h.1.2
 · obtain ⟨h3, h4⟩ := yek h.1 hd;obtain ⟨_, _, _, _, _, h5⟩ := zik (k := pt (-s.t.dp).toNat) h.1.dec h.1.pos (pt_shl _);exact ⟨⟨h3, h5.trans h.2⟩, h4⟩
theorem shrD_neg {t : Dec} {k : Nat} (h : ShI ⟨t, k⟩) : (shrD t k).neg = t.neg := by
 have h1 := vt (done := zlk) (step := ztq) (fun s => ShI s ∧ s.t.neg = t.neg) (fun s => s.k) (fun s h hd => ?_) ⟨h, rfl⟩
 · have h2 : ShI (shA t k) ∧ (shA t k).t.neg = t.neg := h1.1;obtain ⟨_, _, _, _, h5⟩ := kk (k := (shA t k).k) h2.1.dec h2.1.k1.1 h2.1.pos;exact h5.trans h2.2
 · obtain ⟨h3, h4⟩ := sh_keeps h.1 hd;obtain ⟨_, _, _, _, h5⟩ := kk (k := 60) h.1.dec (by decide) h.1.pos;exact ⟨⟨h3, h5.trans h.2⟩, h4⟩
def xu (m k : Nat) : Nat := (m &&& 4503599627370495) ||| k * 4503599627370496
theorem slowC_or {m k : Nat} (hk : k ≤ 2047) : IntKind.u64.wrap (BitVec.ofInt IntKind.u64.bits ((m &&& 4503599627370495 : Nat) : Int) ||| BitVec.ofInt IntKind.u64.bits ((k * 4503599627370496 : Nat) : Int)).toNat = ((xu m k : Nat) : Int) :=
 km (Nat.lt_of_le_of_lt Nat.and_le_right (by decide)) (by omega)
theorem slowC_lt {m k : Nat} (hk : k ≤ 2047) : xu m k < 18446744073709551616 :=
 or_lt (k := 64) (Nat.lt_of_le_of_lt Nat.and_le_right (by decide)) (by show k * 4503599627370496 < 18446744073709551616; omega)
theorem slowC_neg {m k : Nat} (hk : k ≤ 2047) : IntKind.u64.wrap (BitVec.ofInt IntKind.u64.bits ((xu m k : Nat) : Int) ||| BitVec.ofInt IntKind.u64.bits 9223372036854775808).toNat = ((xu m k ||| 9223372036854775808 : Nat) : Int) :=
 km (n := 9223372036854775808) (slowC_lt hk) (by decide)
section
variable (w : World) {bp op cp bf of cf bl ol cl : Nat}
set_option maxHeartbeats 2000000 in
theorem bits_any (ga : Nat) (t : Dec) (ht : DecI t) (hdp0 : -20000000 ≤ t.dp ∧ t.dp ≤ 20000000) (hB : Blk w ga 136 (qh t)) (hT : Tabs bp op cp bf of cf bl ol cl w) (hg : TabsB bp bf bl ga) :
 Calls Tryz.prog 70 #[.pointer (some ⟨ga, 0, none⟩), .pointer (some ⟨5, 0, none⟩)] w fun e w' => e = .returned (.tuple #[.int .u64 ((zbv t : Nat) : Int), .bool (xm t).2.2]) ∧ (∃ t', Blk w' ga 136 (qh t')) ∧ Ext (Mut [some ga]) w w' := by
 have hl := ht.len;have hnd := ht.hn;refine yn Tryz.func70 rfl Tryz.ntmps70 rfl ?_;have Ba := hB;have HF : Per (Mut [(some ga)]) w (fun _ => True) := Per.true_;have LW := erx (Mut [(some ga)]) w;have XLW := grx (Mut [(some ga)]) w;have E := erx (Mut [(some ga)]) w;replace HF := HF.on E;replace LW := LW.step E XLW;replace E := erx (Mut [(some ga)]) w
 replace HF := HF.and (Per.tabsB hT hg (fun q h => h.elim (fun e => Nat.le_of_eq (Option.some.inj e).symm) (fun e => e.elim)));replace HF := HF.on E;replace LW := LW.step E XLW;replace E := erx (Mut [(some ga)]) w;replace HF := HF.and (Per.cellB (HF.on E).here.2.man hg.info (fun q h => h.elim (fun e => Nat.le_of_eq (Option.some.inj e).symm) (fun e => e.elim)));replace HF := HF.on E
 replace LW := LW.step E XLW;replace E := erx (Mut [(some ga)]) w;replace HF := HF.and (Per.cellB (HF.on E).here.1.2.exp hg.info (fun q h => h.elim (fun e => Nat.le_of_eq (Option.some.inj e).symm) (fun e => e.elim)));replace HF := HF.on E;replace LW := LW.step E XLW;replace E := erx (Mut [(some ga)]) w
 replace HF := HF.and (Per.cellB (HF.on E).here.1.1.2.bias hg.info (fun q h => h.elim (fun e => Nat.le_of_eq (Option.some.inj e).symm) (fun e => e.elim)));refine srx (avx rfl (anx rfl (cw_scope 4 ?_)));replace HF := HF.on E;replace LW := LW.step E XLW;replace E := erx (Mut [(some ga)]) w
 refine cw_tail (l := 0) (ι := Nat × Nat × Bool × Dec) (fun (m, k, ov, u) => [(0, .pointer (some ⟨ga, 0, none⟩)), (1, .pointer (some ⟨5, 0, none⟩)), (5, .bool ov), (6, .int .i64 (((k : Nat) : Int) - 1023)), (7, .int .u64 ((m : Nat) : Int))]) (fun (m, k, ov, u) w' => Ext (Mut [(some ga)]) w w' ∧ Blk w' ga 136 (qh u) ∧ (xm t = (m, k, ov) ∧ m < 18446744073709551616 ∧ k ≤ 2047 ∧ u.d.length = 800 ∧ u.neg = t.neg)) rfl ?_ ?_
 ·
  intro TLM1;have M1 := erx (Mut [(some ga)]) w;have XM1 := grx (Mut [(some ga)]) w;replace HF := HF.on E;replace LW := LW.step E XLW;replace M1 := M1.step E XM1;replace E := erx (Mut [(some ga)]) w
  refine cw_tail (l := 1) (ι := Dec) (fun u => [(0, .pointer (some ⟨ga, 0, none⟩)), (1, .pointer (some ⟨5, 0, none⟩))]) (fun u w' => Ext (Mut [(some ga)]) w w' ∧ Blk w' ga 136 (qh u) ∧ (xm t = (0, 2047, true) ∧ u.d.length = 800 ∧ u.neg = t.neg)) rfl ?_ ?_
  ·
   intro TLM3;have M3 := erx (Mut [(some ga)]) w;have XM3 := grx (Mut [(some ga)]) w;refine srx (anx rfl (srx (anx rfl (zi (srx (mvx rfl (za rfl (zu rfl (za rfl (zb Tryz.underlying136 rfl sz3 (by decide) rfl (za rfl (zh Tryz.underlying3 rfl rfl Ba (xw hl t.nd rfl) (za rfl (zz rfl rfl (rnx (zt rfl (fun h1 => ?_) (fun h1 => ?_)))))))))))))))))
   ·
    have h1 : t.nd = 0 := by have h1 := eq_of_beq h1; omega
    have hfb : xm t = (0, 0, false) := by unfold xm; rw [if_pos h1]
    refine srx (anx rfl (srx (mvx rfl (za rfl (zu rfl (za rfl (zb Tryz.underlying126 rfl sz3 (by decide) rfl (za rfl (yx Tryz.underlying3 rfl rfl (HF.on E).here.2 (anx rfl (zdk (jw ?_))))))))))));exact zdq rfl TLM1 (0, 0, false, t) ⟨rfl, rfl, rfl, rfl, rfl, trivial⟩ ⟨M1.step E XM1, (by exact Ba), hfb, by decide, by decide, hl, rfl⟩
   ·
    have h1 : t.nd ≠ 0 := fun e => absurd h1 (by rw [e]; decide);refine zn (ze (zi (srx (mvx rfl (za rfl (zu rfl (za rfl (zb Tryz.underlying136 rfl sz3 (by decide) rfl (za rfl (zh Tryz.underlying3 rfl rfl Ba (znx hl t.dp rfl) (za rfl (qe rfl rfl (rnx (zt rfl (fun h2 => ?_) (fun h2 => ?_)))))))))))))))
    ·
     have h2 := of_decide_eq_true h2;have hfb : xm t = (0, 2047, true) := by unfold xm; rw [if_neg h1, if_pos h2]
     refine zdk (jw ?_);exact zdq rfl TLM3 t ⟨rfl, rfl, trivial⟩ ⟨M3.step E XM3, (by exact Ba), hfb, hl, rfl⟩
    ·
     have h2 := of_decide_eq_false h2;refine zn (ze (zi (srx (mvx rfl (za rfl (zu rfl (za rfl (zb Tryz.underlying136 rfl sz3 (by decide) rfl (za rfl (zh Tryz.underlying3 rfl rfl Ba (znx hl t.dp rfl) (za rfl (yv rfl rfl (rnx (zt rfl (fun h3 => ?_) (fun h3 => ?_)))))))))))))))
     ·
      have h3 := of_decide_eq_true h3;have hfb : xm t = (0, 0, false) := by unfold xm; rw [if_neg h1, if_neg h2, if_pos h3]
      refine srx (anx rfl (srx (mvx rfl (za rfl (zu rfl (za rfl (zb Tryz.underlying126 rfl sz3 (by decide) rfl (za rfl (yx Tryz.underlying3 rfl rfl (HF.on E).here.2 (anx rfl (zdk (jw ?_))))))))))));exact zdq rfl TLM1 (0, 0, false, t) ⟨rfl, rfl, rfl, rfl, rfl, trivial⟩ ⟨M1.step E XM1, (by exact Ba), hfb, by decide, by decide, hl, rfl⟩
     ·
      have h3 := of_decide_eq_false h3;have hpos : 0 < t.nd := by omega
      have hfb0 : xm t = fbMid (fbL t).t ((fbL t).e - 1) := by unfold xm; rw [if_neg h1, if_neg h2, if_neg h3]
      refine zn (ze (srx (anx rfl (zi ?_))));replace HF := HF.on E;replace M1 := M1.step E XM1;replace M3 := M3.step E XM3;replace E := erx (Mut [(some ga)]) w
      refine qf (ι := FbS) (fun s => [(0, .pointer (some ⟨ga, 0, none⟩)), (1, .pointer (some ⟨5, 0, none⟩)), (4, .int .u64 0), (5, .bool false), (6, .int .i64 s.e), (7, .int .u64 0)]) (fun s w' => Ext (Mut [(some ga)]) w w' ∧ Blk w' ga 136 (qh s.t) ∧ (s = fbR t)) ?_ ?_
      ·
       have M5 := erx (Mut [(some ga)]) w;have XM5 := grx (Mut [(some ga)]) w;refine yc ?_;replace HF := HF.on E;replace M5 := M5.step E XM5;replace E := erx (Mut [(some ga)]) w
       refine qm (ι := FbS) (fun s => [(0, .pointer (some ⟨ga, 0, none⟩)), (1, .pointer (some ⟨5, 0, none⟩)), (4, .int .u64 0), (5, .bool false), (6, .int .i64 s.e), (7, .int .u64 0)]) (fun s w' => Ext (Mut [(some ga)]) w w' ∧ Blk w' ga 136 (qh s.t) ∧ (FbRI s ∧ va zdz zcv s = fbR t)) (fun s => msR s.t) (⟨t, 0⟩) ⟨rfl, rfl, rfl, rfl, rfl, rfl, trivial⟩ ⟨Ext.refl _ _, (by exact Ba), yex ht hpos (by omega), rfl⟩ ?_
       have LTa := (yo Ba.lt);clear Ba;rintro s w8 ⟨M7, Ba, ⟨hI, hu⟩⟩;have XM7 : Gro (Mut [(some ga)]) (Mut [(some ga)]) w := (Mut.grow Mut.none_ (fun k e => Or.inl (Mut.head k e)));replace E := E.trans M7;replace HF := HF.on E;replace M5 := M5.step E XM5;replace E := erx (Mut [(some ga)]) w8;have hls := hI.dec.len;have hsd := hI.dp;have hse := hI.e;have hsp := hI.pos
       refine zi (srx (mvx rfl (za rfl (zu rfl (za rfl (zb Tryz.underlying136 rfl sz3 (by decide) rfl (za rfl (zh Tryz.underlying3 rfl rfl Ba (znx hls s.t.dp rfl) (za rfl (qe rfl rfl (rnx (zt rfl (fun h4 => ?_) (fun h4 => ?_)))))))))))))
       ·
        have h4 := of_decide_eq_true h4;have hdone : zdz s = false := decide_eq_false (by omega);obtain ⟨hkeep, hms⟩ := yez hI hdone;obtain ⟨P, hP⟩ : ∃ P, P = pt s.t.dp.toNat := ⟨_, rfl⟩;have hP1 := pt_le s.t.dp.toNat;have hst : zcv s = ⟨jh s.t P, s.e + ((P : Nat) : Int)⟩ := by rw [hP]; rfl
        rw [← hP] at hP1;rw [vc hdone] at hu;rw [hst] at hu hkeep hms;refine zn (ze (yc (srx (anx rfl (zi (zi ?_))))));replace HF := HF.on E;replace M7 := M7.step E XM7;replace E := erx (Mut [(some ga)]) w8
        refine qf (ι := Bool) (fun g => [(0, .pointer (some ⟨ga, 0, none⟩)), (1, .pointer (some ⟨5, 0, none⟩)), (4, .int .u64 0), (5, .bool false), (6, .int .i64 s.e), (7, .int .u64 0), (8, .int .i64 0), (46, .bool g)]) (fun g w' => Ext (Mut [(some ga)]) w8 w' ∧ Blk w' ga 136 (qh s.t) ∧ (g = decide (9 ≤ s.t.dp))) ?_ ?_
        ·
         have M9 := erx (Mut [(some ga)]) w8;have XM9 := grx (Mut [(some ga)]) w8;have OY : ∀ q9, (Mut (xe [])) q9 → q9 < (World.drew w8).heap.size → (Mut [(some ga)]) q9 := fun k h _ => (Mut.none_) k h;refine vo (Mut [(some ga)]) (Mut.grow Mut.none_ (yo Ba.lt)) [] [] (oi [Fx.of (.pointer (some ⟨ga, 0, none⟩)),
          Fx.of (.pointer (some ⟨ga, 0, none⟩)),
          Fx.of (.pointer (some ⟨ga, 801, none⟩)),
          Fx.of (.int .i64 s.t.dp),
          Fx.of (.slice (some ⟨bp, op, none⟩) 9 cp),
          Fx.of (.int .i64 9),
          Fx.of (.bool (decide (9 ≤ s.t.dp)))]) mixed rfl trivial (fun _ h => by cases h) ?_ ?_
         · refine ⟨?_, ?_, ?_, ?_, ?_, ?_, ?_, trivial⟩
           · intro vs X wq K;exact zv rfl ⟨Below.refl _ _, Left.of rfl⟩
           · intro vs X wq K;obtain ⟨_, e0, k0⟩ := K.dep 0 rfl rfl rfl;refine zk 40 (.pointer (some ⟨ga, 0, none⟩)) rfl e0 ?_;exact zu rfl ⟨Below.refl _ _, Left.of rfl⟩
           · intro vs X wq K;obtain ⟨_, e1, k1⟩ := K.dep 1 rfl rfl rfl;refine zk 41 (.pointer (some ⟨ga, 0, none⟩)) rfl e1 ?_;exact zb Tryz.underlying136 rfl sz3 (by decide) rfl ⟨Below.refl _ _, Left.of rfl⟩
           · intro vs X wq K;have LE := K.1;obtain ⟨_, e2, k2⟩ := K.dep 2 rfl rfl rfl;refine zk 42 (.pointer (some ⟨ga, 801, none⟩)) rfl e2 ?_;exact zh Tryz.underlying3 rfl rfl (Ba.drew.extN LE NotIn.nil) (znx hls s.t.dp rfl) ⟨Below.refl _ _, Left.of rfl⟩
           · intro vs X wq K;have LE := K.1;exact yx Tryz.underlying44 rfl rfl (HF.on (E.drew.trans (LE.mono OY))).here.1.1.1.2.powtab.head ⟨Below.refl _ _, Left.of rfl⟩
           · intro vs X wq K;obtain ⟨_, e4, k4⟩ := K.dep 4 rfl rfl rfl;refine zk 44 (.slice (some ⟨bp, op, none⟩) 9 cp) rfl e4 ?_;exact qr Tryz.underlying44 rfl ⟨Below.refl _ _, Left.of rfl⟩
           · intro vs X wq K;obtain ⟨_, e3, k3⟩ := K.dep 3 rfl rfl rfl;refine zk 43 (.int .i64 s.t.dp) rfl e3 ?_;obtain ⟨_, e5, k5⟩ := K.dep 5 rfl rfl rfl;refine zk 45 (.int .i64 9) rfl e5 ?_;exact qz rfl rfl ⟨Below.refl _ _, Left.of rfl⟩
         intro vs w11 LE AO AL AF AA;have LBa := Ba;replace Ba := Ba.drew.extN LE NotIn.nil;replace E := E.drew.trans (LE.mono OY);obtain ⟨_, e6, k6⟩ := AL.2.2.2.2.2.2.1;refine jj (τ := [(0, _), (1, _), (4, _), (5, _), (6, _), (7, _), (8, _), (46, .bool (decide (9 ≤ s.t.dp)))]) ⟨rfl, rfl, rfl, rfl, rfl, rfl, rfl, congrArg some e6, trivial⟩ ?_;clear AL AF AA LE AO OY e6 k6 LBa
         exact yu (decide (9 ≤ s.t.dp)) ⟨rfl, rfl, rfl, rfl, rfl, rfl, rfl, rfl, trivial⟩ ⟨M9.step E XM9, (by exact Ba), rfl⟩
        ·
         have LTa := (yo Ba.lt);clear Ba;rintro g w10 ⟨M9, Ba, hgg⟩;replace E := E.trans M9;replace HF := HF.on E;replace M7 := M7.step E XM7;replace E := erx (Mut [(some ga)]) w10;replace HF := HF.on E;replace M7 := M7.step E XM7;replace E := erx (Mut [(some ga)]) w10
         refine qf (ι := Unit) (fun _ => [(0, .pointer (some ⟨ga, 0, none⟩)), (1, .pointer (some ⟨5, 0, none⟩)), (4, .int .u64 0), (5, .bool false), (6, .int .i64 s.e), (7, .int .u64 0), (8, .int .i64 ((P : Nat) : Int))]) (fun _ w' => Ext (Mut [(some ga)]) w10 w' ∧ Blk w' ga 136 (qh s.t) ∧ (True)) ?_ ?_
         ·
          have M12 := erx (Mut [(some ga)]) w10;have XM12 := grx (Mut [(some ga)]) w10;refine zt rfl (fun h5 => ?_) (fun h5 => ?_)
          ·
           rw [hgg] at h5;have h5 := of_decide_eq_true h5;have e : P = 27 := by rw [hP]; exact pt_far (by omega)
           refine zg (avx rfl (yd (yt 8 (.int .i64 ((P : Nat) : Int)) rfl ((by rw [e]; rfl : (.int .i64 27 : Value) = _)) ?_)));exact yu () ⟨rfl, rfl, rfl, rfl, rfl, rfl, rfl, trivial⟩ ⟨M12.step E XM12, (by exact Ba), trivial⟩
          ·
           rw [hgg] at h5;have h5 := of_decide_eq_false h5;have OY : ∀ q9, (Mut (xe [])) q9 → q9 < (World.drew w10).heap.size → (Mut [(some ga)]) q9 := fun k h _ => (Mut.none_) k h;refine vo (Mut [(some ga)]) (Mut.grow Mut.none_ (yo Ba.lt)) [] [] (oi [Fx.of (.slice (some ⟨bp, op, none⟩) 9 cp),
            Fx.of (.pointer (some ⟨ga, 0, none⟩)),
            Fx.of (.pointer (some ⟨ga, 0, none⟩)),
            Fx.of (.pointer (some ⟨ga, 801, none⟩)),
            Fx.of (.int .i64 s.t.dp),
            Fx.of (.pointer (some ⟨bp, op + s.t.dp.toNat * 1, none⟩)),
            Fx.of (.int .i64 ((pt s.t.dp.toNat : Nat) : Int)),
            Fx.of (.int .i64 ((pt s.t.dp.toNat : Nat) : Int))]) mixed rfl trivial (fun _ h => by cases h) ?_ ?_
           · refine ⟨?_, ?_, ?_, ?_, ?_, ?_, ?_, ?_, trivial⟩
             · intro vs X wq K;have LE := K.1;exact yx Tryz.underlying44 rfl rfl (HF.on (E.drew.trans (LE.mono OY))).here.1.1.1.2.powtab.head ⟨Below.refl _ _, Left.of rfl⟩
             · intro vs X wq K;exact zv rfl ⟨Below.refl _ _, Left.of rfl⟩
             · intro vs X wq K;obtain ⟨_, e1, k1⟩ := K.dep 1 rfl rfl rfl;refine zk 48 (.pointer (some ⟨ga, 0, none⟩)) rfl e1 ?_;exact zu rfl ⟨Below.refl _ _, Left.of rfl⟩
             · intro vs X wq K;obtain ⟨_, e2, k2⟩ := K.dep 2 rfl rfl rfl;refine zk 49 (.pointer (some ⟨ga, 0, none⟩)) rfl e2 ?_;exact zb Tryz.underlying136 rfl sz3 (by decide) rfl ⟨Below.refl _ _, Left.of rfl⟩
             · intro vs X wq K;have LE := K.1;obtain ⟨_, e3, k3⟩ := K.dep 3 rfl rfl rfl;refine zk 50 (.pointer (some ⟨ga, 801, none⟩)) rfl e3 ?_;exact zh Tryz.underlying3 rfl rfl (Ba.drew.extN LE NotIn.nil) (znx hls s.t.dp rfl) ⟨Below.refl _ _, Left.of rfl⟩
             · intro vs X wq K;obtain ⟨_, e0, k0⟩ := K.dep 0 rfl rfl rfl;refine zk 47 (.slice (some ⟨bp, op, none⟩) 9 cp) rfl e0 ?_;obtain ⟨_, e4, k4⟩ := K.dep 4 rfl rfl rfl;refine zk 51 (.int .i64 s.t.dp) rfl e4 ?_;exact qq (j := s.t.dp.toNat) Tryz.underlying44 sz3 rfl rfl (by omega) (by omega) ⟨Below.refl _ _, Left.of rfl⟩
             · intro vs X wq K;have LE := K.1;obtain ⟨_, e5, k5⟩ := K.dep 5 rfl rfl rfl;refine zk 52 (.pointer (some ⟨bp, op + s.t.dp.toNat * 1, none⟩)) rfl e5 ?_;exact yx Tryz.underlying3 rfl rfl (by rw [Nat.mul_one]; exact (HF.on (E.drew.trans (LE.mono OY))).here.1.1.1.2.powtab.cells _ _ (powtab_at (by omega))) ⟨Below.refl _ _, Left.of rfl⟩
             · intro vs X wq K;obtain ⟨_, e6, k6⟩ := K.dep 6 rfl rfl rfl;refine zk 53 (.int .i64 ((pt s.t.dp.toNat : Nat) : Int)) rfl e6 ?_;exact jr rfl ⟨Below.refl _ _, Left.of rfl⟩
           intro vs w14 LE AO AL AF AA;have LBa := Ba;replace Ba := Ba.drew.extN LE NotIn.nil;replace E := E.drew.trans (LE.mono OY);obtain ⟨_, e7, k7⟩ := AL.2.2.2.2.2.2.2.1;refine jj (τ := [(0, _), (1, _), (4, _), (5, _), (6, _), (7, _), (8, .int .i64 ((pt s.t.dp.toNat : Nat) : Int))]) ⟨rfl, rfl, rfl, rfl, rfl, rfl, congrArg some e7, trivial⟩ ?_;clear AL AF AA LE AO OY e7 k7 LBa
           refine yt 8 (.int .i64 ((P : Nat) : Int)) rfl ((by rw [hP] : (.int .i64 ((pt s.t.dp.toNat : Nat) : Int) : Value) = _)) ?_;exact yu () ⟨rfl, rfl, rfl, rfl, rfl, rfl, rfl, trivial⟩ ⟨M12.step E XM12, (by exact Ba), trivial⟩
         ·
          have LTa := (yo Ba.lt);clear Ba;rintro _ w13 ⟨M12, Ba, _⟩;replace E := E.trans M12;replace M7 := M7.step E XM7;replace E := erx (Mut [(some ga)]) w13
          refine srx (mvx rfl (mvx rfl (za rfl (zmq rfl (zw (by omega)) (yi 56 (.int .i64 (-((P : Nat) : Int))) rfl ((by congr 1; omega : (.int .i64 (0 - ((P : Nat) : Int)) : Value) = _)) (za rfl (yh en87 rfl ((shiftR_any _ ga P s.t ⟨hI.dec, hsp, by show 1 ≤ P ∧ P ≤ 300000; omega, by show -10000000 + 15 * ((P : Nat) : Int) ≤ s.t.dp ∧ s.t.dp ≤ 1000000; omega⟩ Ba).mono ?_))))))))
          rintro e w15 ⟨rfl, hB, hE⟩;refine ⟨_, rfl, ?_⟩;replace Ba := hB;clear hB;replace E := E.step1 hE Mut.head;clear hE;replace Ba : Blk w15 ga 136 (qh (jh s.t P)) := by rw [← shrD_one (by omega)]; exact Ba
          refine rnx (zg (mvx rfl (mvx rfl (za rfl (yp rfl rfl (zw (by omega)) (avx rfl (yd (zf ?_))))))));exact yr (⟨jh s.t P, s.e + ((P : Nat) : Int)⟩) (hms) ⟨rfl, rfl, rfl, rfl, rfl, rfl, trivial⟩ ⟨M7.step E XM7, (by exact Ba), hkeep, hu⟩
       ·
        have h4 := of_decide_eq_false h4;have hdone : zdz s = true := decide_eq_true (by omega);rw [qi hdone] at hu;refine yw (zl (zl (zy ?_)));exact yu s ⟨rfl, rfl, rfl, rfl, rfl, rfl, trivial⟩ ⟨M5.step E XM5, (by exact Ba), hu⟩
      ·
       have LTa := (yo Ba.lt);clear Ba;rintro s w6 ⟨M5, Ba, hs⟩;replace E := E.trans M5;replace HF := HF.on E;replace M1 := M1.step E XM1;replace M3 := M3.step E XM3;replace E := erx (Mut [(some ga)]) w6;obtain ⟨hR1, hR2⟩ := fbR_ends ht hpos (by omega);have hLs := yeq hR1 hR2;refine zi ?_;replace HF := HF.on E;replace M1 := M1.step E XM1;replace M3 := M3.step E XM3
       replace E := erx (Mut [(some ga)]) w6;refine qf (ι := FbS) (fun s => [(0, .pointer (some ⟨ga, 0, none⟩)), (1, .pointer (some ⟨5, 0, none⟩)), (4, .int .u64 0), (5, .bool false), (6, .int .i64 s.e), (7, .int .u64 0)]) (fun s w' => Ext (Mut [(some ga)]) w6 w' ∧ Blk w' ga 136 (qh s.t) ∧ (s = fbL t)) ?_ ?_
       ·
        have M16 := erx (Mut [(some ga)]) w6;have XM16 := grx (Mut [(some ga)]) w6;refine yc ?_;replace HF := HF.on E;replace M16 := M16.step E XM16;replace E := erx (Mut [(some ga)]) w6
        refine qm (ι := FbS) (fun s => [(0, .pointer (some ⟨ga, 0, none⟩)), (1, .pointer (some ⟨5, 0, none⟩)), (4, .int .u64 0), (5, .bool false), (6, .int .i64 s.e), (7, .int .u64 0)]) (fun s w' => Ext (Mut [(some ga)]) w6 w' ∧ Blk w' ga 136 (qh s.t) ∧ (FbLI s ∧ va zjq zdx s = fbL t)) (fun s => msL s.t) s ⟨rfl, rfl, rfl, rfl, rfl, rfl, trivial⟩ ⟨Ext.refl _ _, (by exact Ba), by rw [hs]; exact hLs, by rw [hs]; rfl⟩ ?_
        have LTa := (yo Ba.lt);clear Ba;rintro s w19 ⟨M18, Ba, ⟨hI, hu⟩⟩;have XM18 : Gro (Mut [(some ga)]) (Mut [(some ga)]) w6 := (Mut.grow Mut.none_ (fun k e => Or.inl (Mut.head k e)));replace E := E.trans M18;replace HF := HF.on E;replace M16 := M16.step E XM16;replace E := erx (Mut [(some ga)]) w19;have hls := hI.dec.len;have hsd := hI.dp;have hse := hI.e;have hsp := hI.pos
        have hsg := hI.dec.dig 0 hsp;refine zi (zi ?_);replace HF := HF.on E;replace M16 := M16.step E XM16;replace M18 := M18.step E XM18;replace E := erx (Mut [(some ga)]) w19
        refine qf (ι := Bool) (fun g => [(0, .pointer (some ⟨ga, 0, none⟩)), (1, .pointer (some ⟨5, 0, none⟩)), (4, .int .u64 0), (5, .bool false), (6, .int .i64 s.e), (7, .int .u64 0), (80, .bool g)]) (fun g w' => Ext (Mut [(some ga)]) w19 w' ∧ Blk w' ga 136 (qh s.t) ∧ (g = decide (s.t.dp < 0 ∨ (s.t.dp = 0 ∧ dg s.t.d 0 < 53)))) ?_ ?_
        ·
         have M20 := erx (Mut [(some ga)]) w19;have XM20 := grx (Mut [(some ga)]) w19;refine zg (mvx rfl (za rfl (zu rfl (za rfl (zb Tryz.underlying136 rfl sz3 (by decide) rfl (za rfl (zh Tryz.underlying3 rfl rfl Ba (znx hls s.t.dp rfl) (za rfl (yv rfl rfl (mvx rfl (yk 66 rfl (fun h4 => ?_) (fun h4 => ?_))))))))))))
         ·
          have h4 := of_decide_eq_true h4
          refine za rfl (zc rfl (za rfl (zc rfl (za rfl (zc rfl (za rfl (zc rfl (za rfl (zc rfl (za rfl (zc rfl (za rfl (qj rfl rfl (za rfl (qj rfl rfl (za rfl (qj rfl rfl (za rfl (qj rfl rfl (za rfl (qj rfl rfl (za rfl (qj rfl rfl (za rfl (zc rfl (za rfl (zq rfl rfl (yd ?_))))))))))))))))))))))))))))
          exact yu true ⟨rfl, rfl, rfl, rfl, rfl, rfl, rfl, trivial⟩ ⟨M20.step E XM20, (by exact Ba), (decide_eq_true (.inl h4)).symm⟩
         ·
          have h4 := of_decide_eq_false h4;refine onx rfl (zv rfl (onx rfl (zu rfl (onx rfl (zb Tryz.underlying136 rfl sz3 (by decide) rfl (onx rfl (zh Tryz.underlying3 rfl rfl Ba (znx hls s.t.dp rfl) (onx rfl (zz rfl rfl (onx rfl (zv rfl (yk 72 rfl (fun h5 => ?_) (fun h5 => ?_)))))))))))))
          ·
           have h5 := eq_of_beq h5
           refine onx rfl (zv rfl (onx rfl (zu rfl (onx rfl (zb Tryz.underlying136 rfl od (by decide) rfl (onx rfl (ob (j := 0) Tryz.underlying134 sz5 rfl rfl rfl (by decide) (onx rfl (zh Tryz.underlying5 rfl rfl Ba (dAt hls (dg s.t.d 0) 0 rfl (by decide)) (onx rfl (yv rfl rfl (onx rfl (zq rfl rfl (za rfl (zx rfl rfl (yd (yt 80 (.bool (decide (s.t.dp < 0 ∨ (s.t.dp = 0 ∧ dg s.t.d 0 < 53)))) rfl (kg (by omega)) ?_)))))))))))))))))
           exact yu (decide (s.t.dp < 0 ∨ (s.t.dp = 0 ∧ dg s.t.d 0 < 53))) ⟨rfl, rfl, rfl, rfl, rfl, rfl, rfl, trivial⟩ ⟨M20.step E XM20, (by exact Ba), rfl⟩
          ·
           have h5 : ¬ s.t.dp = 0 := fun e => absurd h5 (by rw [e]; decide);refine za rfl (zc rfl (za rfl (zc rfl (za rfl (zc rfl (za rfl (zc rfl (za rfl (zc rfl (za rfl (zc rfl (onx rfl (zx rfl rfl (za rfl (zx rfl rfl (yd ?_))))))))))))))))
           exact yu false ⟨rfl, rfl, rfl, rfl, rfl, rfl, rfl, trivial⟩ ⟨M20.step E XM20, (by exact Ba), (decide_eq_false (by omega)).symm⟩
        ·
         have LTa := (yo Ba.lt);clear Ba;rintro g w21 ⟨M20, Ba, hgg⟩;replace E := E.trans M20;replace HF := HF.on E;replace M16 := M16.step E XM16;replace M18 := M18.step E XM18;replace E := erx (Mut [(some ga)]) w21;refine zt rfl (fun h4 => ?_) (fun h4 => ?_)
         ·
          rw [hgg] at h4;have h4 := of_decide_eq_true h4;have hdone : zjq s = false := decide_eq_false (fun h => h h4);obtain ⟨hkeep, hms⟩ := yek hI hdone;obtain ⟨P, hP⟩ : ∃ P, P = pt (-s.t.dp).toNat := ⟨_, rfl⟩;have hP1 := pt_le (-s.t.dp).toNat;have hP2 := pt_shl (-s.t.dp).toNat;have hst : zdx s = ⟨vp s.t P, s.e - ((P : Nat) : Int)⟩ := by rw [hP]; rfl
          rw [← hP] at hP1 hP2;rw [vc hdone] at hu;rw [hst] at hu hkeep hms;refine zn (ze (yc (srx (anx rfl (zi (zi ?_))))));replace HF := HF.on E;replace M18 := M18.step E XM18;replace E := erx (Mut [(some ga)]) w21
          refine qf (ι := Bool) (fun g => [(0, .pointer (some ⟨ga, 0, none⟩)), (1, .pointer (some ⟨5, 0, none⟩)), (4, .int .u64 0), (5, .bool false), (6, .int .i64 s.e), (7, .int .u64 0), (9, .int .i64 0), (88, .bool g)]) (fun g w' => Ext (Mut [(some ga)]) w21 w' ∧ Blk w' ga 136 (qh s.t) ∧ (g = decide (9 ≤ 0 - s.t.dp))) ?_ ?_
          ·
           have M22 := erx (Mut [(some ga)]) w21;have XM22 := grx (Mut [(some ga)]) w21;have OY : ∀ q9, (Mut (xe [])) q9 → q9 < (World.drew w21).heap.size → (Mut [(some ga)]) q9 := fun k h _ => (Mut.none_) k h;refine vo (Mut [(some ga)]) (Mut.grow Mut.none_ (yo Ba.lt)) [] [] (oi [Fx.of (.pointer (some ⟨ga, 0, none⟩)),
            Fx.of (.pointer (some ⟨ga, 0, none⟩)),
            Fx.of (.pointer (some ⟨ga, 801, none⟩)),
            Fx.of (.int .i64 s.t.dp),
            Fx.of (.int .i64 (0 - s.t.dp)),
            Fx.of (.slice (some ⟨bp, op, none⟩) 9 cp),
            Fx.of (.int .i64 9),
            Fx.of (.bool (decide (9 ≤ (0 - s.t.dp))))]) mixed rfl trivial (fun _ h => by cases h) ?_ ?_
           · refine ⟨?_, ?_, ?_, ?_, ?_, ?_, ?_, ?_, trivial⟩
             · intro vs X wq K;exact zv rfl ⟨Below.refl _ _, Left.of rfl⟩
             · intro vs X wq K;obtain ⟨_, e0, k0⟩ := K.dep 0 rfl rfl rfl;refine zk 81 (.pointer (some ⟨ga, 0, none⟩)) rfl e0 ?_;exact zu rfl ⟨Below.refl _ _, Left.of rfl⟩
             · intro vs X wq K;obtain ⟨_, e1, k1⟩ := K.dep 1 rfl rfl rfl;refine zk 82 (.pointer (some ⟨ga, 0, none⟩)) rfl e1 ?_;exact zb Tryz.underlying136 rfl sz3 (by decide) rfl ⟨Below.refl _ _, Left.of rfl⟩
             · intro vs X wq K;have LE := K.1;obtain ⟨_, e2, k2⟩ := K.dep 2 rfl rfl rfl;refine zk 83 (.pointer (some ⟨ga, 801, none⟩)) rfl e2 ?_;exact zh Tryz.underlying3 rfl rfl (Ba.drew.extN LE NotIn.nil) (znx hls s.t.dp rfl) ⟨Below.refl _ _, Left.of rfl⟩
             · intro vs X wq K;obtain ⟨_, e3, k3⟩ := K.dep 3 rfl rfl rfl;refine zk 84 (.int .i64 s.t.dp) rfl e3 ?_;exact zmq rfl (zw (by omega)) ⟨Below.refl _ _, Left.of rfl⟩
             · intro vs X wq K;have LE := K.1;exact yx Tryz.underlying44 rfl rfl (HF.on (E.drew.trans (LE.mono OY))).here.1.1.1.2.powtab.head ⟨Below.refl _ _, Left.of rfl⟩
             · intro vs X wq K;obtain ⟨_, e5, k5⟩ := K.dep 5 rfl rfl rfl;refine zk 86 (.slice (some ⟨bp, op, none⟩) 9 cp) rfl e5 ?_;exact qr Tryz.underlying44 rfl ⟨Below.refl _ _, Left.of rfl⟩
             · intro vs X wq K;obtain ⟨_, e4, k4⟩ := K.dep 4 rfl rfl rfl;refine zk 85 (.int .i64 (0 - s.t.dp)) rfl e4 ?_;obtain ⟨_, e6, k6⟩ := K.dep 6 rfl rfl rfl;refine zk 87 (.int .i64 9) rfl e6 ?_;exact qz rfl rfl ⟨Below.refl _ _, Left.of rfl⟩
           intro vs w24 LE AO AL AF AA;have LBa := Ba;replace Ba := Ba.drew.extN LE NotIn.nil;replace E := E.drew.trans (LE.mono OY);obtain ⟨_, e7, k7⟩ := AL.2.2.2.2.2.2.2.1;refine jj (τ := [(0, _), (1, _), (4, _), (5, _), (6, _), (7, _), (9, _), (88, .bool (decide (9 ≤ (0 - s.t.dp))))]) ⟨rfl, rfl, rfl, rfl, rfl, rfl, rfl, congrArg some e7, trivial⟩ ?_
           clear AL AF AA LE AO OY e7 k7 LBa;exact yu (decide (9 ≤ 0 - s.t.dp)) ⟨rfl, rfl, rfl, rfl, rfl, rfl, rfl, rfl, trivial⟩ ⟨M22.step E XM22, (by exact Ba), rfl⟩
          ·
           have LTa := (yo Ba.lt);clear Ba;rintro g w23 ⟨M22, Ba, hg2⟩;replace E := E.trans M22;replace HF := HF.on E;replace M18 := M18.step E XM18;replace E := erx (Mut [(some ga)]) w23;replace HF := HF.on E;replace M18 := M18.step E XM18;replace E := erx (Mut [(some ga)]) w23
           refine qf (ι := Unit) (fun _ => [(0, .pointer (some ⟨ga, 0, none⟩)), (1, .pointer (some ⟨5, 0, none⟩)), (4, .int .u64 0), (5, .bool false), (6, .int .i64 s.e), (7, .int .u64 0), (9, .int .i64 ((P : Nat) : Int))]) (fun _ w' => Ext (Mut [(some ga)]) w23 w' ∧ Blk w' ga 136 (qh s.t) ∧ (True)) ?_ ?_
           ·
            have M25 := erx (Mut [(some ga)]) w23;have XM25 := grx (Mut [(some ga)]) w23;refine zt rfl (fun h5 => ?_) (fun h5 => ?_)
            ·
             rw [hg2] at h5;have h5 := of_decide_eq_true h5;have e : P = 27 := by rw [hP]; exact pt_far (by omega)
             refine zg (avx rfl (yd (yt 9 (.int .i64 ((P : Nat) : Int)) rfl ((by rw [e]; rfl : (.int .i64 27 : Value) = _)) ?_)));exact yu () ⟨rfl, rfl, rfl, rfl, rfl, rfl, rfl, trivial⟩ ⟨M25.step E XM25, (by exact Ba), trivial⟩
            ·
             rw [hg2] at h5;have h5 := of_decide_eq_false h5;have OY : ∀ q9, (Mut (xe [])) q9 → q9 < (World.drew w23).heap.size → (Mut [(some ga)]) q9 := fun k h _ => (Mut.none_) k h;refine vo (Mut [(some ga)]) (Mut.grow Mut.none_ (yo Ba.lt)) [] [] (oi [Fx.of (.slice (some ⟨bp, op, none⟩) 9 cp),
              Fx.of (.pointer (some ⟨ga, 0, none⟩)),
              Fx.of (.pointer (some ⟨ga, 0, none⟩)),
              Fx.of (.pointer (some ⟨ga, 801, none⟩)),
              Fx.of (.int .i64 s.t.dp),
              Fx.of (.int .i64 (0 - s.t.dp)),
              Fx.of (.pointer (some ⟨bp, op + (-s.t.dp).toNat * 1, none⟩)),
              Fx.of (.int .i64 ((pt (-s.t.dp).toNat : Nat) : Int)),
              Fx.of (.int .i64 ((pt (-s.t.dp).toNat : Nat) : Int))]) mixed rfl trivial (fun _ h => by cases h) ?_ ?_
             · refine ⟨?_, ?_, ?_, ?_, ?_, ?_, ?_, ?_, ?_, trivial⟩
               · intro vs X wq K;have LE := K.1;exact yx Tryz.underlying44 rfl rfl (HF.on (E.drew.trans (LE.mono OY))).here.1.1.1.2.powtab.head ⟨Below.refl _ _, Left.of rfl⟩
               · intro vs X wq K;exact zv rfl ⟨Below.refl _ _, Left.of rfl⟩
               · intro vs X wq K;obtain ⟨_, e1, k1⟩ := K.dep 1 rfl rfl rfl;refine zk 90 (.pointer (some ⟨ga, 0, none⟩)) rfl e1 ?_;exact zu rfl ⟨Below.refl _ _, Left.of rfl⟩
               · intro vs X wq K;obtain ⟨_, e2, k2⟩ := K.dep 2 rfl rfl rfl;refine zk 91 (.pointer (some ⟨ga, 0, none⟩)) rfl e2 ?_;exact zb Tryz.underlying136 rfl sz3 (by decide) rfl ⟨Below.refl _ _, Left.of rfl⟩
               · intro vs X wq K;have LE := K.1;obtain ⟨_, e3, k3⟩ := K.dep 3 rfl rfl rfl;refine zk 92 (.pointer (some ⟨ga, 801, none⟩)) rfl e3 ?_;exact zh Tryz.underlying3 rfl rfl (Ba.drew.extN LE NotIn.nil) (znx hls s.t.dp rfl) ⟨Below.refl _ _, Left.of rfl⟩
               · intro vs X wq K;obtain ⟨_, e4, k4⟩ := K.dep 4 rfl rfl rfl;refine zk 93 (.int .i64 s.t.dp) rfl e4 ?_;exact zmq rfl (zw (by omega)) ⟨Below.refl _ _, Left.of rfl⟩
               · intro vs X wq K;obtain ⟨_, e0, k0⟩ := K.dep 0 rfl rfl rfl;refine zk 89 (.slice (some ⟨bp, op, none⟩) 9 cp) rfl e0 ?_;obtain ⟨_, e5, k5⟩ := K.dep 5 rfl rfl rfl;refine zk 94 (.int .i64 (0 - s.t.dp)) rfl e5 ?_;exact qq (j := (-s.t.dp).toNat) Tryz.underlying44 sz3 rfl rfl (by omega) (by omega) ⟨Below.refl _ _, Left.of rfl⟩
               · intro vs X wq K;have LE := K.1;obtain ⟨_, e6, k6⟩ := K.dep 6 rfl rfl rfl;refine zk 95 (.pointer (some ⟨bp, op + (-s.t.dp).toNat * 1, none⟩)) rfl e6 ?_;exact yx Tryz.underlying3 rfl rfl (by rw [Nat.mul_one]; exact (HF.on (E.drew.trans (LE.mono OY))).here.1.1.1.2.powtab.cells _ _ (powtab_at (by omega))) ⟨Below.refl _ _, Left.of rfl⟩
               · intro vs X wq K;obtain ⟨_, e7, k7⟩ := K.dep 7 rfl rfl rfl;refine zk 96 (.int .i64 ((pt (-s.t.dp).toNat : Nat) : Int)) rfl e7 ?_;exact jr rfl ⟨Below.refl _ _, Left.of rfl⟩
             intro vs w27 LE AO AL AF AA;have LBa := Ba;replace Ba := Ba.drew.extN LE NotIn.nil;replace E := E.drew.trans (LE.mono OY);obtain ⟨_, e8, k8⟩ := AL.2.2.2.2.2.2.2.2.1;refine jj (τ := [(0, _), (1, _), (4, _), (5, _), (6, _), (7, _), (9, .int .i64 ((pt (-s.t.dp).toNat : Nat) : Int))]) ⟨rfl, rfl, rfl, rfl, rfl, rfl, congrArg some e8, trivial⟩ ?_
             clear AL AF AA LE AO OY e8 k8 LBa;refine yt 9 (.int .i64 ((P : Nat) : Int)) rfl ((by rw [hP] : (.int .i64 ((pt (-s.t.dp).toNat : Nat) : Int) : Value) = _)) ?_;exact yu () ⟨rfl, rfl, rfl, rfl, rfl, rfl, rfl, trivial⟩ ⟨M25.step E XM25, (by exact Ba), trivial⟩
           ·
            have LTa := (yo Ba.lt);clear Ba;rintro _ w26 ⟨M25, Ba, _⟩;replace E := E.trans M25;replace HF := HF.on E;replace M18 := M18.step E XM18;replace E := erx (Mut [(some ga)]) w26;refine srx (mvx rfl (mvx rfl (za rfl (yh en87 rfl ((shiftL_any _ ga P s.t hP2 hI.dec hsp (by omega) Ba (HF.on E).here.1.1.1.2 hg).mono ?_)))));rintro e w28 ⟨rfl, hB, hE⟩
            refine ⟨_, rfl, ?_⟩;replace Ba := hB;clear hB;replace E := E.step1 hE Mut.head;clear hE;refine rnx (zg (mvx rfl (mvx rfl (za rfl (qc rfl rfl (zw (by omega)) (avx rfl (yd (zf ?_))))))));exact yr (⟨vp s.t P, s.e - ((P : Nat) : Int)⟩) (hms) ⟨rfl, rfl, rfl, rfl, rfl, rfl, trivial⟩ ⟨M18.step E XM18, (by exact Ba), hkeep, hu⟩
         ·
          rw [hgg] at h4;have h4 := of_decide_eq_false h4;have hdone : zjq s = true := decide_eq_true h4;rw [qi hdone] at hu;refine yw (zl (zl (zy ?_)));exact yu s ⟨rfl, rfl, rfl, rfl, rfl, rfl, trivial⟩ ⟨M16.step E XM16, (by exact Ba), hu⟩
       ·
        have LTa := (yo Ba.lt);clear Ba;rintro s w17 ⟨M16, Ba, hs2⟩;replace E := E.trans M16;replace HF := HF.on E;replace M1 := M1.step E XM1;replace M3 := M3.step E XM3;replace E := erx (Mut [(some ga)]) w17;clear hs;obtain ⟨hL1, _⟩ := fbL_ends ht hpos (by omega);rw [← hs2] at hL1 hfb0;have hls := hL1.dec.len;have hsd := hL1.dp;have hse := hL1.e;have hsp := hL1.pos
        have hms : 0 ≤ ((msL s.t : Nat) : Int) := by omega
        have hng0 : s.t.neg = t.neg := by rw [hs2]; exact fbL_neg ht hpos (by omega)
        refine srx (mvx rfl (za rfl (qc rfl rfl (zw (by omega)) (anx rfl (zi (srx (mvx rfl (mvx rfl (za rfl (zu rfl (za rfl (zb Tryz.underlying126 rfl sz3 (by decide) rfl (za rfl (yx Tryz.underlying3 rfl rfl (HF.on E).here.2 (za rfl (yp (z := (-1022)) rfl rfl (by kernel_rfl) (za rfl (yv rfl rfl (rnx ?_)))))))))))))))))))
        replace HF := HF.on E;replace M1 := M1.step E XM1;replace M3 := M3.step E XM3;replace E := erx (Mut [(some ga)]) w17
        refine qf (ι := Dec × Int) (fun (t3, e3) => [(0, .pointer (some ⟨ga, 0, none⟩)), (1, .pointer (some ⟨5, 0, none⟩)), (4, .int .u64 0), (5, .bool false), (6, .int .i64 e3), (7, .int .u64 0)]) (fun (t3, e3) w' => Ext (Mut [(some ga)]) w17 w' ∧ Blk w' ga 136 (qh t3) ∧ (xm t = (if 1024 ≤ e3 then (0, 2047, true) else yiq (vp t3 53) e3) ∧ DecI t3 ∧ 0 < t3.nd ∧ (-11000000 ≤ t3.dp ∧ t3.dp ≤ 1000000) ∧ (-1022 ≤ e3 ∧ e3 ≤ 90000) ∧ t3.neg = t.neg)) ?_ ?_
        ·
         have M29 := erx (Mut [(some ga)]) w17;have XM29 := grx (Mut [(some ga)]) w17;refine zt rfl (fun h4 => ?_) (fun h4 => ?_)
         ·
          have h4 := of_decide_eq_true h4;have hSh : ShI ⟨s.t, (-1022 - (s.e - 1)).toNat⟩ := ⟨hL1.dec, hsp, by show 1 ≤ (-1022 - (s.e - 1)).toNat ∧ (-1022 - (s.e - 1)).toNat ≤ 300000; omega, by show -10000000 + 15 * (((-1022 - (s.e - 1)).toNat : Nat) : Int) ≤ s.t.dp ∧ s.t.dp ≤ 1000000; omega⟩;obtain ⟨hq1, hq2, hq3, hq4⟩ := shrD_keeps hSh
          have hq5 : (shrD s.t (-1022 - (s.e - 1)).toNat).neg = t.neg := by rw [shrD_neg hSh]; exact hng0
          have hfe : xm t = yiq (vp (shrD s.t (-1022 - (s.e - 1)).toNat) 53) (-1022) := by rw [hfb0]; unfold fbMid; rw [if_pos (by omega)]
          refine srx (mvx rfl (za rfl (zu rfl (za rfl (zb Tryz.underlying126 rfl sz3 (by decide) rfl (za rfl (yx Tryz.underlying3 rfl rfl (HF.on E).here.2 (za rfl (yp (z := (-1022)) rfl rfl (by kernel_rfl) (mvx rfl (za rfl (qc rfl rfl (zw (by omega)) (anx rfl (srx (mvx rfl (mvx rfl (za rfl (zmq rfl (zw (by omega)) (yi 121 (.int .i64 (-(((-1022 - (s.e - 1)).toNat : Nat) : Int))) rfl ((by congr 1; omega : (.int .i64 (0 - ((-1022) - (s.e - 1))) : Value) = _)) (za rfl (yh en87 rfl ((shiftR_any _ ga (-1022 - (s.e - 1)).toNat s.t hSh Ba).mono ?_))))))))))))))))))))))
          rintro e w31 ⟨rfl, hB, hE⟩;refine ⟨_, rfl, ?_⟩;replace Ba := hB;clear hB;replace E := E.step1 hE Mut.head;clear hE;refine rnx (zg (mvx rfl (mvx rfl (za rfl (yp rfl rfl (zw (by omega)) (avx rfl (yd (yt 6 (.int .i64 (-1022)) rfl ((by congr 1; omega : (.int .i64 ((s.e - 1) + ((-1022) - (s.e - 1))) : Value) = _)) ?_))))))))
          exact yu (shrD s.t (-1022 - (s.e - 1)).toNat, -1022) ⟨rfl, rfl, rfl, rfl, rfl, rfl, trivial⟩ ⟨M29.step E XM29, (by exact Ba), by rw [if_neg (by decide)]; exact hfe, hq1, hq2, ⟨hq3, hq4⟩, by decide, hq5⟩
         ·
          have h4 := of_decide_eq_false h4;have hfe : xm t = (if 1024 ≤ s.e - 1 then (0, 2047, true) else yiq (vp s.t 53) (s.e - 1)) := by rw [hfb0]; unfold fbMid; rw [if_neg (by omega)]
          refine zn ?_;exact yu (s.t, s.e - 1) ⟨rfl, rfl, rfl, rfl, rfl, rfl, trivial⟩ ⟨M29.step E XM29, (by exact Ba), hfe, hL1.dec, hsp, by omega, by omega, hng0⟩
        ·
         have LTa := (yo Ba.lt);clear Ba;rintro ⟨t3, e3⟩ w30 ⟨M29, Ba, ⟨hfb, ht3, hp3, hd3, he3, hn3⟩⟩;replace E := E.trans M29;replace HF := HF.on E;replace M1 := M1.step E XM1;replace M3 := M3.step E XM3;replace E := erx (Mut [(some ga)]) w30;have hl3 := ht3.len;refine zi (zi ?_);replace HF := HF.on E;replace M1 := M1.step E XM1;replace M3 := M3.step E XM3
         replace E := erx (Mut [(some ga)]) w30;refine qf (ι := Bool) (fun g => [(0, .pointer (some ⟨ga, 0, none⟩)), (1, .pointer (some ⟨5, 0, none⟩)), (4, .int .u64 0), (5, .bool false), (6, .int .i64 e3), (7, .int .u64 0), (138, .bool g)]) (fun g w' => Ext (Mut [(some ga)]) w30 w' ∧ Blk w' ga 136 (qh t3) ∧ (g = decide (1024 ≤ e3))) ?_ ?_
         ·
          have M32 := erx (Mut [(some ga)]) w30;have XM32 := grx (Mut [(some ga)]) w30;have OY : ∀ q9, (Mut (xe [])) q9 → q9 < (World.drew w30).heap.size → (Mut [(some ga)]) q9 := fun k h _ => (Mut.none_) k h;refine vo (Mut [(some ga)]) (Mut.grow Mut.none_ (yo Ba.lt)) [] [] (oi [Fx.of (.int .i64 e3),
           Fx.of (.pointer (some ⟨5, 0, none⟩)),
           Fx.of (.pointer (some ⟨5, 0, none⟩)),
           Fx.of (.pointer (some ⟨5, 2, none⟩)),
           Fx.of (.int .i64 (-1023)),
           Fx.of (.int .i64 (e3 - (-1023))),
           Fx.of (.pointer (some ⟨5, 0, none⟩)),
           Fx.of (.pointer (some ⟨5, 0, none⟩)),
           Fx.of (.pointer (some ⟨5, 1, none⟩)),
           Fx.of (.int .u64 11),
           Fx.of (.int .i64 2048),
           Fx.of (.int .i64 2047),
           Fx.of (.bool (decide (1024 ≤ e3)))]) mixed rfl trivial (fun _ h => by cases h) ?_ ?_
          · refine ⟨?_, ?_, ?_, ?_, ?_, ?_, ?_, ?_, ?_, ?_, ?_, ?_, ?_, trivial⟩
            · intro vs X wq K;exact zv rfl ⟨Below.refl _ _, Left.of rfl⟩
            · intro vs X wq K;exact zv rfl ⟨Below.refl _ _, Left.of rfl⟩
            · intro vs X wq K;obtain ⟨_, e1, k1⟩ := K.dep 1 rfl rfl rfl;refine zk 127 (.pointer (some ⟨5, 0, none⟩)) rfl e1 ?_;exact zu rfl ⟨Below.refl _ _, Left.of rfl⟩
            · intro vs X wq K;obtain ⟨_, e2, k2⟩ := K.dep 2 rfl rfl rfl;refine zk 128 (.pointer (some ⟨5, 0, none⟩)) rfl e2 ?_;exact zb Tryz.underlying126 rfl sz3 (by decide) rfl ⟨Below.refl _ _, Left.of rfl⟩
            · intro vs X wq K;have LE := K.1;obtain ⟨_, e3, k3⟩ := K.dep 3 rfl rfl rfl;refine zk 129 (.pointer (some ⟨5, 2, none⟩)) rfl e3 ?_;exact yx Tryz.underlying3 rfl rfl (HF.on (E.drew.trans (LE.mono OY))).here.2 ⟨Below.refl _ _, Left.of rfl⟩
            · intro vs X wq K;obtain ⟨_, e0, k0⟩ := K.dep 0 rfl rfl rfl;refine zk 126 (.int .i64 e3) rfl e0 ?_;obtain ⟨_, e4, k4⟩ := K.dep 4 rfl rfl rfl;refine zk 130 (.int .i64 (-1023)) rfl e4 ?_;exact qc rfl rfl (zw (by omega)) ⟨Below.refl _ _, Left.of rfl⟩
            · intro vs X wq K;exact zv rfl ⟨Below.refl _ _, Left.of rfl⟩
            · intro vs X wq K;obtain ⟨_, e6, k6⟩ := K.dep 6 rfl rfl rfl;refine zk 132 (.pointer (some ⟨5, 0, none⟩)) rfl e6 ?_;exact zu rfl ⟨Below.refl _ _, Left.of rfl⟩
            · intro vs X wq K;obtain ⟨_, e7, k7⟩ := K.dep 7 rfl rfl rfl;refine zk 133 (.pointer (some ⟨5, 0, none⟩)) rfl e7 ?_;exact zb Tryz.underlying126 rfl xt (by decide) rfl ⟨Below.refl _ _, Left.of rfl⟩
            · intro vs X wq K;have LE := K.1;obtain ⟨_, e8, k8⟩ := K.dep 8 rfl rfl rfl;refine zk 134 (.pointer (some ⟨5, 1, none⟩)) rfl e8 ?_;exact yx Tryz.underlying100 rfl rfl (HF.on (E.drew.trans (LE.mono OY))).here.1.2 ⟨Below.refl _ _, Left.of rfl⟩
            · intro vs X wq K;obtain ⟨_, e9, k9⟩ := K.dep 9 rfl rfl rfl;refine zk 135 (.int .u64 11) rfl e9 ?_;exact jm (z := 2048) rfl rfl (by decide) (by kernel_rfl) ⟨Below.refl _ _, Left.of rfl⟩
            · intro vs X wq K;obtain ⟨_, e10, k10⟩ := K.dep 10 rfl rfl rfl;refine zk 136 (.int .i64 2048) rfl e10 ?_;exact qc (z := 2047) rfl rfl (by kernel_rfl) ⟨Below.refl _ _, Left.of rfl⟩
            · intro vs X wq K;obtain ⟨_, e5, k5⟩ := K.dep 5 rfl rfl rfl;refine zk 131 (.int .i64 (e3 - (-1023))) rfl e5 ?_;obtain ⟨_, e11, k11⟩ := K.dep 11 rfl rfl rfl;refine zk 137 (.int .i64 2047) rfl e11 ?_;exact qz rfl rfl ⟨Below.refl _ _, Left.of (kg (by omega))⟩
          intro vs w34 LE AO AL AF AA;have LBa := Ba;replace Ba := Ba.drew.extN LE NotIn.nil;replace E := E.drew.trans (LE.mono OY);obtain ⟨_, e12, k12⟩ := AL.2.2.2.2.2.2.2.2.2.2.2.2.1;refine jj (τ := [(0, _), (1, _), (4, _), (5, _), (6, _), (7, _), (138, .bool (decide (1024 ≤ e3)))]) ⟨rfl, rfl, rfl, rfl, rfl, rfl, congrArg some e12, trivial⟩ ?_;clear AL AF AA LE AO OY e12 k12 LBa
          exact yu (decide (1024 ≤ e3)) ⟨rfl, rfl, rfl, rfl, rfl, rfl, rfl, trivial⟩ ⟨M32.step E XM32, (by exact Ba), rfl⟩
         ·
          have LTa := (yo Ba.lt);clear Ba;rintro g w33 ⟨M32, Ba, hgg⟩;replace E := E.trans M32;replace HF := HF.on E;replace M1 := M1.step E XM1;replace M3 := M3.step E XM3;replace E := erx (Mut [(some ga)]) w33;refine zt rfl (fun h4 => ?_) (fun h4 => ?_)
          ·
           rw [hgg] at h4;have h4 := of_decide_eq_true h4;rw [if_pos h4] at hfb;refine zdk (jw ?_);exact zdq rfl TLM3 t3 ⟨rfl, rfl, trivial⟩ ⟨M3.step E XM3, (by exact Ba), hfb, hl3, hn3⟩
          ·
           rw [hgg] at h4;have h4 := of_decide_eq_false h4;rw [if_neg h4] at hfb;obtain ⟨hq1, hq2, hq3, hq4, _, hq5⟩ := zik ht3 hp3 (.inr (.inr (.inr (.inr (.inr (.inr (.inr (.inr (.inr (.inr rfl))))))))) : Shl 53);have hl5 := hq1.len;have hn5 : (vp t3 53).neg = t.neg := hq5.trans hn3;obtain ⟨M, hM⟩ : ∃ M, M = xb (vp t3 53) := ⟨_, rfl⟩
           have hM64 : M < 18446744073709551616 := by rw [hM]; exact roundD_lt _
           unfold yiq at hfb;rw [← hM] at hfb
           refine zn (ze (srx (mvx rfl (mvx rfl (za rfl (zu rfl (za rfl (zb Tryz.underlying126 rfl xt (by decide) rfl (za rfl (yx Tryz.underlying100 rfl rfl (HF.on E).here.1.1.2 (za rfl (yp (z := 53) rfl rfl (by kernel_rfl) (za rfl (jd (z := 53) Tryz.underlying3 Tryz.underlying100 rfl (by kernel_rfl) (za rfl (yh en87 rfl ((shiftL_any _ ga 53 t3 (.inr (.inr (.inr (.inr (.inr (.inr (.inr (.inr (.inr (.inr rfl)))))))))) ht3 hp3 (by omega) Ba (HF.on E).here.1.1.1.2 hg).mono ?_)))))))))))))))))
           rintro e w35 ⟨rfl, hB, hE⟩;refine ⟨_, rfl, ?_⟩;replace Ba := hB;clear hB;replace E := E.step1 hE Mut.head;clear hE;refine rnx (srx (mvx rfl (za rfl (yh en88 rfl ((rinteger_any _ ga (vp t3 53) hq1 (by omega) Ba).mono ?_)))));rintro e w36 ⟨rfl, hb⟩;refine ⟨_, rfl, ?_⟩;have Ec := Ext.of_below hb No;replace Ba := Ba.extN Ec NotIn.nil;replace E := E.trans Ec.no
           refine yi 148 (.int .u64 ((M : Nat) : Int)) rfl ((by rw [hM] : (.int .u64 ((xb (vp t3 53) : Nat) : Int) : Value) = _)) (anx rfl (zi (srx (mvx rfl (mvx rfl (za rfl (zu rfl (za rfl (zb Tryz.underlying126 rfl xt (by decide) rfl (za rfl (yx Tryz.underlying100 rfl rfl (HF.on E).here.1.1.2 (za rfl (jm (z := 9007199254740992) rfl rfl (by decide) (by kernel_rfl) (za rfl (zz rfl rfl (rnx (zt rfl (fun h5 => ?_) (fun h5 => ?_))))))))))))))))))
           ·
            have h5 : M = 9007199254740992 := by have h5 := eq_of_beq h5; omega
            rw [if_pos h5] at hfb;refine zp 7 (.int .u64 9007199254740992) rfl ((by rw [h5]; rfl : (.int .u64 ((M : Nat) : Int) : Value) = _)) (srx (mvx rfl (za rfl (kr (z := 4503599627370496) rfl rfl (by decide) (by kernel_rfl) (anx rfl (srx (mvx rfl (za rfl (yp rfl rfl (zw (by omega)) (anx rfl (zi ?_)))))))))));replace HF := HF.on E
            replace M1 := M1.step E XM1;replace M3 := M3.step E XM3;replace E := erx (Mut [(some ga)]) w36
            refine qf (ι := Bool) (fun g => [(0, .pointer (some ⟨ga, 0, none⟩)), (1, .pointer (some ⟨5, 0, none⟩)), (4, .int .u64 0), (5, .bool false), (6, .int .i64 (e3 + 1)), (7, .int .u64 4503599627370496), (172, .bool g)]) (fun g w' => Ext (Mut [(some ga)]) w36 w' ∧ Blk w' ga 136 (qh (vp t3 53)) ∧ (g = decide (1023 ≤ e3))) ?_ ?_
            ·
             have M37 := erx (Mut [(some ga)]) w36;have XM37 := grx (Mut [(some ga)]) w36;have OY : ∀ q9, (Mut (xe [])) q9 → q9 < (World.drew w36).heap.size → (Mut [(some ga)]) q9 := fun k h _ => (Mut.none_) k h;refine vo (Mut [(some ga)]) (Mut.grow Mut.none_ (yo Ba.lt)) [] [] (oi [Fx.of (.int .i64 (e3 + 1)),
              Fx.of (.pointer (some ⟨5, 0, none⟩)),
              Fx.of (.pointer (some ⟨5, 0, none⟩)),
              Fx.of (.pointer (some ⟨5, 2, none⟩)),
              Fx.of (.int .i64 (-1023)),
              Fx.of (.int .i64 ((e3 + 1) - (-1023))),
              Fx.of (.pointer (some ⟨5, 0, none⟩)),
              Fx.of (.pointer (some ⟨5, 0, none⟩)),
              Fx.of (.pointer (some ⟨5, 1, none⟩)),
              Fx.of (.int .u64 11),
              Fx.of (.int .i64 2048),
              Fx.of (.int .i64 2047),
              Fx.of (.bool (decide (1023 ≤ e3)))]) mixed rfl trivial (fun _ h => by cases h) ?_ ?_
             · refine ⟨?_, ?_, ?_, ?_, ?_, ?_, ?_, ?_, ?_, ?_, ?_, ?_, ?_, trivial⟩
               · intro vs X wq K;exact zv rfl ⟨Below.refl _ _, Left.of rfl⟩
               · intro vs X wq K;exact zv rfl ⟨Below.refl _ _, Left.of rfl⟩
               · intro vs X wq K;obtain ⟨_, e1, k1⟩ := K.dep 1 rfl rfl rfl;refine zk 161 (.pointer (some ⟨5, 0, none⟩)) rfl e1 ?_;exact zu rfl ⟨Below.refl _ _, Left.of rfl⟩
               · intro vs X wq K;obtain ⟨_, e2, k2⟩ := K.dep 2 rfl rfl rfl;refine zk 162 (.pointer (some ⟨5, 0, none⟩)) rfl e2 ?_;exact zb Tryz.underlying126 rfl sz3 (by decide) rfl ⟨Below.refl _ _, Left.of rfl⟩
               · intro vs X wq K;have LE := K.1;obtain ⟨_, e3, k3⟩ := K.dep 3 rfl rfl rfl;refine zk 163 (.pointer (some ⟨5, 2, none⟩)) rfl e3 ?_;exact yx Tryz.underlying3 rfl rfl (HF.on (E.drew.trans (LE.mono OY))).here.2 ⟨Below.refl _ _, Left.of rfl⟩
               · intro vs X wq K;obtain ⟨_, e0, k0⟩ := K.dep 0 rfl rfl rfl;refine zk 160 (.int .i64 (e3 + 1)) rfl e0 ?_;obtain ⟨_, e4, k4⟩ := K.dep 4 rfl rfl rfl;refine zk 164 (.int .i64 (-1023)) rfl e4 ?_;exact qc rfl rfl (zw (by omega)) ⟨Below.refl _ _, Left.of rfl⟩
               · intro vs X wq K;exact zv rfl ⟨Below.refl _ _, Left.of rfl⟩
               · intro vs X wq K;obtain ⟨_, e6, k6⟩ := K.dep 6 rfl rfl rfl;refine zk 166 (.pointer (some ⟨5, 0, none⟩)) rfl e6 ?_;exact zu rfl ⟨Below.refl _ _, Left.of rfl⟩
               · intro vs X wq K;obtain ⟨_, e7, k7⟩ := K.dep 7 rfl rfl rfl;refine zk 167 (.pointer (some ⟨5, 0, none⟩)) rfl e7 ?_;exact zb Tryz.underlying126 rfl xt (by decide) rfl ⟨Below.refl _ _, Left.of rfl⟩
               · intro vs X wq K;have LE := K.1;obtain ⟨_, e8, k8⟩ := K.dep 8 rfl rfl rfl;refine zk 168 (.pointer (some ⟨5, 1, none⟩)) rfl e8 ?_;exact yx Tryz.underlying100 rfl rfl (HF.on (E.drew.trans (LE.mono OY))).here.1.2 ⟨Below.refl _ _, Left.of rfl⟩
               · intro vs X wq K;obtain ⟨_, e9, k9⟩ := K.dep 9 rfl rfl rfl;refine zk 169 (.int .u64 11) rfl e9 ?_;exact jm (z := 2048) rfl rfl (by decide) (by kernel_rfl) ⟨Below.refl _ _, Left.of rfl⟩
               · intro vs X wq K;obtain ⟨_, e10, k10⟩ := K.dep 10 rfl rfl rfl;refine zk 170 (.int .i64 2048) rfl e10 ?_;exact qc (z := 2047) rfl rfl (by kernel_rfl) ⟨Below.refl _ _, Left.of rfl⟩
               · intro vs X wq K;obtain ⟨_, e5, k5⟩ := K.dep 5 rfl rfl rfl;refine zk 165 (.int .i64 ((e3 + 1) - (-1023))) rfl e5 ?_;obtain ⟨_, e11, k11⟩ := K.dep 11 rfl rfl rfl;refine zk 171 (.int .i64 2047) rfl e11 ?_;exact qz rfl rfl ⟨Below.refl _ _, Left.of (kg (by omega))⟩
             intro vs w39 LE AO AL AF AA;have LBa := Ba;replace Ba := Ba.drew.extN LE NotIn.nil;replace E := E.drew.trans (LE.mono OY);obtain ⟨_, e12, k12⟩ := AL.2.2.2.2.2.2.2.2.2.2.2.2.1;refine jj (τ := [(0, _), (1, _), (4, _), (5, _), (6, _), (7, _), (172, .bool (decide (1023 ≤ e3)))]) ⟨rfl, rfl, rfl, rfl, rfl, rfl, congrArg some e12, trivial⟩ ?_
             clear AL AF AA LE AO OY e12 k12 LBa;exact yu (decide (1023 ≤ e3)) ⟨rfl, rfl, rfl, rfl, rfl, rfl, rfl, trivial⟩ ⟨M37.step E XM37, (by exact Ba), rfl⟩
            ·
             have LTa := (yo Ba.lt);clear Ba;rintro g w38 ⟨M37, Ba, hg3⟩;replace E := E.trans M37;replace HF := HF.on E;replace M1 := M1.step E XM1;replace M3 := M3.step E XM3;replace E := erx (Mut [(some ga)]) w38;refine zt rfl (fun h6 => ?_) (fun h6 => ?_)
             ·
              rw [hg3] at h6;have h6 := of_decide_eq_true h6;rw [if_pos h6] at hfb;refine zdk (jw ?_);exact zdq rfl TLM3 (vp t3 53) ⟨rfl, rfl, trivial⟩ ⟨M3.step E XM3, (by exact Ba), hfb, hl5, hn5⟩
             ·
              rw [hg3] at h6;have h6 := of_decide_eq_false h6;rw [if_neg h6] at hfb;obtain ⟨Kx, hK⟩ : ∃ Kx, Kx = (e3 + 1 + 1023).toNat := ⟨_, rfl⟩;rw [← hK] at hfb
              refine zn (ze (zi (zi (zp 7 (.int .u64 ((4503599627370496 : Nat) : Int)) rfl (rfl) (zg (mvx rfl (mvx rfl (za rfl (zu rfl (za rfl (zb Tryz.underlying126 rfl xt (by decide) rfl (za rfl (yx Tryz.underlying100 rfl rfl (HF.on E).here.1.1.2 (za rfl (jm (z := 4503599627370496) rfl rfl (by decide) (by kernel_rfl) (za rfl (vg rfl rfl (and_hi (m := 4503599627370496) (by decide)) (za rfl (zz rfl rfl (rnx (zp 180 (.bool false) rfl ((by rw [vv (by decide +kernel)] : (.bool (((4503599627370496 &&& 4503599627370496 : Nat) : Int) == 0) : Value) = _)) (ye rfl (zn (ze (zi (zdk (jw (yt 6 (.int .i64 (((Kx : Nat) : Int) - 1023)) rfl ((by congr 1; omega : (.int .i64 (e3 + 1) : Value) = _)) ?_))))))))))))))))))))))))))))
              exact zdq rfl TLM1 (4503599627370496, Kx, false, vp t3 53) ⟨rfl, rfl, rfl, rfl, rfl, trivial⟩ ⟨M1.step E XM1, (by exact Ba), hfb, by decide, by omega, hl5, hn5⟩
           ·
            have h5 : ¬ M = 9007199254740992 := fun e => absurd h5 (by rw [e]; decide);rw [if_neg h5] at hfb
            refine zn (ze (zi (srx (mvx rfl (mvx rfl (za rfl (zu rfl (za rfl (zb Tryz.underlying126 rfl xt (by decide) rfl (za rfl (yx Tryz.underlying100 rfl rfl (HF.on E).here.1.1.2 (za rfl (jm (z := 4503599627370496) rfl rfl (by decide) (by kernel_rfl) (za rfl (vg rfl rfl (and_hi hM64) (za rfl (zz rfl rfl (rnx (zt rfl (fun h6 => ?_) (fun h6 => ?_))))))))))))))))))))
            ·
             have h6 : M &&& 4503599627370496 = 0 := by have h6 := eq_of_beq h6; omega
             rw [if_pos h6] at hfb;obtain ⟨Kx, hK⟩ : ∃ Kx : Nat, Kx = 0 := ⟨_, rfl⟩;rw [← hK] at hfb
             refine zg (mvx rfl (za rfl (zu rfl (za rfl (zb Tryz.underlying126 rfl sz3 (by decide) rfl (za rfl (yx Tryz.underlying3 rfl rfl (HF.on E).here.2 (anx rfl (zi (zdk (jw (yt 6 (.int .i64 (((Kx : Nat) : Int) - 1023)) rfl ((by rw [hK]; rfl : (.int .i64 (-1023) : Value) = _)) ?_))))))))))))
             exact zdq rfl TLM1 (M, Kx, false, vp t3 53) ⟨rfl, rfl, rfl, rfl, rfl, trivial⟩ ⟨M1.step E XM1, (by exact Ba), hfb, hM64, by omega, hl5, hn5⟩
            ·
             have h6 : ¬ M &&& 4503599627370496 = 0 := fun e => absurd h6 (by rw [e]; decide);rw [if_neg h6] at hfb;obtain ⟨Kx, hK⟩ : ∃ Kx, Kx = (e3 + 1023).toNat := ⟨_, rfl⟩;rw [← hK] at hfb;refine zn (ze (zi (zdk (jw (yt 6 (.int .i64 (((Kx : Nat) : Int) - 1023)) rfl ((by congr 1; omega : (.int .i64 e3 : Value) = _)) ?_)))))
             exact zdq rfl TLM1 (M, Kx, false, vp t3 53) ⟨rfl, rfl, rfl, rfl, rfl, trivial⟩ ⟨M1.step E XM1, (by exact Ba), hfb, hM64, by omega, hl5, hn5⟩
  ·
   have LTa := (yo Ba.lt);clear Ba;rintro u w4 ⟨M3, Ba, ⟨hfb, hl5, hn5⟩⟩;replace E := E.trans M3;replace HF := HF.on E;replace LW := LW.step E XLW;replace E := erx (Mut [(some ga)]) w4;refine zi (zn (ze (srx (anx rfl (zi ?_)))));have OY : ∀ q9, (Mut (xe [])) q9 → q9 < (World.drew w4).heap.size → (Mut [(some ga)]) q9 := fun k h _ => (Mut.none_) k h
   refine vo (Mut [(some ga)]) (Mut.grow Mut.none_ (yo Ba.lt)) [] [] (oi [Fx.of (.pointer (some ⟨5, 0, none⟩)),
    Fx.of (.pointer (some ⟨5, 0, none⟩)),
    Fx.of (.pointer (some ⟨5, 1, none⟩)),
    Fx.of (.int .u64 11),
    Fx.of (.int .i64 2048),
    Fx.of (.int .i64 2047),
    Fx.of (.pointer (some ⟨5, 0, none⟩)),
    Fx.of (.pointer (some ⟨5, 0, none⟩)),
    Fx.of (.pointer (some ⟨5, 2, none⟩)),
    Fx.of (.int .i64 (-1023)),
    Fx.of (.int .i64 1024),
    Fx.of (.int .i64 1024)]) mixed rfl trivial (fun _ h => by cases h) ?_ ?_
   · refine ⟨?_, ?_, ?_, ?_, ?_, ?_, ?_, ?_, ?_, ?_, ?_, ?_, trivial⟩
     · intro vs X wq K;exact zv rfl ⟨Below.refl _ _, Left.of rfl⟩
     · intro vs X wq K;obtain ⟨_, e0, k0⟩ := K.dep 0 rfl rfl rfl;refine zk 185 (.pointer (some ⟨5, 0, none⟩)) rfl e0 ?_;exact zu rfl ⟨Below.refl _ _, Left.of rfl⟩
     · intro vs X wq K;obtain ⟨_, e1, k1⟩ := K.dep 1 rfl rfl rfl;refine zk 186 (.pointer (some ⟨5, 0, none⟩)) rfl e1 ?_;exact zb Tryz.underlying126 rfl xt (by decide) rfl ⟨Below.refl _ _, Left.of rfl⟩
     · intro vs X wq K;have LE := K.1;obtain ⟨_, e2, k2⟩ := K.dep 2 rfl rfl rfl;refine zk 187 (.pointer (some ⟨5, 1, none⟩)) rfl e2 ?_;exact yx Tryz.underlying100 rfl rfl (HF.on (E.drew.trans (LE.mono OY))).here.1.2 ⟨Below.refl _ _, Left.of rfl⟩
     · intro vs X wq K;obtain ⟨_, e3, k3⟩ := K.dep 3 rfl rfl rfl;refine zk 188 (.int .u64 11) rfl e3 ?_;exact jm (z := 2048) rfl rfl (by decide) (by kernel_rfl) ⟨Below.refl _ _, Left.of rfl⟩
     · intro vs X wq K;obtain ⟨_, e4, k4⟩ := K.dep 4 rfl rfl rfl;refine zk 189 (.int .i64 2048) rfl e4 ?_;exact qc (z := 2047) rfl rfl (by kernel_rfl) ⟨Below.refl _ _, Left.of rfl⟩
     · intro vs X wq K;exact zv rfl ⟨Below.refl _ _, Left.of rfl⟩
     · intro vs X wq K;obtain ⟨_, e6, k6⟩ := K.dep 6 rfl rfl rfl;refine zk 191 (.pointer (some ⟨5, 0, none⟩)) rfl e6 ?_;exact zu rfl ⟨Below.refl _ _, Left.of rfl⟩
     · intro vs X wq K;obtain ⟨_, e7, k7⟩ := K.dep 7 rfl rfl rfl;refine zk 192 (.pointer (some ⟨5, 0, none⟩)) rfl e7 ?_;exact zb Tryz.underlying126 rfl sz3 (by decide) rfl ⟨Below.refl _ _, Left.of rfl⟩
     · intro vs X wq K;have LE := K.1;obtain ⟨_, e8, k8⟩ := K.dep 8 rfl rfl rfl;refine zk 193 (.pointer (some ⟨5, 2, none⟩)) rfl e8 ?_;exact yx Tryz.underlying3 rfl rfl (HF.on (E.drew.trans (LE.mono OY))).here.2 ⟨Below.refl _ _, Left.of rfl⟩
     · intro vs X wq K;obtain ⟨_, e5, k5⟩ := K.dep 5 rfl rfl rfl;refine zk 190 (.int .i64 2047) rfl e5 ?_;obtain ⟨_, e9, k9⟩ := K.dep 9 rfl rfl rfl;refine zk 194 (.int .i64 (-1023)) rfl e9 ?_;exact yp (z := 1024) rfl rfl (by kernel_rfl) ⟨Below.refl _ _, Left.of rfl⟩
     · intro vs X wq K;obtain ⟨_, e10, k10⟩ := K.dep 10 rfl rfl rfl;refine zk 195 (.int .i64 1024) rfl e10 ?_;exact jr rfl ⟨Below.refl _ _, Left.of rfl⟩
   intro vs w40 LE AO AL AF AA;have LBa := Ba;replace Ba := Ba.drew.extN LE NotIn.nil;replace E := E.drew.trans (LE.mono OY);obtain ⟨_, e11, k11⟩ := AL.2.2.2.2.2.2.2.2.2.2.2.1;refine jj (τ := [(0, _), (1, _), (6, .int .i64 1024), (7, _)]) ⟨rfl, rfl, congrArg some e11, rfl, trivial⟩ ?_;clear AL AF AA LE AO OY e11 k11 LBa
   refine ze (srx (anx rfl (zi (cw_label (ze (srx (mvx rfl (mvx rfl (za rfl (zu rfl (za rfl (zb Tryz.underlying126 rfl xt (by decide) rfl (za rfl (yx Tryz.underlying100 rfl rfl (HF.on E).here.1.1.2 (za rfl (jm (z := 4503599627370496) rfl rfl (by decide) (by kernel_rfl) (za rfl (qc (z := 4503599627370495) rfl rfl (by kernel_rfl) (za rfl (vg (z := 0) rfl rfl (by kernel_rfl) (anx rfl (zi ?_))))))))))))))))))))))
   have OY : ∀ q9, (Mut (xe [])) q9 → q9 < (World.drew w40).heap.size → (Mut [(some ga)]) q9 := fun k h _ => (Mut.none_) k h;refine vo (Mut [(some ga)]) (Mut.grow Mut.none_ (yo Ba.lt)) [] [] (oi [Fx.of (.int .u64 0),
    Fx.of (.int .i64 1024),
    Fx.of (.pointer (some ⟨5, 0, none⟩)),
    Fx.of (.pointer (some ⟨5, 0, none⟩)),
    Fx.of (.pointer (some ⟨5, 2, none⟩)),
    Fx.of (.int .i64 (-1023)),
    Fx.of (.int .i64 2047),
    Fx.of (.pointer (some ⟨5, 0, none⟩)),
    Fx.of (.pointer (some ⟨5, 0, none⟩)),
    Fx.of (.pointer (some ⟨5, 1, none⟩)),
    Fx.of (.int .u64 11),
    Fx.of (.int .i64 2048),
    Fx.of (.int .i64 2047),
    Fx.of (.int .i64 2047),
    Fx.of (.int .u64 2047),
    Fx.of (.pointer (some ⟨5, 0, none⟩)),
    Fx.of (.pointer (some ⟨5, 0, none⟩)),
    Fx.of (.pointer (some ⟨5, 0, none⟩)),
    Fx.of (.int .u64 52),
    Fx.of (.int .u64 9218868437227405312),
    Fx.of (.int .u64 9218868437227405312),
    Fx.of (.int .u64 9218868437227405312)]) mixed rfl trivial (fun _ h => by cases h) ?_ ?_
   · refine ⟨?_, ?_, ?_, ?_, ?_, ?_, ?_, ?_, ?_, ?_, ?_, ?_, ?_, ?_, ?_, ?_, ?_, ?_, ?_, ?_, ?_, ?_, trivial⟩
     · intro vs X wq K;exact zv rfl ⟨Below.refl _ _, Left.of rfl⟩
     · intro vs X wq K;exact zv rfl ⟨Below.refl _ _, Left.of rfl⟩
     · intro vs X wq K;exact zv rfl ⟨Below.refl _ _, Left.of rfl⟩
     · intro vs X wq K;obtain ⟨_, e2, k2⟩ := K.dep 2 rfl rfl rfl;refine zk 206 (.pointer (some ⟨5, 0, none⟩)) rfl e2 ?_;exact zu rfl ⟨Below.refl _ _, Left.of rfl⟩
     · intro vs X wq K;obtain ⟨_, e3, k3⟩ := K.dep 3 rfl rfl rfl;refine zk 207 (.pointer (some ⟨5, 0, none⟩)) rfl e3 ?_;exact zb Tryz.underlying126 rfl sz3 (by decide) rfl ⟨Below.refl _ _, Left.of rfl⟩
     · intro vs X wq K;have LE := K.1;obtain ⟨_, e4, k4⟩ := K.dep 4 rfl rfl rfl;refine zk 208 (.pointer (some ⟨5, 2, none⟩)) rfl e4 ?_;exact yx Tryz.underlying3 rfl rfl (HF.on (E.drew.trans (LE.mono OY))).here.2 ⟨Below.refl _ _, Left.of rfl⟩
     · intro vs X wq K;obtain ⟨_, e1, k1⟩ := K.dep 1 rfl rfl rfl;refine zk 205 (.int .i64 1024) rfl e1 ?_;obtain ⟨_, e5, k5⟩ := K.dep 5 rfl rfl rfl;refine zk 209 (.int .i64 (-1023)) rfl e5 ?_;exact qc (z := 2047) rfl rfl (by kernel_rfl) ⟨Below.refl _ _, Left.of rfl⟩
     · intro vs X wq K;exact zv rfl ⟨Below.refl _ _, Left.of rfl⟩
     · intro vs X wq K;obtain ⟨_, e7, k7⟩ := K.dep 7 rfl rfl rfl;refine zk 211 (.pointer (some ⟨5, 0, none⟩)) rfl e7 ?_;exact zu rfl ⟨Below.refl _ _, Left.of rfl⟩
     · intro vs X wq K;obtain ⟨_, e8, k8⟩ := K.dep 8 rfl rfl rfl;refine zk 212 (.pointer (some ⟨5, 0, none⟩)) rfl e8 ?_;exact zb Tryz.underlying126 rfl xt (by decide) rfl ⟨Below.refl _ _, Left.of rfl⟩
     · intro vs X wq K;have LE := K.1;obtain ⟨_, e9, k9⟩ := K.dep 9 rfl rfl rfl;refine zk 213 (.pointer (some ⟨5, 1, none⟩)) rfl e9 ?_;exact yx Tryz.underlying100 rfl rfl (HF.on (E.drew.trans (LE.mono OY))).here.1.2 ⟨Below.refl _ _, Left.of rfl⟩
     · intro vs X wq K;obtain ⟨_, e10, k10⟩ := K.dep 10 rfl rfl rfl;refine zk 214 (.int .u64 11) rfl e10 ?_;exact jm (z := 2048) rfl rfl (by decide) (by kernel_rfl) ⟨Below.refl _ _, Left.of rfl⟩
     · intro vs X wq K;obtain ⟨_, e11, k11⟩ := K.dep 11 rfl rfl rfl;refine zk 215 (.int .i64 2048) rfl e11 ?_;exact qc (z := 2047) rfl rfl (by kernel_rfl) ⟨Below.refl _ _, Left.of rfl⟩
     · intro vs X wq K;obtain ⟨_, e6, k6⟩ := K.dep 6 rfl rfl rfl;refine zk 210 (.int .i64 2047) rfl e6 ?_;obtain ⟨_, e12, k12⟩ := K.dep 12 rfl rfl rfl;refine zk 216 (.int .i64 2047) rfl e12 ?_;exact vg (z := 2047) rfl rfl (by kernel_rfl) ⟨Below.refl _ _, Left.of rfl⟩
     · intro vs X wq K;obtain ⟨_, e13, k13⟩ := K.dep 13 rfl rfl rfl;refine zk 217 (.int .i64 2047) rfl e13 ?_;exact jd (z := 2047) Tryz.underlying64 Tryz.underlying3 rfl (by kernel_rfl) ⟨Below.refl _ _, Left.of rfl⟩
     · intro vs X wq K;exact zv rfl ⟨Below.refl _ _, Left.of rfl⟩
     · intro vs X wq K;obtain ⟨_, e15, k15⟩ := K.dep 15 rfl rfl rfl;refine zk 219 (.pointer (some ⟨5, 0, none⟩)) rfl e15 ?_;exact zu rfl ⟨Below.refl _ _, Left.of rfl⟩
     · intro vs X wq K;obtain ⟨_, e16, k16⟩ := K.dep 16 rfl rfl rfl;refine zk 220 (.pointer (some ⟨5, 0, none⟩)) rfl e16 ?_;exact zb Tryz.underlying126 rfl xt (by decide) rfl ⟨Below.refl _ _, Left.of rfl⟩
     · intro vs X wq K;have LE := K.1;obtain ⟨_, e17, k17⟩ := K.dep 17 rfl rfl rfl;refine zk 221 (.pointer (some ⟨5, 0, none⟩)) rfl e17 ?_;exact yx Tryz.underlying100 rfl rfl (HF.on (E.drew.trans (LE.mono OY))).here.1.1.2 ⟨Below.refl _ _, Left.of rfl⟩
     · intro vs X wq K;obtain ⟨_, e14, k14⟩ := K.dep 14 rfl rfl rfl;refine zk 218 (.int .u64 2047) rfl e14 ?_;obtain ⟨_, e18, k18⟩ := K.dep 18 rfl rfl rfl;refine zk 222 (.int .u64 52) rfl e18 ?_;exact jm (z := 9218868437227405312) rfl rfl (by decide) (by kernel_rfl) ⟨Below.refl _ _, Left.of rfl⟩
     · intro vs X wq K;obtain ⟨_, e0, k0⟩ := K.dep 0 rfl rfl rfl;refine zk 204 (.int .u64 0) rfl e0 ?_;obtain ⟨_, e19, k19⟩ := K.dep 19 rfl rfl rfl;refine zk 223 (.int .u64 9218868437227405312) rfl e19 ?_;exact xj (z := 9218868437227405312) rfl rfl (by kernel_rfl) ⟨Below.refl _ _, Left.of rfl⟩
     · intro vs X wq K;obtain ⟨_, e20, k20⟩ := K.dep 20 rfl rfl rfl;refine zk 224 (.int .u64 9218868437227405312) rfl e20 ?_;exact jr rfl ⟨Below.refl _ _, Left.of rfl⟩
   intro vs w41 LE AO AL AF AA;have LBa := Ba;replace Ba := Ba.drew.extN LE NotIn.nil;replace E := E.drew.trans (LE.mono OY);obtain ⟨_, e21, k21⟩ := AL.2.2.2.2.2.2.2.2.2.2.2.2.2.2.2.2.2.2.2.2.2.1;refine jj (τ := [(0, _), (1, _), (5, _), (11, .int .u64 9218868437227405312)]) ⟨rfl, rfl, rfl, congrArg some e21, trivial⟩ ?_;clear AL AF AA LE AO OY e21 k21 LBa
   refine ze (zi (srx (mvx rfl (za rfl (zu rfl (za rfl (zb Tryz.underlying136 rfl sz4 (by decide) rfl (za rfl (zh Tryz.underlying4 rfl rfl Ba (ngAt hl5 t.neg hn5) (rnx (zt rfl (fun hng => ?_) (fun hng => ?_))))))))))))
   ·
    have OY : ∀ q9, (Mut (xe [])) q9 → q9 < (World.drew w41).heap.size → (Mut [(some ga)]) q9 := fun k h _ => (Mut.none_) k h;refine vo (Mut [(some ga)]) (Mut.grow Mut.none_ (yo Ba.lt)) [] [] (oi [Fx.of (.int .u64 9218868437227405312),
     Fx.of (.pointer (some ⟨5, 0, none⟩)),
     Fx.of (.pointer (some ⟨5, 0, none⟩)),
     Fx.of (.pointer (some ⟨5, 0, none⟩)),
     Fx.of (.int .u64 52),
     Fx.of (.int .u64 4503599627370496),
     Fx.of (.pointer (some ⟨5, 0, none⟩)),
     Fx.of (.pointer (some ⟨5, 0, none⟩)),
     Fx.of (.pointer (some ⟨5, 1, none⟩)),
     Fx.of (.int .u64 11),
     Fx.of (.int .u64 9223372036854775808),
     Fx.of (.int .u64 18442240474082181120),
     Fx.of (.int .u64 18442240474082181120)]) mixed rfl trivial (fun _ h => by cases h) ?_ ?_
    · refine ⟨?_, ?_, ?_, ?_, ?_, ?_, ?_, ?_, ?_, ?_, ?_, ?_, ?_, trivial⟩
      · intro vs X wq K;exact zv rfl ⟨Below.refl _ _, Left.of rfl⟩
      · intro vs X wq K;exact zv rfl ⟨Below.refl _ _, Left.of rfl⟩
      · intro vs X wq K;obtain ⟨_, e1, k1⟩ := K.dep 1 rfl rfl rfl;refine zk 230 (.pointer (some ⟨5, 0, none⟩)) rfl e1 ?_;exact zu rfl ⟨Below.refl _ _, Left.of rfl⟩
      · intro vs X wq K;obtain ⟨_, e2, k2⟩ := K.dep 2 rfl rfl rfl;refine zk 231 (.pointer (some ⟨5, 0, none⟩)) rfl e2 ?_;exact zb Tryz.underlying126 rfl xt (by decide) rfl ⟨Below.refl _ _, Left.of rfl⟩
      · intro vs X wq K;have LE := K.1;obtain ⟨_, e3, k3⟩ := K.dep 3 rfl rfl rfl;refine zk 232 (.pointer (some ⟨5, 0, none⟩)) rfl e3 ?_;exact yx Tryz.underlying100 rfl rfl (HF.on (E.drew.trans (LE.mono OY))).here.1.1.2 ⟨Below.refl _ _, Left.of rfl⟩
      · intro vs X wq K;obtain ⟨_, e4, k4⟩ := K.dep 4 rfl rfl rfl;refine zk 233 (.int .u64 52) rfl e4 ?_;exact jm (z := 4503599627370496) rfl rfl (by decide) (by kernel_rfl) ⟨Below.refl _ _, Left.of rfl⟩
      · intro vs X wq K;exact zv rfl ⟨Below.refl _ _, Left.of rfl⟩
      · intro vs X wq K;obtain ⟨_, e6, k6⟩ := K.dep 6 rfl rfl rfl;refine zk 235 (.pointer (some ⟨5, 0, none⟩)) rfl e6 ?_;exact zu rfl ⟨Below.refl _ _, Left.of rfl⟩
      · intro vs X wq K;obtain ⟨_, e7, k7⟩ := K.dep 7 rfl rfl rfl;refine zk 236 (.pointer (some ⟨5, 0, none⟩)) rfl e7 ?_;exact zb Tryz.underlying126 rfl xt (by decide) rfl ⟨Below.refl _ _, Left.of rfl⟩
      · intro vs X wq K;have LE := K.1;obtain ⟨_, e8, k8⟩ := K.dep 8 rfl rfl rfl;refine zk 237 (.pointer (some ⟨5, 1, none⟩)) rfl e8 ?_;exact yx Tryz.underlying100 rfl rfl (HF.on (E.drew.trans (LE.mono OY))).here.1.2 ⟨Below.refl _ _, Left.of rfl⟩
      · intro vs X wq K;obtain ⟨_, e5, k5⟩ := K.dep 5 rfl rfl rfl;refine zk 234 (.int .u64 4503599627370496) rfl e5 ?_;obtain ⟨_, e9, k9⟩ := K.dep 9 rfl rfl rfl;refine zk 238 (.int .u64 11) rfl e9 ?_;exact jm (z := 9223372036854775808) rfl rfl (by decide) (by kernel_rfl) ⟨Below.refl _ _, Left.of rfl⟩
      · intro vs X wq K;obtain ⟨_, e0, k0⟩ := K.dep 0 rfl rfl rfl;refine zk 229 (.int .u64 9218868437227405312) rfl e0 ?_;obtain ⟨_, e10, k10⟩ := K.dep 10 rfl rfl rfl;refine zk 239 (.int .u64 9223372036854775808) rfl e10 ?_;exact xj (z := 18442240474082181120) rfl rfl (by kernel_rfl) ⟨Below.refl _ _, Left.of rfl⟩
      · intro vs X wq K;obtain ⟨_, e11, k11⟩ := K.dep 11 rfl rfl rfl;refine zk 240 (.int .u64 18442240474082181120) rfl e11 ?_;exact jr rfl ⟨Below.refl _ _, Left.of rfl⟩
    intro vs w42 LE AO AL AF AA;have LBa := Ba;replace Ba := Ba.drew.extN LE NotIn.nil;replace E := E.drew.trans (LE.mono OY);obtain ⟨_, e12, k12⟩ := AL.2.2.2.2.2.2.2.2.2.2.2.2.1;refine jj (τ := [(5, _), (11, .int .u64 18442240474082181120)]) ⟨rfl, congrArg some e12, trivial⟩ ?_;clear AL AF AA LE AO OY e12 k12 LBa
    refine ze (srx (mvx rfl (mvx rfl (avx rfl (anx rfl (zo (jx ?_)))))));have e : zbv t = 18442240474082181120 := by unfold zbv; rw [hfb, hng]; decide +kernel
    refine zm (rs := [.tmp 4, .tmp 5]) (vs := [_, _]) rfl ⟨rfl, rfl, trivial⟩ ?_;exact ⟨by rw [e, hfb]; rfl, ⟨_, Ba⟩, (LW.step E XLW)⟩
   ·
    refine zn (ze (srx (mvx rfl (mvx rfl (avx rfl (anx rfl (zo (jx ?_))))))));have e : zbv t = 9218868437227405312 := by unfold zbv; rw [hfb, hng]; decide +kernel
    refine zm (rs := [.tmp 4, .tmp 5]) (vs := [_, _]) rfl ⟨rfl, rfl, trivial⟩ ?_;exact ⟨by rw [e, hfb]; rfl, ⟨_, Ba⟩, (LW.step E XLW)⟩
 ·
  have LTa := (yo Ba.lt);clear Ba;rintro ⟨m, k, ov, u⟩ w2 ⟨M1, Ba, ⟨hfb, hmm, hee, hl5, hn5⟩⟩;replace E := E.trans M1;replace HF := HF.on E;replace LW := LW.step E XLW;replace E := erx (Mut [(some ga)]) w2
  refine zi (zn (ze (srx (mvx rfl (mvx rfl (za rfl (zu rfl (za rfl (zb Tryz.underlying126 rfl xt (by decide) rfl (za rfl (yx Tryz.underlying100 rfl rfl (HF.on E).here.1.1.2 (za rfl (jm (z := 4503599627370496) rfl rfl (by decide) (by kernel_rfl) (za rfl (qc (z := 4503599627370495) rfl rfl (by kernel_rfl) (za rfl (vg rfl rfl (and_lo hmm) (anx rfl (zi ?_)))))))))))))))))))
  have OY : ∀ q9, (Mut (xe [])) q9 → q9 < (World.drew w2).heap.size → (Mut [(some ga)]) q9 := fun k h _ => (Mut.none_) k h;refine vo (Mut [(some ga)]) (Mut.grow Mut.none_ (yo Ba.lt)) [] [] (oi [Fx.of (.int .u64 ((m &&& 4503599627370495 : Nat) : Int)),
   Fx.of (.int .i64 (((k : Nat) : Int) - 1023)),
   Fx.of (.pointer (some ⟨5, 0, none⟩)),
   Fx.of (.pointer (some ⟨5, 0, none⟩)),
   Fx.of (.pointer (some ⟨5, 2, none⟩)),
   Fx.of (.int .i64 (-1023)),
   Fx.of (.int .i64 ((k : Nat) : Int)),
   Fx.of (.pointer (some ⟨5, 0, none⟩)),
   Fx.of (.pointer (some ⟨5, 0, none⟩)),
   Fx.of (.pointer (some ⟨5, 1, none⟩)),
   Fx.of (.int .u64 11),
   Fx.of (.int .i64 2048),
   Fx.of (.int .i64 2047),
   Fx.of (.int .i64 ((k : Nat) : Int)),
   Fx.of (.int .u64 ((k : Nat) : Int)),
   Fx.of (.pointer (some ⟨5, 0, none⟩)),
   Fx.of (.pointer (some ⟨5, 0, none⟩)),
   Fx.of (.pointer (some ⟨5, 0, none⟩)),
   Fx.of (.int .u64 52),
   Fx.of (.int .u64 ((k * 4503599627370496 : Nat) : Int)),
   Fx.of (.int .u64 ((xu m k : Nat) : Int)),
   Fx.of (.int .u64 ((xu m k : Nat) : Int))]) mixed rfl trivial (fun _ h => by cases h) ?_ ?_
  · refine ⟨?_, ?_, ?_, ?_, ?_, ?_, ?_, ?_, ?_, ?_, ?_, ?_, ?_, ?_, ?_, ?_, ?_, ?_, ?_, ?_, ?_, ?_, trivial⟩
    · intro vs X wq K;exact zv rfl ⟨Below.refl _ _, Left.of rfl⟩
    · intro vs X wq K;exact zv rfl ⟨Below.refl _ _, Left.of rfl⟩
    · intro vs X wq K;exact zv rfl ⟨Below.refl _ _, Left.of rfl⟩
    · intro vs X wq K;obtain ⟨_, e2, k2⟩ := K.dep 2 rfl rfl rfl;refine zk 206 (.pointer (some ⟨5, 0, none⟩)) rfl e2 ?_;exact zu rfl ⟨Below.refl _ _, Left.of rfl⟩
    · intro vs X wq K;obtain ⟨_, e3, k3⟩ := K.dep 3 rfl rfl rfl;refine zk 207 (.pointer (some ⟨5, 0, none⟩)) rfl e3 ?_;exact zb Tryz.underlying126 rfl sz3 (by decide) rfl ⟨Below.refl _ _, Left.of rfl⟩
    · intro vs X wq K;have LE := K.1;obtain ⟨_, e4, k4⟩ := K.dep 4 rfl rfl rfl;refine zk 208 (.pointer (some ⟨5, 2, none⟩)) rfl e4 ?_;exact yx Tryz.underlying3 rfl rfl (HF.on (E.drew.trans (LE.mono OY))).here.2 ⟨Below.refl _ _, Left.of rfl⟩
    · intro vs X wq K;obtain ⟨_, e1, k1⟩ := K.dep 1 rfl rfl rfl;refine zk 205 (.int .i64 (((k : Nat) : Int) - 1023)) rfl e1 ?_;obtain ⟨_, e5, k5⟩ := K.dep 5 rfl rfl rfl;refine zk 209 (.int .i64 (-1023)) rfl e5 ?_;exact qc rfl rfl (zw (by omega)) ⟨Below.refl _ _, Left.of ((by congr 1; omega : (.int .i64 ((((k : Nat) : Int) - 1023) - (-1023)) : Value) = _))⟩
    · intro vs X wq K;exact zv rfl ⟨Below.refl _ _, Left.of rfl⟩
    · intro vs X wq K;obtain ⟨_, e7, k7⟩ := K.dep 7 rfl rfl rfl;refine zk 211 (.pointer (some ⟨5, 0, none⟩)) rfl e7 ?_;exact zu rfl ⟨Below.refl _ _, Left.of rfl⟩
    · intro vs X wq K;obtain ⟨_, e8, k8⟩ := K.dep 8 rfl rfl rfl;refine zk 212 (.pointer (some ⟨5, 0, none⟩)) rfl e8 ?_;exact zb Tryz.underlying126 rfl xt (by decide) rfl ⟨Below.refl _ _, Left.of rfl⟩
    · intro vs X wq K;have LE := K.1;obtain ⟨_, e9, k9⟩ := K.dep 9 rfl rfl rfl;refine zk 213 (.pointer (some ⟨5, 1, none⟩)) rfl e9 ?_;exact yx Tryz.underlying100 rfl rfl (HF.on (E.drew.trans (LE.mono OY))).here.1.2 ⟨Below.refl _ _, Left.of rfl⟩
    · intro vs X wq K;obtain ⟨_, e10, k10⟩ := K.dep 10 rfl rfl rfl;refine zk 214 (.int .u64 11) rfl e10 ?_;exact jm (z := 2048) rfl rfl (by decide) (by kernel_rfl) ⟨Below.refl _ _, Left.of rfl⟩
    · intro vs X wq K;obtain ⟨_, e11, k11⟩ := K.dep 11 rfl rfl rfl;refine zk 215 (.int .i64 2048) rfl e11 ?_;exact qc (z := 2047) rfl rfl (by kernel_rfl) ⟨Below.refl _ _, Left.of rfl⟩
    · intro vs X wq K;obtain ⟨_, e6, k6⟩ := K.dep 6 rfl rfl rfl;refine zk 210 (.int .i64 ((k : Nat) : Int)) rfl e6 ?_;obtain ⟨_, e12, k12⟩ := K.dep 12 rfl rfl rfl;refine zk 216 (.int .i64 2047) rfl e12 ?_;exact vg rfl rfl (and_i2047 hee) ⟨Below.refl _ _, Left.of rfl⟩
    · intro vs X wq K;obtain ⟨_, e13, k13⟩ := K.dep 13 rfl rfl rfl;refine zk 217 (.int .i64 ((k : Nat) : Int)) rfl e13 ?_;exact jd Tryz.underlying64 Tryz.underlying3 rfl (wrap_u64 (by omega)) ⟨Below.refl _ _, Left.of rfl⟩
    · intro vs X wq K;exact zv rfl ⟨Below.refl _ _, Left.of rfl⟩
    · intro vs X wq K;obtain ⟨_, e15, k15⟩ := K.dep 15 rfl rfl rfl;refine zk 219 (.pointer (some ⟨5, 0, none⟩)) rfl e15 ?_;exact zu rfl ⟨Below.refl _ _, Left.of rfl⟩
    · intro vs X wq K;obtain ⟨_, e16, k16⟩ := K.dep 16 rfl rfl rfl;refine zk 220 (.pointer (some ⟨5, 0, none⟩)) rfl e16 ?_;exact zb Tryz.underlying126 rfl xt (by decide) rfl ⟨Below.refl _ _, Left.of rfl⟩
    · intro vs X wq K;have LE := K.1;obtain ⟨_, e17, k17⟩ := K.dep 17 rfl rfl rfl;refine zk 221 (.pointer (some ⟨5, 0, none⟩)) rfl e17 ?_;exact yx Tryz.underlying100 rfl rfl (HF.on (E.drew.trans (LE.mono OY))).here.1.1.2 ⟨Below.refl _ _, Left.of rfl⟩
    · intro vs X wq K;obtain ⟨_, e14, k14⟩ := K.dep 14 rfl rfl rfl;refine zk 218 (.int .u64 ((k : Nat) : Int)) rfl e14 ?_;obtain ⟨_, e18, k18⟩ := K.dep 18 rfl rfl rfl;refine zk 222 (.int .u64 52) rfl e18 ?_;exact jm rfl rfl (by decide) (shl_52 hee) ⟨Below.refl _ _, Left.of rfl⟩
    · intro vs X wq K;obtain ⟨_, e0, k0⟩ := K.dep 0 rfl rfl rfl;refine zk 204 (.int .u64 ((m &&& 4503599627370495 : Nat) : Int)) rfl e0 ?_;obtain ⟨_, e19, k19⟩ := K.dep 19 rfl rfl rfl;refine zk 223 (.int .u64 ((k * 4503599627370496 : Nat) : Int)) rfl e19 ?_;exact xj rfl rfl (slowC_or hee) ⟨Below.refl _ _, Left.of rfl⟩
    · intro vs X wq K;obtain ⟨_, e20, k20⟩ := K.dep 20 rfl rfl rfl;refine zk 224 (.int .u64 ((xu m k : Nat) : Int)) rfl e20 ?_;exact jr rfl ⟨Below.refl _ _, Left.of rfl⟩
  intro vs w43 LE AO AL AF AA;have LBa := Ba;replace Ba := Ba.drew.extN LE NotIn.nil;replace E := E.drew.trans (LE.mono OY);obtain ⟨_, e21, k21⟩ := AL.2.2.2.2.2.2.2.2.2.2.2.2.2.2.2.2.2.2.2.2.2.1;refine jj (τ := [(0, _), (1, _), (5, _), (11, .int .u64 ((xu m k : Nat) : Int))]) ⟨rfl, rfl, rfl, congrArg some e21, trivial⟩ ?_;clear AL AF AA LE AO OY e21 k21 LBa
  refine ze (zi (srx (mvx rfl (za rfl (zu rfl (za rfl (zb Tryz.underlying136 rfl sz4 (by decide) rfl (za rfl (zh Tryz.underlying4 rfl rfl Ba (ngAt hl5 t.neg hn5) (rnx (zt rfl (fun hng => ?_) (fun hng => ?_))))))))))))
  ·
   have OY : ∀ q9, (Mut (xe [])) q9 → q9 < (World.drew w43).heap.size → (Mut [(some ga)]) q9 := fun k h _ => (Mut.none_) k h;refine vo (Mut [(some ga)]) (Mut.grow Mut.none_ (yo Ba.lt)) [] [] (oi [Fx.of (.int .u64 ((xu m k : Nat) : Int)),
    Fx.of (.pointer (some ⟨5, 0, none⟩)),
    Fx.of (.pointer (some ⟨5, 0, none⟩)),
    Fx.of (.pointer (some ⟨5, 0, none⟩)),
    Fx.of (.int .u64 52),
    Fx.of (.int .u64 4503599627370496),
    Fx.of (.pointer (some ⟨5, 0, none⟩)),
    Fx.of (.pointer (some ⟨5, 0, none⟩)),
    Fx.of (.pointer (some ⟨5, 1, none⟩)),
    Fx.of (.int .u64 11),
    Fx.of (.int .u64 9223372036854775808),
    Fx.of (.int .u64 ((xu m k ||| 9223372036854775808 : Nat) : Int)),
    Fx.of (.int .u64 ((xu m k ||| 9223372036854775808 : Nat) : Int))]) mixed rfl trivial (fun _ h => by cases h) ?_ ?_
   · refine ⟨?_, ?_, ?_, ?_, ?_, ?_, ?_, ?_, ?_, ?_, ?_, ?_, ?_, trivial⟩
     · intro vs X wq K;exact zv rfl ⟨Below.refl _ _, Left.of rfl⟩
     · intro vs X wq K;exact zv rfl ⟨Below.refl _ _, Left.of rfl⟩
     · intro vs X wq K;obtain ⟨_, e1, k1⟩ := K.dep 1 rfl rfl rfl;refine zk 230 (.pointer (some ⟨5, 0, none⟩)) rfl e1 ?_;exact zu rfl ⟨Below.refl _ _, Left.of rfl⟩
     · intro vs X wq K;obtain ⟨_, e2, k2⟩ := K.dep 2 rfl rfl rfl;refine zk 231 (.pointer (some ⟨5, 0, none⟩)) rfl e2 ?_;exact zb Tryz.underlying126 rfl xt (by decide) rfl ⟨Below.refl _ _, Left.of rfl⟩
     · intro vs X wq K;have LE := K.1;obtain ⟨_, e3, k3⟩ := K.dep 3 rfl rfl rfl;refine zk 232 (.pointer (some ⟨5, 0, none⟩)) rfl e3 ?_;exact yx Tryz.underlying100 rfl rfl (HF.on (E.drew.trans (LE.mono OY))).here.1.1.2 ⟨Below.refl _ _, Left.of rfl⟩
     · intro vs X wq K;obtain ⟨_, e4, k4⟩ := K.dep 4 rfl rfl rfl;refine zk 233 (.int .u64 52) rfl e4 ?_;exact jm (z := 4503599627370496) rfl rfl (by decide) (by kernel_rfl) ⟨Below.refl _ _, Left.of rfl⟩
     · intro vs X wq K;exact zv rfl ⟨Below.refl _ _, Left.of rfl⟩
     · intro vs X wq K;obtain ⟨_, e6, k6⟩ := K.dep 6 rfl rfl rfl;refine zk 235 (.pointer (some ⟨5, 0, none⟩)) rfl e6 ?_;exact zu rfl ⟨Below.refl _ _, Left.of rfl⟩
     · intro vs X wq K;obtain ⟨_, e7, k7⟩ := K.dep 7 rfl rfl rfl;refine zk 236 (.pointer (some ⟨5, 0, none⟩)) rfl e7 ?_;exact zb Tryz.underlying126 rfl xt (by decide) rfl ⟨Below.refl _ _, Left.of rfl⟩
     · intro vs X wq K;have LE := K.1;obtain ⟨_, e8, k8⟩ := K.dep 8 rfl rfl rfl;refine zk 237 (.pointer (some ⟨5, 1, none⟩)) rfl e8 ?_;exact yx Tryz.underlying100 rfl rfl (HF.on (E.drew.trans (LE.mono OY))).here.1.2 ⟨Below.refl _ _, Left.of rfl⟩
     · intro vs X wq K;obtain ⟨_, e5, k5⟩ := K.dep 5 rfl rfl rfl;refine zk 234 (.int .u64 4503599627370496) rfl e5 ?_;obtain ⟨_, e9, k9⟩ := K.dep 9 rfl rfl rfl;refine zk 238 (.int .u64 11) rfl e9 ?_;exact jm (z := 9223372036854775808) rfl rfl (by decide) (by kernel_rfl) ⟨Below.refl _ _, Left.of rfl⟩
     · intro vs X wq K;obtain ⟨_, e0, k0⟩ := K.dep 0 rfl rfl rfl;refine zk 229 (.int .u64 ((xu m k : Nat) : Int)) rfl e0 ?_;obtain ⟨_, e10, k10⟩ := K.dep 10 rfl rfl rfl;refine zk 239 (.int .u64 9223372036854775808) rfl e10 ?_;exact xj rfl rfl (slowC_neg hee) ⟨Below.refl _ _, Left.of rfl⟩
     · intro vs X wq K;obtain ⟨_, e11, k11⟩ := K.dep 11 rfl rfl rfl;refine zk 240 (.int .u64 ((xu m k ||| 9223372036854775808 : Nat) : Int)) rfl e11 ?_;exact jr rfl ⟨Below.refl _ _, Left.of rfl⟩
   intro vs w44 LE AO AL AF AA;have LBa := Ba;replace Ba := Ba.drew.extN LE NotIn.nil;replace E := E.drew.trans (LE.mono OY);obtain ⟨_, e12, k12⟩ := AL.2.2.2.2.2.2.2.2.2.2.2.2.1;refine jj (τ := [(5, _), (11, .int .u64 ((xu m k ||| 9223372036854775808 : Nat) : Int))]) ⟨rfl, congrArg some e12, trivial⟩ ?_;clear AL AF AA LE AO OY e12 k12 LBa
   refine ze (srx (mvx rfl (mvx rfl (avx rfl (anx rfl (zo (jx ?_)))))));have e : zbv t = xu m k ||| 9223372036854775808 := by unfold zbv slowB xu; rw [hfb, if_pos hng]
   refine zm (rs := [.tmp 4, .tmp 5]) (vs := [_, _]) rfl ⟨rfl, rfl, trivial⟩ ?_;exact ⟨by rw [e, hfb]; rfl, ⟨_, Ba⟩, (LW.step E XLW)⟩
  ·
   refine zn (ze (srx (mvx rfl (mvx rfl (avx rfl (anx rfl (zo (jx ?_))))))));have e : zbv t = xu m k := by unfold zbv slowB xu; rw [hfb, if_neg (by rw [hng]; decide)]
   refine zm (rs := [.tmp 4, .tmp 5]) (vs := [_, _]) rfl ⟨rfl, rfl, trivial⟩ ?_;exact ⟨by rw [e, hfb]; rfl, ⟨_, Ba⟩, (LW.step E XLW)⟩
end
end Go.Proofs.YtmjemknimipnjaaGreatDoor
namespace Go.Proofs.YtmjemknimipnjaaGreatDoor
open Go.RowKit
set_option maxRecDepth 100000
attribute [local irreducible] OW RS
theorem putIn {s : ByteArray} {a : StS} (h1 : bAt s a.i ≠ 46) (h2 : ¬ (bAt s a.i = 48 ∧ a.t.nd = 0)) (h3 : a.t.nd < 800) : gj s a = { a with i := a.i + 1, dig := true, t := { a.t with d := a.t.d.set a.t.nd (bAt s a.i), nd := a.t.nd + 1 } } := by
 unfold gj; rw [if_neg h1, if_neg h2, if_pos h3]
theorem putOut {s : ByteArray} {a : StS} (h1 : bAt s a.i ≠ 46) (h2 : ¬ (bAt s a.i = 48 ∧ a.t.nd = 0)) (h3 : ¬ a.t.nd < 800) : gj s a = { a with i := a.i + 1, dig := true, t := { a.t with tr := if bAt s a.i ≠ 48 then true else a.t.tr } } := by
 unfold gj; rw [if_neg h1, if_neg h2, if_neg h3]
theorem pt48_1 : Gives 48 #[.int .u8 101] (.int .u8 101) := by
 intro w;refine yn Tryz.func48 rfl Tryz.ntmps48 rfl ?_;have LW := erx (No) w;have XLW := grx (No) w;have E := erx (No) w;refine srx (anx rfl (srx (mvx rfl (za rfl (xj (z := 101) rfl rfl (by kernel_rfl) (anx rfl (zo (zm (rs := [.tmp 2]) (vs := [.int .u8 101]) rfl ⟨rfl, trivial⟩ ?_))))))));exact ⟨rfl, (LW.step E XLW).toBelow⟩
section
variable (w : World)
theorem set_any (ga : Nat) (s : ByteArray) (f : Nat) (neg : Bool) {p Z q : Nat} (hsg : SgnAt s f neg) (hs : Nm s f p Z q) (hl : s.size < 100000) (hB : Blk w ga 136 (qh (zjk false))) :
 Calls Tryz.prog 69 #[.pointer (some ⟨ga, 0, none⟩), .string s] w fun e w' => e = .returned (.bool true) ∧ Blk w' ga 136 (qh (setD s f neg)) ∧ Ext (Mut [some ga]) w w' := by
 have hfs : f < s.size := hs.size;have hfd := hs.first;have hl0 : (zjk false).d.length = 800 := (dec0_ok false).len;refine yn Tryz.func69 rfl Tryz.ntmps69 rfl ?_;have Ba := hB;have LW := erx (Mut [(some ga)]) w;have XLW := grx (Mut [(some ga)]) w;have E := erx (Mut [(some ga)]) w
 refine srx (anx rfl (srx (anx rfl (srx (mvx rfl (za rfl (zu rfl (za rfl (zb Tryz.underlying136 rfl sz4 (by decide) rfl (ya (qu sz4 rfl rfl Ba rfl rfl (in_ hl0 (by decide : 802 < 804)) (set_neg hl0 false) ?_)))))))))));intro w1 Bx Ea;replace Ba : Blk w1 ga 136 (qh (zjk false)) := Bx;replace E := E.step1 Ea Mut.head
 refine rnx (srx (mvx rfl (za rfl (zu rfl (za rfl (zb Tryz.underlying136 rfl sz4 (by decide) rfl (ya (qu sz4 rfl rfl Ba rfl rfl (in_ hl0 (by decide : 803 < 804)) (ycz hl0 false) ?_))))))));intro w2 Bx Ea;replace Ba : Blk w2 ga 136 (qh (zjk false)) := Bx;replace E := E.step1 Ea Mut.head
 refine rnx (zi (srx (mvx rfl (mvx rfl (za rfl (yz Tryz.underlying9 rfl (za rfl (qz rfl rfl (rnx (zp 19 (.bool false) rfl ((by rw [decide_eq_false (by omega)] : (.bool (decide (((s.size : Nat) : Int) ≤ 0)) : Value) = _)) (ye rfl (zn (ze (zi (srx (mvx rfl (mvx rfl (za rfl (ym (j := 0) (b := bAt s 0) Tryz.underlying9 rfl rfl rfl (qb (by omega)) (rnx ?_))))))))))))))))))))
 replace LW := LW.step E XLW;replace E := erx (Mut [(some ga)]) w2;refine qf (ι := Unit) (fun _ => [(0, .pointer (some ⟨ga, 0, none⟩)), (1, .string s), (4, .bool false), (5, .int .i64 ((f : Nat) : Int))]) (fun _ w' => Ext (Mut [(some ga)]) w2 w' ∧ Blk w' ga 136 (qh (zjk neg)) ∧ (True)) ?_ ?_
 ·
  have M3 := erx (Mut [(some ga)]) w2;have XM3 := grx (Mut [(some ga)]) w2;refine yc (srx (za rfl (zz rfl rfl (anx rfl ?_))));by_cases hneg : neg = true
  ·
   obtain ⟨hf1, h45⟩ := hsg.neg hneg
   refine zp 23 (.bool false) rfl ((by rw [h45]; rfl : (.bool (((bAt s 0 : Nat) : Int) == 43) : Value) = _)) (ye rfl (srx (za rfl (zz rfl rfl (anx rfl (zp 27 (.bool true) rfl ((by rw [h45]; rfl : (.bool (((bAt s 0 : Nat) : Int) == 45) : Value) = _)) (yg rfl (srx (mvx rfl (za rfl (yp (z := 1) rfl rfl (by kernel_rfl) (anx rfl (zg (mvx rfl (za rfl (zu rfl (za rfl (zb Tryz.underlying136 rfl sz4 (by decide) rfl (ya (qu sz4 rfl rfl Ba rfl rfl (in_ hl0 (by decide : 802 < 804)) (set_neg hl0 true) ?_))))))))))))))))))))
   intro w5 Bx Ea;replace Ba : Blk w5 ga 136 (qh (zjk true)) := Bx;replace E := E.step1 Ea Mut.head;refine yd (zf (yt 5 (.int .i64 ((f : Nat) : Int)) rfl ((by rw [hf1]; rfl : (.int .i64 1 : Value) = _)) ?_));replace Ba : Blk w5 ga 136 (qh (zjk neg)) := by rw [hneg]; exact Ba
   exact yu () ⟨rfl, rfl, rfl, rfl, trivial⟩ ⟨M3.step E XM3, (by exact Ba), trivial⟩
  ·
   have hf0 := hsg.pos hneg;rw [hf0] at hfd
   refine zp 23 (.bool false) rfl ((by rw [vv (by omega)] : (.bool (((bAt s 0 : Nat) : Int) == 43) : Value) = _)) (ye rfl (srx (za rfl (zz rfl rfl (anx rfl (zp 27 (.bool false) rfl ((by rw [vv (by omega)] : (.bool (((bAt s 0 : Nat) : Int) == 45) : Value) = _)) (ye rfl (zn (zf (yt 5 (.int .i64 ((f : Nat) : Int)) rfl ((by rw [hf0]; rfl : (.int .i64 0 : Value) = _)) ?_))))))))))
   replace Ba : Blk w2 ga 136 (qh (zjk neg)) := by rw [Bool.eq_false_iff.2 hneg]; exact Ba
   exact yu () ⟨rfl, rfl, rfl, rfl, trivial⟩ ⟨M3.step E XM3, (by exact Ba), trivial⟩
 ·
  have LTa := (yo Ba.lt);clear Ba;rintro _ w4 ⟨M3, Ba, _⟩;replace E := E.trans M3;replace LW := LW.step E XLW;replace E := erx (Mut [(some ga)]) w4;refine srx (anx rfl (srx (anx rfl (zi ?_))));replace LW := LW.step E XLW;replace E := erx (Mut [(some ga)]) w4
  refine qf (ι := StS) (fun x => [(0, .pointer (some ⟨ga, 0, none⟩)), (1, .string s), (4, .bool false), (5, .int .i64 ((x.i : Nat) : Int)), (6, .bool x.dot), (7, .bool x.dig)]) (fun x w' => Ext (Mut [(some ga)]) w4 w' ∧ Blk w' ga 136 (qh x.t) ∧ (x = stA s f neg)) ?_ ?_
  ·
   have M6 := erx (Mut [(some ga)]) w4;have XM6 := grx (Mut [(some ga)]) w4;refine yc ?_;replace M6 := M6.step E XM6;replace E := erx (Mut [(some ga)]) w4
   refine qm (ι := StS) (fun x => [(0, .pointer (some ⟨ga, 0, none⟩)), (1, .string s), (4, .bool false), (5, .int .i64 ((x.i : Nat) : Int)), (6, .bool x.dot), (7, .bool x.dig)]) (fun x w' => Ext (Mut [(some ga)]) w4 w' ∧ Blk w' ga 136 (qh x.t) ∧ (StN s f p Z q x ∧ va (xv s) (gj s) x = stA s f neg)) (fun x => Z - x.i) (⟨f, false, false, zjk neg⟩) ⟨rfl, rfl, rfl, rfl, rfl, rfl, trivial⟩ ⟨Ext.refl _ _, (by exact Ba), ybv neg hs, rfl⟩ ?_
   have LTa := (yo Ba.lt);clear Ba;rintro x w9 ⟨M8, Ba, ⟨hI, hu⟩⟩;have XM8 : Gro (Mut [(some ga)]) (Mut [(some ga)]) w4 := (Mut.grow Mut.none_ (fun k e => Or.inl (Mut.head k e)));replace E := E.trans M8;replace M6 := M6.step E XM6;replace E := erx (Mut [(some ga)]) w9;have hlx := hI.dec.len;have hnx := hI.dec.hn;have hsE := hs.hE;have hiE := hI.iE;have hfi := hI.fi;have hpp := hI.hp
   refine zi (srx (mvx rfl (mvx rfl (za rfl (yz Tryz.underlying9 rfl (za rfl (yv rfl rfl (rnx (zt rfl (fun h1 => ?_) (fun h1 => ?_))))))))))
   ·
    have h1 : x.i < s.size := by have h1 := of_decide_eq_true h1; omega
    refine zn (ze (zi (yc (zi (yc (srx (mvx rfl (mvx rfl (za rfl (ym (j := x.i) (b := bAt s (x.i)) Tryz.underlying9 rfl rfl rfl (qb (by omega)) ?_))))))))));by_cases hE2 : x.i < Z
    ·
     have hdone := stN_cont hs hI hE2;have hkeep := (ycx hs hI hdone).1;have hu2 := hu;rw [vc hdone] at hu2;have hc := hs.at_ hfi hE2;have hb := bAt_lt s x.i
     refine za rfl (zz rfl rfl (anx rfl (zp 40 (.bool false) rfl ((by rw [vv (by omega)] : (.bool (((bAt s (x.i) : Nat) : Int) == 95) : Value) = _)) (ye rfl (srx (mvx rfl (mvx rfl (za rfl (ym (j := x.i) (b := bAt s (x.i)) Tryz.underlying9 rfl rfl rfl (qb (by omega)) (za rfl (zz rfl rfl (anx rfl ?_))))))))))));by_cases hdot : bAt s x.i = 46
     ·
      have hstep : gj s x = { x with i := x.i + 1, dot := true, t := { x.t with dp := ((x.t.nd : Nat) : Int) } } := by unfold gj; rw [if_pos hdot]
      have hnodot : x.dot = false := by
       rcases hc with ⟨_, h3⟩ | ⟨h3, _⟩
       · omega
       · cases h4 : x.dot with
         | false => rfl
         | true => have := hI.dt h4; omega
      rw [hstep] at hkeep hu2
      refine zp 45 (.bool true) rfl ((by rw [hdot]; rfl : (.bool (((bAt s (x.i) : Nat) : Int) == 46) : Value) = _)) (yg rfl (zi (srx (mvx rfl (rnx (zp 50 (.bool false) rfl ((by rw [hnodot] : (.bool x.dot : Value) = _)) (ye rfl (zn (ze (srx (anx rfl (srx (mvx rfl (mvx rfl (za rfl (zu rfl (za rfl (zb Tryz.underlying136 rfl sz3 (by decide) rfl (za rfl (zh Tryz.underlying3 rfl rfl Ba (xw hlx (x.t.nd) rfl) (za rfl (zu rfl (za rfl (zb Tryz.underlying136 rfl sz3 (by decide) rfl (ya (qu sz3 rfl rfl Ba rfl rfl (in_ hlx (by decide : 801 < 804)) (ztk hlx ((x.t.nd : Nat) : Int)) ?_))))))))))))))))))))))))))
      intro w10 Bx Ea;replace Ba : Blk w10 ga 136 (qh { x.t with dp := ((x.t.nd : Nat) : Int) }) := Bx;replace E := E.step1 Ea Mut.head;refine rnx (yw (qg rfl (zl (zy (ze (zg (mvx rfl (za rfl (yp rfl rfl (zw (by omega)) (avx rfl (yd (yt 5 (.int .i64 ((x.i + 1 : Nat) : Int)) rfl (rfl) ?_))))))))))))
      exact yr ({ x with i := x.i + 1, dot := true, t := { x.t with dp := ((x.t.nd : Nat) : Int) } }) (by show Z - (x.i + 1) < Z - x.i; omega) ⟨rfl, rfl, rfl, rfl, rfl, rfl, trivial⟩ ⟨M8.step E XM8, (by exact Ba), hkeep, hu2⟩
     ·
      have hc : 48 ≤ bAt s x.i ∧ bAt s x.i ≤ 57 := by omega
      refine zp 45 (.bool false) rfl ((by rw [vv (by omega)] : (.bool (((bAt s (x.i) : Nat) : Int) == 46) : Value) = _)) (ye rfl (srx (mvx rfl (mvx rfl (za rfl (ym (j := x.i) (b := bAt s (x.i)) Tryz.underlying9 rfl rfl rfl (qb (by omega)) (za rfl (gf rfl rfl (mvx rfl (yi 63 (.bool true) rfl ((by rw [decide_eq_true (by omega)] : (.bool (decide (48 ≤ ((bAt s (x.i) : Nat) : Int))) : Value) = _)) (onx rfl (zv rfl (onx rfl (zv rfl (onx rfl (ym (j := x.i) (b := bAt s (x.i)) Tryz.underlying9 rfl rfl rfl (qb (by omega)) (onx rfl (gf rfl rfl (za rfl (zq rfl rfl (anx rfl (zp 58 (.bool true) rfl ((by rw [decide_eq_true (by omega)] : (.bool (decide (((bAt s (x.i) : Nat) : Int) ≤ 57)) : Value) = _)) (yg rfl (srx (anx rfl (zi (srx (mvx rfl (mvx rfl (za rfl (ym (j := x.i) (b := bAt s (x.i)) Tryz.underlying9 rfl rfl rfl (qb (by omega)) (za rfl (zz rfl rfl (mvx rfl (yk 73 rfl (fun h3 => ?_) (fun h3 => ?_))))))))))))))))))))))))))))))))))))
      ·
       have h3 : bAt s x.i = 48 := by have h3 := eq_of_beq h3; omega
       refine onx rfl (zv rfl (onx rfl (zu rfl (onx rfl (zb Tryz.underlying136 rfl sz3 (by decide) rfl (onx rfl (zh Tryz.underlying3 rfl rfl Ba (xw hlx (x.t.nd) rfl) (onx rfl (zz rfl rfl (za rfl (zq rfl rfl (rnx (zt rfl (fun h4 => ?_) (fun h4 => ?_))))))))))))))
       ·
        have h4 : x.t.nd = 0 := by have h4 := eq_of_beq h4; omega
        have hstep : gj s x = { x with i := x.i + 1, dig := true, t := { x.t with dp := x.t.dp - 1 } } := by unfold gj; rw [if_neg hdot, if_pos ⟨h3, h4⟩]
        rw [hstep] at hkeep hu2
        refine srx (mvx rfl (za rfl (zu rfl (za rfl (zb Tryz.underlying136 rfl sz3 (by decide) rfl (za rfl (zh Tryz.underlying3 rfl rfl Ba (znx hlx x.t.dp rfl) (za rfl (qc rfl rfl (zw (by omega)) (za rfl (zu rfl (za rfl (zb Tryz.underlying136 rfl sz3 (by decide) rfl (ya (qu sz3 rfl rfl Ba rfl rfl (in_ hlx (by decide : 801 < 804)) (ztk hlx (x.t.dp - 1)) ?_)))))))))))))))
        intro w11 Bx Ea;replace Ba : Blk w11 ga 136 (qh { x.t with dp := x.t.dp - 1 }) := Bx;replace E := E.step1 Ea Mut.head;refine rnx (yw (zl (qg rfl (zl (zy (ze (zg (mvx rfl (za rfl (yp rfl rfl (zw (by omega)) (avx rfl (yd (yt 5 (.int .i64 ((x.i + 1 : Nat) : Int)) rfl (rfl) ?_)))))))))))))
        exact yr ({ x with i := x.i + 1, dig := true, t := { x.t with dp := x.t.dp - 1 } }) (by show Z - (x.i + 1) < Z - x.i; omega) ⟨rfl, rfl, rfl, rfl, rfl, rfl, trivial⟩ ⟨M8.step E XM8, (by exact Ba), hkeep, hu2⟩
       ·
        have hnz : ¬ (bAt s x.i = 48 ∧ x.t.nd = 0) := fun h => absurd h4 (by rw [h.2]; decide)
        refine zn (ze (zi (srx (mvx rfl (za rfl (zu rfl (za rfl (zb Tryz.underlying136 rfl sz3 (by decide) rfl (za rfl (zh Tryz.underlying3 rfl rfl Ba (xw hlx (x.t.nd) rfl) (za rfl (yv rfl rfl (rnx (zt rfl (fun h5 => ?_) (fun h5 => ?_)))))))))))))))
        ·
         have h5 : x.t.nd < 800 := by have h5 := of_decide_eq_true h5; omega
         have hst := putIn hdot hnz h5;have hst2 : (x.t.d.set x.t.nd (bAt s x.i)).length = 800 := by rw [List.length_set]; exact hlx
         have hly : ({ x.t with d := x.t.d.set x.t.nd (bAt s x.i) } : Dec).d.length = 800 := hst2;rw [hst] at hkeep hu2;refine zi ?_;have OY : ∀ q9, (Mut (xe [])) q9 → q9 < (World.drew w9).heap.size → (Mut [(some ga)]) q9 := fun k h _ => (Mut.none_) k h;refine cw_any mixed (ak_cut 11 rfl ?_)
         refine aw_drawn (Mut [(some ga)]) (Mut.grow Mut.none_ (yo Ba.lt)) [] [] (oi [Fx.of (.pointer (some ⟨ga, 0, none⟩)),
          Fx.of (.pointer (some ⟨ga, 0, none⟩)),
          Fx.of (.pointer (some ⟨ga, 0, none⟩)),
          Fx.of (.pointer (some ⟨ga, 800, none⟩)),
          Fx.of (.int .i64 ((x.t.nd : Nat) : Int)),
          Fx.of (.string s),
          Fx.of (.int .i64 ((x.i : Nat) : Int)),
          Fx.of (.int .u8 ((bAt s x.i : Nat) : Int)),
          Fx.of (.pointer (some ⟨ga, 0, none⟩)),
          Fx.of (.pointer (some ⟨ga, 0, none⟩)),
          Fx.of (.pointer (some ⟨ga, x.t.nd, none⟩))]) rfl trivial (fun _ h => by cases h) ?_ ?_
         · refine ⟨?_, ?_, ?_, ?_, ?_, ?_, ?_, ?_, ?_, ?_, ?_, trivial⟩
           · intro vs X wq K;exact zv rfl ⟨Below.refl _ _, Left.of rfl⟩
           · intro vs X wq K;exact zv rfl ⟨Below.refl _ _, Left.of rfl⟩
           · intro vs X wq K;obtain ⟨_, e1, k1⟩ := K.dep 1 rfl rfl rfl;refine zk 93 (.pointer (some ⟨ga, 0, none⟩)) rfl e1 ?_;exact zu rfl ⟨Below.refl _ _, Left.of rfl⟩
           · intro vs X wq K;obtain ⟨_, e2, k2⟩ := K.dep 2 rfl rfl rfl;refine zk 94 (.pointer (some ⟨ga, 0, none⟩)) rfl e2 ?_;exact zb Tryz.underlying136 rfl sz3 (by decide) rfl ⟨Below.refl _ _, Left.of rfl⟩
           · intro vs X wq K;have LE := K.1;obtain ⟨_, e3, k3⟩ := K.dep 3 rfl rfl rfl;refine zk 95 (.pointer (some ⟨ga, 800, none⟩)) rfl e3 ?_;exact zh Tryz.underlying3 rfl rfl (Ba.drew.extN LE NotIn.nil) (xw hlx x.t.nd rfl) ⟨Below.refl _ _, Left.of rfl⟩
           · intro vs X wq K;exact zv rfl ⟨Below.refl _ _, Left.of rfl⟩
           · intro vs X wq K;exact zv rfl ⟨Below.refl _ _, Left.of rfl⟩
           · intro vs X wq K;obtain ⟨_, e5, k5⟩ := K.dep 5 rfl rfl rfl;refine zk 97 (.string s) rfl e5 ?_;obtain ⟨_, e6, k6⟩ := K.dep 6 rfl rfl rfl;refine zk 98 (.int .i64 ((x.i : Nat) : Int)) rfl e6 ?_;exact ym (j := x.i) (b := bAt s x.i) Tryz.underlying9 rfl rfl rfl (qb (by omega)) ⟨Below.refl _ _, Left.of rfl⟩
           · intro vs X wq K;obtain ⟨_, e0, k0⟩ := K.dep 0 rfl rfl rfl;refine zk 92 (.pointer (some ⟨ga, 0, none⟩)) rfl e0 ?_;exact zu rfl ⟨Below.refl _ _, Left.of rfl⟩
           · intro vs X wq K;obtain ⟨_, e8, k8⟩ := K.dep 8 rfl rfl rfl;refine zk 100 (.pointer (some ⟨ga, 0, none⟩)) rfl e8 ?_;exact zb Tryz.underlying136 rfl od (by decide) rfl ⟨Below.refl _ _, Left.of rfl⟩
           · intro vs X wq K;obtain ⟨_, e9, k9⟩ := K.dep 9 rfl rfl rfl;refine zk 101 (.pointer (some ⟨ga, 0, none⟩)) rfl e9 ?_;obtain ⟨_, e4, k4⟩ := K.dep 4 rfl rfl rfl;refine zk 96 (.int .i64 ((x.t.nd : Nat) : Int)) rfl e4 ?_;exact qx (j := x.t.nd) Tryz.underlying134 sz5 rfl rfl rfl (by omega) ⟨Below.refl _ _, Left.of rfl⟩
         intro vs w12 LE AO AL AF AA;have LBa := Ba;replace Ba := Ba.drew.extN LE NotIn.nil;replace E := E.drew.trans (LE.mono OY);obtain ⟨_, e7, k7⟩ := AL.2.2.2.2.2.2.2.1;obtain ⟨_, e10, k10⟩ := AL.2.2.2.2.2.2.2.2.2.2.1
         refine jj (τ := [(0, _), (1, _), (4, _), (5, _), (6, _), (7, _), (99, .int .u8 ((bAt s x.i : Nat) : Int)), (102, .pointer (some ⟨ga, x.t.nd, none⟩))]) ⟨rfl, rfl, rfl, rfl, rfl, rfl, congrArg some e7, congrArg some e10, trivial⟩ ?_;clear AL AF AA LE AO OY e7 e10 k7 k10 LBa
         refine ew_ak (ak_of_rs (by kernel_rfl) (fun _ _ d_ _ _ h => by cases d_ <;> exact h) (ya (qu sz5 rfl rfl Ba rfl rfl (in_ hlx (by omega)) (set_d hlx (by omega)) ?_)));intro w13 Bx Ea;replace Ba : Blk w13 ga 136 (qh { x.t with d := x.t.d.set x.t.nd (bAt s x.i) }) := Bx;replace E := E.step1 Ea Mut.head
         refine rnx (zg (mvx rfl (za rfl (zu rfl (za rfl (zb Tryz.underlying136 rfl sz3 (by decide) rfl (za rfl (zh Tryz.underlying3 rfl rfl Ba (xw hly (x.t.nd) rfl) (za rfl (yp rfl rfl (zw (by omega)) (za rfl (zu rfl (za rfl (zb Tryz.underlying136 rfl sz3 (by decide) rfl (yi 107 (.int .i64 ((x.t.nd + 1 : Nat) : Int)) rfl (rfl) (ya (qu sz3 rfl rfl Ba rfl rfl (in_ hly (by decide : 800 < 804)) (ycq hly (x.t.nd + 1)) ?_)))))))))))))))))
         intro w14 Bx Ea;replace Ba : Blk w14 ga 136 (qh { x.t with d := x.t.d.set x.t.nd (bAt s x.i), nd := x.t.nd + 1 }) := Bx;replace E := E.step1 Ea Mut.head
         refine rnx (yw (qg rfl (zl (zy (ze (zg (mvx rfl (za rfl (yp rfl rfl (zw (by omega)) (avx rfl (yd (yt 5 (.int .i64 ((x.i + 1 : Nat) : Int)) rfl (rfl) ?_))))))))))))
         exact yr ({ x with i := x.i + 1, dig := true, t := { x.t with d := x.t.d.set x.t.nd (bAt s x.i), nd := x.t.nd + 1 } }) (by show Z - (x.i + 1) < Z - x.i; omega) ⟨rfl, rfl, rfl, rfl, rfl, rfl, trivial⟩ ⟨M8.step E XM8, (by exact Ba), hkeep, hu2⟩
        ·
         have h5 : ¬ x.t.nd < 800 := by have h5 := of_decide_eq_false h5; omega
         have hst := putOut hdot hnz h5;refine srx (mvx rfl (mvx rfl (za rfl (ym (j := x.i) (b := bAt s (x.i)) Tryz.underlying9 rfl rfl rfl (qb (by omega)) (za rfl (qw rfl rfl (rnx (zt rfl (fun h6 => ?_) (fun h6 => ?_)))))))))
         ·
          have h6 : bAt s x.i ≠ 48 := fun e => absurd h6 (by rw [e]; decide);rw [if_pos h6] at hst;rw [hst] at hkeep hu2;refine zg (mvx rfl (za rfl (zu rfl (za rfl (zb Tryz.underlying136 rfl sz4 (by decide) rfl (ya (qu sz4 rfl rfl Ba rfl rfl (in_ hlx (by decide : 803 < 804)) (ycz hlx true) ?_)))))));intro w15 Bx Ea
          replace Ba : Blk w15 ga 136 (qh { x.t with tr := true }) := Bx;replace E := E.step1 Ea Mut.head;refine rnx (yw (qg rfl (zl (zy (ze (zg (mvx rfl (za rfl (yp rfl rfl (zw (by omega)) (avx rfl (yd (yt 5 (.int .i64 ((x.i + 1 : Nat) : Int)) rfl (rfl) ?_))))))))))))
          exact yr ({ x with i := x.i + 1, dig := true, t := { x.t with tr := true } }) (by show Z - (x.i + 1) < Z - x.i; omega) ⟨rfl, rfl, rfl, rfl, rfl, rfl, trivial⟩ ⟨M8.step E XM8, (by exact Ba), hkeep, hu2⟩
         ·
          have h6 : bAt s x.i = 48 := by
           rcases Nat.decEq (bAt s x.i) 48 with h7 | h7
           · rw [bne_iff_ne.2 (by omega)] at h6; cases h6
           · exact h7
          rw [if_neg (fun h => h h6)] at hst;rw [hst] at hkeep hu2;refine zn (ze (yw (qg rfl (zl (zy (ze (zg (mvx rfl (za rfl (yp rfl rfl (zw (by omega)) (avx rfl (yd (yt 5 (.int .i64 ((x.i + 1 : Nat) : Int)) rfl (rfl) ?_)))))))))))))
          exact yr ({ x with i := x.i + 1, dig := true, t := { x.t with tr := x.t.tr } }) (by show Z - (x.i + 1) < Z - x.i; omega) ⟨rfl, rfl, rfl, rfl, rfl, rfl, trivial⟩ ⟨M8.step E XM8, (by exact Ba), hkeep, hu2⟩
      ·
       have hnz : ¬ (bAt s x.i = 48 ∧ x.t.nd = 0) := fun h => absurd h3 (by rw [h.1]; decide)
       refine za rfl (zc rfl (za rfl (zc rfl (za rfl (zc rfl (za rfl (zc rfl (za rfl (zc rfl (za rfl (zx rfl rfl (rnx (ye rfl (zn (ze (zi (srx (mvx rfl (za rfl (zu rfl (za rfl (zb Tryz.underlying136 rfl sz3 (by decide) rfl (za rfl (zh Tryz.underlying3 rfl rfl Ba (xw hlx (x.t.nd) rfl) (za rfl (yv rfl rfl (rnx (zt rfl (fun h5 => ?_) (fun h5 => ?_)))))))))))))))))))))))))))))
       ·
        have h5 : x.t.nd < 800 := by have h5 := of_decide_eq_true h5; omega
        have hst := putIn hdot hnz h5;have hst2 : (x.t.d.set x.t.nd (bAt s x.i)).length = 800 := by rw [List.length_set]; exact hlx
        have hly : ({ x.t with d := x.t.d.set x.t.nd (bAt s x.i) } : Dec).d.length = 800 := hst2;rw [hst] at hkeep hu2;refine zi ?_;have OY : ∀ q9, (Mut (xe [])) q9 → q9 < (World.drew w9).heap.size → (Mut [(some ga)]) q9 := fun k h _ => (Mut.none_) k h;refine cw_any mixed (ak_cut 11 rfl ?_)
        refine aw_drawn (Mut [(some ga)]) (Mut.grow Mut.none_ (yo Ba.lt)) [] [] (oi [Fx.of (.pointer (some ⟨ga, 0, none⟩)),
         Fx.of (.pointer (some ⟨ga, 0, none⟩)),
         Fx.of (.pointer (some ⟨ga, 0, none⟩)),
         Fx.of (.pointer (some ⟨ga, 800, none⟩)),
         Fx.of (.int .i64 ((x.t.nd : Nat) : Int)),
         Fx.of (.string s),
         Fx.of (.int .i64 ((x.i : Nat) : Int)),
         Fx.of (.int .u8 ((bAt s x.i : Nat) : Int)),
         Fx.of (.pointer (some ⟨ga, 0, none⟩)),
         Fx.of (.pointer (some ⟨ga, 0, none⟩)),
         Fx.of (.pointer (some ⟨ga, x.t.nd, none⟩))]) rfl trivial (fun _ h => by cases h) ?_ ?_
        · refine ⟨?_, ?_, ?_, ?_, ?_, ?_, ?_, ?_, ?_, ?_, ?_, trivial⟩
          · intro vs X wq K;exact zv rfl ⟨Below.refl _ _, Left.of rfl⟩
          · intro vs X wq K;exact zv rfl ⟨Below.refl _ _, Left.of rfl⟩
          · intro vs X wq K;obtain ⟨_, e1, k1⟩ := K.dep 1 rfl rfl rfl;refine zk 93 (.pointer (some ⟨ga, 0, none⟩)) rfl e1 ?_;exact zu rfl ⟨Below.refl _ _, Left.of rfl⟩
          · intro vs X wq K;obtain ⟨_, e2, k2⟩ := K.dep 2 rfl rfl rfl;refine zk 94 (.pointer (some ⟨ga, 0, none⟩)) rfl e2 ?_;exact zb Tryz.underlying136 rfl sz3 (by decide) rfl ⟨Below.refl _ _, Left.of rfl⟩
          · intro vs X wq K;have LE := K.1;obtain ⟨_, e3, k3⟩ := K.dep 3 rfl rfl rfl;refine zk 95 (.pointer (some ⟨ga, 800, none⟩)) rfl e3 ?_;exact zh Tryz.underlying3 rfl rfl (Ba.drew.extN LE NotIn.nil) (xw hlx x.t.nd rfl) ⟨Below.refl _ _, Left.of rfl⟩
          · intro vs X wq K;exact zv rfl ⟨Below.refl _ _, Left.of rfl⟩
          · intro vs X wq K;exact zv rfl ⟨Below.refl _ _, Left.of rfl⟩
          · intro vs X wq K;obtain ⟨_, e5, k5⟩ := K.dep 5 rfl rfl rfl;refine zk 97 (.string s) rfl e5 ?_;obtain ⟨_, e6, k6⟩ := K.dep 6 rfl rfl rfl;refine zk 98 (.int .i64 ((x.i : Nat) : Int)) rfl e6 ?_;exact ym (j := x.i) (b := bAt s x.i) Tryz.underlying9 rfl rfl rfl (qb (by omega)) ⟨Below.refl _ _, Left.of rfl⟩
          · intro vs X wq K;obtain ⟨_, e0, k0⟩ := K.dep 0 rfl rfl rfl;refine zk 92 (.pointer (some ⟨ga, 0, none⟩)) rfl e0 ?_;exact zu rfl ⟨Below.refl _ _, Left.of rfl⟩
          · intro vs X wq K;obtain ⟨_, e8, k8⟩ := K.dep 8 rfl rfl rfl;refine zk 100 (.pointer (some ⟨ga, 0, none⟩)) rfl e8 ?_;exact zb Tryz.underlying136 rfl od (by decide) rfl ⟨Below.refl _ _, Left.of rfl⟩
          · intro vs X wq K;obtain ⟨_, e9, k9⟩ := K.dep 9 rfl rfl rfl;refine zk 101 (.pointer (some ⟨ga, 0, none⟩)) rfl e9 ?_;obtain ⟨_, e4, k4⟩ := K.dep 4 rfl rfl rfl;refine zk 96 (.int .i64 ((x.t.nd : Nat) : Int)) rfl e4 ?_;exact qx (j := x.t.nd) Tryz.underlying134 sz5 rfl rfl rfl (by omega) ⟨Below.refl _ _, Left.of rfl⟩
        intro vs w16 LE AO AL AF AA;have LBa := Ba;replace Ba := Ba.drew.extN LE NotIn.nil;replace E := E.drew.trans (LE.mono OY);obtain ⟨_, e7, k7⟩ := AL.2.2.2.2.2.2.2.1;obtain ⟨_, e10, k10⟩ := AL.2.2.2.2.2.2.2.2.2.2.1
        refine jj (τ := [(0, _), (1, _), (4, _), (5, _), (6, _), (7, _), (99, .int .u8 ((bAt s x.i : Nat) : Int)), (102, .pointer (some ⟨ga, x.t.nd, none⟩))]) ⟨rfl, rfl, rfl, rfl, rfl, rfl, congrArg some e7, congrArg some e10, trivial⟩ ?_;clear AL AF AA LE AO OY e7 e10 k7 k10 LBa
        refine ew_ak (ak_of_rs (by kernel_rfl) (fun _ _ d_ _ _ h => by cases d_ <;> exact h) (ya (qu sz5 rfl rfl Ba rfl rfl (in_ hlx (by omega)) (set_d hlx (by omega)) ?_)));intro w17 Bx Ea;replace Ba : Blk w17 ga 136 (qh { x.t with d := x.t.d.set x.t.nd (bAt s x.i) }) := Bx;replace E := E.step1 Ea Mut.head
        refine rnx (zg (mvx rfl (za rfl (zu rfl (za rfl (zb Tryz.underlying136 rfl sz3 (by decide) rfl (za rfl (zh Tryz.underlying3 rfl rfl Ba (xw hly (x.t.nd) rfl) (za rfl (yp rfl rfl (zw (by omega)) (za rfl (zu rfl (za rfl (zb Tryz.underlying136 rfl sz3 (by decide) rfl (yi 107 (.int .i64 ((x.t.nd + 1 : Nat) : Int)) rfl (rfl) (ya (qu sz3 rfl rfl Ba rfl rfl (in_ hly (by decide : 800 < 804)) (ycq hly (x.t.nd + 1)) ?_)))))))))))))))))
        intro w18 Bx Ea;replace Ba : Blk w18 ga 136 (qh { x.t with d := x.t.d.set x.t.nd (bAt s x.i), nd := x.t.nd + 1 }) := Bx;replace E := E.step1 Ea Mut.head
        refine rnx (yw (qg rfl (zl (zy (ze (zg (mvx rfl (za rfl (yp rfl rfl (zw (by omega)) (avx rfl (yd (yt 5 (.int .i64 ((x.i + 1 : Nat) : Int)) rfl (rfl) ?_))))))))))))
        exact yr ({ x with i := x.i + 1, dig := true, t := { x.t with d := x.t.d.set x.t.nd (bAt s x.i), nd := x.t.nd + 1 } }) (by show Z - (x.i + 1) < Z - x.i; omega) ⟨rfl, rfl, rfl, rfl, rfl, rfl, trivial⟩ ⟨M8.step E XM8, (by exact Ba), hkeep, hu2⟩
       ·
        have h5 : ¬ x.t.nd < 800 := by have h5 := of_decide_eq_false h5; omega
        have hst := putOut hdot hnz h5;refine srx (mvx rfl (mvx rfl (za rfl (ym (j := x.i) (b := bAt s (x.i)) Tryz.underlying9 rfl rfl rfl (qb (by omega)) (za rfl (qw rfl rfl (rnx (zt rfl (fun h6 => ?_) (fun h6 => ?_)))))))))
        ·
         have h6 : bAt s x.i ≠ 48 := fun e => absurd h6 (by rw [e]; decide);rw [if_pos h6] at hst;rw [hst] at hkeep hu2;refine zg (mvx rfl (za rfl (zu rfl (za rfl (zb Tryz.underlying136 rfl sz4 (by decide) rfl (ya (qu sz4 rfl rfl Ba rfl rfl (in_ hlx (by decide : 803 < 804)) (ycz hlx true) ?_)))))));intro w19 Bx Ea
         replace Ba : Blk w19 ga 136 (qh { x.t with tr := true }) := Bx;replace E := E.step1 Ea Mut.head;refine rnx (yw (qg rfl (zl (zy (ze (zg (mvx rfl (za rfl (yp rfl rfl (zw (by omega)) (avx rfl (yd (yt 5 (.int .i64 ((x.i + 1 : Nat) : Int)) rfl (rfl) ?_))))))))))))
         exact yr ({ x with i := x.i + 1, dig := true, t := { x.t with tr := true } }) (by show Z - (x.i + 1) < Z - x.i; omega) ⟨rfl, rfl, rfl, rfl, rfl, rfl, trivial⟩ ⟨M8.step E XM8, (by exact Ba), hkeep, hu2⟩
        ·
         have h6 : bAt s x.i = 48 := by
          rcases Nat.decEq (bAt s x.i) 48 with h7 | h7
          · rw [bne_iff_ne.2 (by omega)] at h6; cases h6
          · exact h7
         rw [if_neg (fun h => h h6)] at hst;rw [hst] at hkeep hu2;refine zn (ze (yw (qg rfl (zl (zy (ze (zg (mvx rfl (za rfl (yp rfl rfl (zw (by omega)) (avx rfl (yd (yt 5 (.int .i64 ((x.i + 1 : Nat) : Int)) rfl (rfl) ?_)))))))))))))
         exact yr ({ x with i := x.i + 1, dig := true, t := { x.t with tr := x.t.tr } }) (by show Z - (x.i + 1) < Z - x.i; omega) ⟨rfl, rfl, rfl, rfl, rfl, rfl, trivial⟩ ⟨M8.step E XM8, (by exact Ba), hkeep, hu2⟩
    ·
     have e : x.i = Z := by omega
     have hb : bAt s x.i = 101 := by rw [e]; exact (hs.exp (by omega)).1
     have hdone : xv s x = true := by
      unfold xv;rw [Bool.or_eq_true];right
      rw [hb];rfl
     rw [qi hdone] at hu
     refine za rfl (zz rfl rfl (anx rfl (zp 40 (.bool false) rfl ((by rw [hb]; rfl : (.bool (((bAt s (x.i) : Nat) : Int) == 95) : Value) = _)) (ye rfl (srx (mvx rfl (mvx rfl (za rfl (ym (j := x.i) (b := bAt s (x.i)) Tryz.underlying9 rfl rfl rfl (qb (by omega)) (za rfl (zz rfl rfl (anx rfl (zp 45 (.bool false) rfl ((by rw [hb]; rfl : (.bool (((bAt s (x.i) : Nat) : Int) == 46) : Value) = _)) (ye rfl (srx (mvx rfl (mvx rfl (za rfl (ym (j := x.i) (b := bAt s (x.i)) Tryz.underlying9 rfl rfl rfl (qb (by omega)) (za rfl (gf rfl rfl (mvx rfl (yi 63 (.bool true) rfl ((by rw [hb]; rfl : (.bool (decide (48 ≤ ((bAt s (x.i) : Nat) : Int))) : Value) = _)) (onx rfl (zv rfl (onx rfl (zv rfl (onx rfl (ym (j := x.i) (b := bAt s (x.i)) Tryz.underlying9 rfl rfl rfl (qb (by omega)) (onx rfl (gf rfl rfl (za rfl (zq rfl rfl (anx rfl (zp 58 (.bool false) rfl ((by rw [hb]; rfl : (.bool (decide (((bAt s (x.i) : Nat) : Int) ≤ 57)) : Value) = _)) (ye rfl (zn (zf (ze (yw (qg rfl ?_)))))))))))))))))))))))))))))))))))))))))
     refine zl (zl (zy ?_));exact yu x ⟨rfl, rfl, rfl, rfl, rfl, rfl, trivial⟩ ⟨M6.step E XM6, (by exact Ba), hu⟩
   ·
    have h1 : ¬ x.i < s.size := by have h1 := of_decide_eq_false h1; omega
    have hdone : xv s x = true := by
     unfold xv;rw [decide_eq_true (by omega)]; rfl
    rw [qi hdone] at hu;refine yw (zl (zl (zy ?_)));exact yu x ⟨rfl, rfl, rfl, rfl, rfl, rfl, trivial⟩ ⟨M6.step E XM6, (by exact Ba), hu⟩
  ·
   have LTa := (yo Ba.lt);clear Ba;rintro x w7 ⟨M6, Ba, hx⟩;replace E := E.trans M6;replace LW := LW.step E XLW;replace E := erx (Mut [(some ga)]) w7;obtain ⟨hR, hRi⟩ := stA_ends neg hs;rw [← hx] at hR hRi;have hfp := hs.fp;have hpE := hs.pE;have hsE := hs.hE;have hdig : x.dig = true := hR.dg (by omega);have hlx := hR.dec.len;have hnx := hR.dec.hn;have hpp := hR.hp;have hti := hR.iE
   refine zi (srx (mvx rfl (za rfl (vd rfl (rnx (zp 118 (.bool false) rfl ((by rw [hdig]; rfl : (.bool (!x.dig) : Value) = _)) (ye rfl (zn (ze (zi (srx (mvx rfl (za rfl (vd rfl (rnx ?_)))))))))))))));replace LW := LW.step E XLW;replace E := erx (Mut [(some ga)]) w7
   refine qf (ι := Int) (fun d2 => [(0, .pointer (some ⟨ga, 0, none⟩)), (1, .string s), (4, .bool false), (5, .int .i64 ((x.i : Nat) : Int))]) (fun d2 w' => Ext (Mut [(some ga)]) w7 w' ∧ Blk w' ga 136 (qh { x.t with dp := d2 }) ∧ (d2 = (if x.dot then x.t.dp else ((x.t.nd : Nat) : Int)))) ?_ ?_
   ·
    have M20 := erx (Mut [(some ga)]) w7;have XM20 := grx (Mut [(some ga)]) w7;by_cases hdd : x.dot = true
    ·
     refine zp 120 (.bool false) rfl ((by rw [hdd]; rfl : (.bool (!x.dot) : Value) = _)) (ye rfl (zn ?_));replace Ba : Blk w7 ga 136 (qh { x.t with dp := x.t.dp }) := Ba;exact yu x.t.dp ⟨rfl, rfl, rfl, rfl, trivial⟩ ⟨M20.step E XM20, (by exact Ba), by rw [hdd, if_pos rfl]⟩
    ·
     refine zp 120 (.bool true) rfl ((by rw [Bool.eq_false_iff.2 hdd]; rfl : (.bool (!x.dot) : Value) = _)) (yg rfl (zg (mvx rfl (mvx rfl (za rfl (zu rfl (za rfl (zb Tryz.underlying136 rfl sz3 (by decide) rfl (za rfl (zh Tryz.underlying3 rfl rfl Ba (xw hlx (x.t.nd) rfl) (za rfl (zu rfl (za rfl (zb Tryz.underlying136 rfl sz3 (by decide) rfl (ya (qu sz3 rfl rfl Ba rfl rfl (in_ hlx (by decide : 801 < 804)) (ztk hlx ((x.t.nd : Nat) : Int)) ?_))))))))))))))))
     intro w22 Bx Ea;replace Ba : Blk w22 ga 136 (qh { x.t with dp := ((x.t.nd : Nat) : Int) }) := Bx;replace E := E.step1 Ea Mut.head;refine yd ?_;exact yu ((x.t.nd : Nat) : Int) ⟨rfl, rfl, rfl, rfl, trivial⟩ ⟨M20.step E XM20, (by exact Ba), by rw [if_neg hdd]⟩
   ·
    have LTa := (yo Ba.lt);clear Ba;rintro d2 w21 ⟨M20, Ba, hd2⟩;replace E := E.trans M20;replace LW := LW.step E XLW;replace E := erx (Mut [(some ga)]) w21;have hb2 : -100000 ≤ d2 ∧ d2 ≤ 100000 := by rw [hd2]; split <;> omega
    have hl2 : ({ x.t with dp := d2 } : Dec).d.length = 800 := hlx;have hP0 : setD s f neg = { x.t with dp := d2 + zbz s Z } := by unfold setD; rw [← hx, hRi, hd2]
    by_cases he : Z < s.size
    ·
     obtain ⟨hx1, hx2, hx3, hx4⟩ := hs.exp he;have hb : bAt s x.i = 101 := by rw [hRi]; exact hx1
     refine zi (srx (mvx rfl (mvx rfl (za rfl (yz Tryz.underlying9 rfl (za rfl (yv rfl rfl (mvx rfl (yi 132 (.bool true) rfl ((by rw [decide_eq_true (by omega)] : (.bool (decide (((x.i : Nat) : Int) < ((s.size : Nat) : Int))) : Value) = _)) (onx rfl (zv rfl (onx rfl (zv rfl (onx rfl (ym (j := x.i) (b := bAt s (x.i)) Tryz.underlying9 rfl rfl rfl (qb (by omega)) (yi 135 (.int .u8 101) rfl ((by rw [hb]; rfl : (.int .u8 ((bAt s (x.i) : Nat) : Int) : Value) = _)) (onx rfl (yh en48 rfl ((pt48_1 _).mono ?_)))))))))))))))))))
     rintro e w23 ⟨rfl, hb⟩;refine ⟨_, rfl, ?_⟩;have Ec := Ext.of_below hb No;replace Ba := Ba.extN Ec NotIn.nil;replace E := E.trans Ec.no
     refine onx rfl (zz rfl rfl (za rfl (zq rfl rfl (rnx (yg rfl (srx (mvx rfl (za rfl (yp rfl rfl (zw (by omega)) (anx rfl (zi (srx (mvx rfl (mvx rfl (za rfl (yz Tryz.underlying9 rfl (za rfl (qz rfl rfl (rnx (zp 144 (.bool false) rfl ((by rw [decide_eq_false (by omega)] : (.bool (decide (((s.size : Nat) : Int) ≤ (((x.i : Nat) : Int) + 1))) : Value) = _)) (ye rfl (zn (ze (srx (anx rfl (zi (srx (mvx rfl (mvx rfl (za rfl (ym (j := x.i + 1) (b := bAt s (x.i + 1)) Tryz.underlying9 rfl rfl rfl (qb (by omega)) ?_)))))))))))))))))))))))))))))))
     rw [← hRi] at hx2;refine rnx ?_;replace LW := LW.step E XLW;replace E := erx (Mut [(some ga)]) w23
     refine qf (ι := Nat × Int) (fun (k, g) => [(0, .pointer (some ⟨ga, 0, none⟩)), (1, .string s), (4, .bool false), (5, .int .i64 ((k : Nat) : Int)), (8, .int .i64 g)]) (fun (k, g) w' => Ext (Mut [(some ga)]) w23 w' ∧ Blk w' ga 136 (qh { x.t with dp := d2 }) ∧ (k = q ∧ g = (if bAt s (x.i + 1) = 45 then -1 else 1))) ?_ ?_
     ·
      have M24 := erx (Mut [(some ga)]) w23;have XM24 := grx (Mut [(some ga)]) w23;refine yc (srx (za rfl (zz rfl rfl (anx rfl ?_))));by_cases c43 : bAt s (x.i + 1) = 43
      ·
       refine zp 148 (.bool true) rfl ((by rw [c43]; rfl : (.bool (((bAt s (x.i + 1) : Nat) : Int) == 43) : Value) = _)) (yg rfl (zg (mvx rfl (za rfl (yp rfl rfl (zw (by omega)) (avx rfl (yd (zf ?_))))))));exact yu (x.i + 2, 1) ⟨rfl, rfl, rfl, rfl, rfl, trivial⟩ ⟨M24.step E XM24, (by exact Ba), by omega, by rw [if_neg (by omega)]⟩
      ·
       refine zp 148 (.bool false) rfl ((by rw [vv (by omega)] : (.bool (((bAt s (x.i + 1) : Nat) : Int) == 43) : Value) = _)) (ye rfl (srx (za rfl (zz rfl rfl (anx rfl ?_)))));by_cases c45 : bAt s (x.i + 1) = 45
       ·
        refine zp 152 (.bool true) rfl ((by rw [c45]; rfl : (.bool (((bAt s (x.i + 1) : Nat) : Int) == 45) : Value) = _)) (yg rfl (srx (mvx rfl (za rfl (yp rfl rfl (zw (by omega)) (anx rfl (zg (avx rfl (yd (zf ?_))))))))))
        exact yu (x.i + 2, -1) ⟨rfl, rfl, rfl, rfl, rfl, trivial⟩ ⟨M24.step E XM24, (by exact Ba), by omega, by rw [if_pos c45]⟩
       ·
        refine zp 152 (.bool false) rfl ((by rw [vv (by omega)] : (.bool (((bAt s (x.i + 1) : Nat) : Int) == 45) : Value) = _)) (ye rfl (zn (zf ?_)));exact yu (x.i + 1, 1) ⟨rfl, rfl, rfl, rfl, rfl, trivial⟩ ⟨M24.step E XM24, (by exact Ba), by omega, by rw [if_neg c45]⟩
     ·
      have LTa := (yo Ba.lt);clear Ba;rintro ⟨k, g⟩ w25 ⟨M24, Ba, ⟨hk, hg⟩⟩;replace E := E.trans M24;replace LW := LW.step E XLW;replace E := erx (Mut [(some ga)]) w25;subst hk;have hdq := hx4 k (Nat.le_refl _) hx3
      refine zi (srx (mvx rfl (mvx rfl (za rfl (yz Tryz.underlying9 rfl (za rfl (qz rfl rfl (mvx rfl (yi 160 (.bool false) rfl ((by rw [decide_eq_false (by omega)] : (.bool (decide (((s.size : Nat) : Int) ≤ ((k : Nat) : Int))) : Value) = _)) (onx rfl (zv rfl (onx rfl (zv rfl (onx rfl (ym (j := k) (b := bAt s (k)) Tryz.underlying9 rfl rfl rfl (qb (by omega)) (onx rfl (yv rfl rfl (za rfl (zx rfl rfl (mvx rfl (yi 166 (.bool false) rfl ((by rw [decide_eq_false (by omega)] : (.bool (decide (((bAt s (k) : Nat) : Int) < 48)) : Value) = _)) (onx rfl (zv rfl (onx rfl (zv rfl (onx rfl (ym (j := k) (b := bAt s (k)) Tryz.underlying9 rfl rfl rfl (qb (by omega)) (onx rfl (qe rfl rfl (za rfl (zx rfl rfl (rnx (zp 171 (.bool false) rfl ((by rw [decide_eq_false (by omega)] : (.bool (decide (57 < ((bAt s (k) : Nat) : Int))) : Value) = _)) (ye rfl (zn (ze (srx (anx rfl (zi ?_)))))))))))))))))))))))))))))))))))))))
      replace LW := LW.step E XLW;replace E := erx (Mut [(some ga)]) w25;refine qf (ι := ExS) (fun y => [(0, .pointer (some ⟨ga, 0, none⟩)), (1, .string s), (4, .bool false), (5, .int .i64 ((y.i : Nat) : Int)), (8, .int .i64 g), (9, .int .i64 ((y.e : Nat) : Int))]) (fun y w' => Ext (Mut [(some ga)]) w25 w' ∧ Blk w' ga 136 (qh { x.t with dp := d2 }) ∧ (y = exA s k)) ?_ ?_
      ·
       have M26 := erx (Mut [(some ga)]) w25;have XM26 := grx (Mut [(some ga)]) w25;refine yc ?_;replace M26 := M26.step E XM26;replace E := erx (Mut [(some ga)]) w25
       refine qm (ι := ExS) (fun y => [(0, .pointer (some ⟨ga, 0, none⟩)), (1, .string s), (4, .bool false), (5, .int .i64 ((y.i : Nat) : Int)), (8, .int .i64 g), (9, .int .i64 ((y.e : Nat) : Int))]) (fun y w' => Ext (Mut [(some ga)]) w25 w' ∧ Blk w' ga 136 (qh { x.t with dp := d2 }) ∧ (ExI s k y ∧ va (kv s) (om s) y = exA s k)) (fun y => s.size - y.i) (⟨k, 0⟩) ⟨rfl, rfl, rfl, rfl, rfl, rfl, trivial⟩ ⟨Ext.refl _ _, (by exact Ba), ⟨⟨Nat.le_refl _, Nat.le_of_lt hx3⟩, by show 0 < 100000; decide⟩, rfl⟩ ?_
       have LTa := (yo Ba.lt);clear Ba;rintro y w29 ⟨M28, Ba, ⟨hI, hu⟩⟩;have XM28 : Gro (Mut [(some ga)]) (Mut [(some ga)]) w25 := (Mut.grow Mut.none_ (fun k e => Or.inl (Mut.head k e)));replace E := E.trans M28;replace M26 := M26.step E XM26;replace E := erx (Mut [(some ga)]) w29;have hhi := hI.hi;have hhe := hI.he
       refine zi (srx (mvx rfl (mvx rfl (za rfl (yz Tryz.underlying9 rfl (za rfl (yv rfl rfl (mvx rfl (yk 176 rfl (fun h7 => ?_) (fun h7 => ?_))))))))))
       ·
        have h7 : y.i < s.size := by have h7 := of_decide_eq_true h7; omega
        have hc := hx4 y.i hhi.1 h7;have hdone : kv s y = false := by unfold kv; rw [decide_eq_false (by omega), zqq hc]; rfl
        have hkeep := (ex_keeps hI hdone).1;rw [vc hdone] at hu
        refine onx rfl (zv rfl (onx rfl (zv rfl (onx rfl (ym (j := y.i) (b := bAt s (y.i)) Tryz.underlying9 rfl rfl rfl (qb (by omega)) (onx rfl (gf rfl rfl (onx rfl (zv rfl (yi 181 (.bool true) rfl ((by rw [decide_eq_true (by omega)] : (.bool (decide (48 ≤ ((bAt s (y.i) : Nat) : Int))) : Value) = _)) (onx rfl (zv rfl (onx rfl (zv rfl (onx rfl (ym (j := y.i) (b := bAt s (y.i)) Tryz.underlying9 rfl rfl rfl (qb (by omega)) (onx rfl (gf rfl rfl (onx rfl (zq rfl rfl (onx rfl (zv rfl (yi 187 (.bool true) rfl ((by rw [decide_eq_true (by omega)] : (.bool (decide (((bAt s (y.i) : Nat) : Int) ≤ 57)) : Value) = _)) (za rfl (zc rfl (za rfl (zc rfl (za rfl (zc rfl (za rfl (zc rfl (onx rfl (zq rfl rfl (za rfl (zq rfl rfl (rnx (yg rfl (zn (ze (zi (yc (zi (srx (mvx rfl (mvx rfl (za rfl (ym (j := y.i) (b := bAt s (y.i)) Tryz.underlying9 rfl rfl rfl (qb (by omega)) (za rfl (zz rfl rfl (rnx (zp 199 (.bool false) rfl ((by rw [vv (by omega)] : (.bool (((bAt s (y.i) : Nat) : Int) == 95) : Value) = _)) (ye rfl (zn (ze (zi ?_)))))))))))))))))))))))))))))))))))))))))))))))))))))))
        refine zg (mvx rfl (za rfl (yv rfl rfl (rnx (zt rfl (fun h8 => ?_) (fun h8 => ?_))))))
        ·
         have h8 : y.e < 10000 := by have h8 := of_decide_eq_true h8; omega
         have hstep : om s y = ⟨y.i + 1, y.e * 10 + (bAt s y.i - 48)⟩ := by unfold om; rw [if_pos h8]
         rw [hstep] at hkeep hu
         refine zg (mvx rfl (za rfl (kc rfl rfl (zw (by omega)) (mvx rfl (mvx rfl (za rfl (ym (j := y.i) (b := bAt s (y.i)) Tryz.underlying9 rfl rfl rfl (qb (by omega)) (za rfl (jd Tryz.underlying3 Tryz.underlying5 rfl (zw (by omega)) (za rfl (yp rfl rfl (zw (by omega)) (za rfl (qc rfl rfl (zw (by omega)) (avx rfl (yd (zf (ze (zg (mvx rfl (za rfl (yp rfl rfl (zw (by omega)) (avx rfl (yd (yt 9 (.int .i64 ((y.e * 10 + (bAt s y.i - 48) : Nat) : Int)) rfl ((by congr 1; omega : (.int .i64 (((((y.e : Nat) : Int) * 10) + ((bAt s (y.i) : Nat) : Int)) - 48) : Value) = _)) ?_))))))))))))))))))))))))
         exact yr (⟨y.i + 1, y.e * 10 + (bAt s y.i - 48)⟩) (by show s.size - (y.i + 1) < s.size - y.i; omega) ⟨rfl, rfl, rfl, rfl, rfl, rfl, trivial⟩ ⟨M28.step E XM28, (by exact Ba), hkeep, hu⟩
        ·
         have h8 : ¬ y.e < 10000 := by have h8 := of_decide_eq_false h8; omega
         have hstep : om s y = ⟨y.i + 1, y.e⟩ := by unfold om; rw [if_neg h8]
         rw [hstep] at hkeep hu;refine zn (zf (ze (zg (mvx rfl (za rfl (yp rfl rfl (zw (by omega)) (avx rfl (yd ?_))))))));exact yr (⟨y.i + 1, y.e⟩) (by show s.size - (y.i + 1) < s.size - y.i; omega) ⟨rfl, rfl, rfl, rfl, rfl, rfl, trivial⟩ ⟨M28.step E XM28, (by exact Ba), hkeep, hu⟩
       ·
        have h7 : ¬ y.i < s.size := by have h7 := of_decide_eq_false h7; omega
        have hdone : kv s y = true := by unfold kv; rw [decide_eq_true (by omega)]; rfl
        rw [qi hdone] at hu
        refine za rfl (zc rfl (za rfl (zc rfl (za rfl (zc rfl (za rfl (zc rfl (za rfl (zc rfl (za rfl (qj rfl rfl (za rfl (qj rfl rfl (za rfl (qj rfl rfl (za rfl (qj rfl rfl (za rfl (zc rfl (za rfl (zc rfl (za rfl (qj rfl rfl (za rfl (qj rfl rfl (za rfl (qj rfl rfl (za rfl (qj rfl rfl (za rfl (zc rfl (za rfl (zx rfl rfl (rnx (ye rfl (yw (zl (zl (zy ?_)))))))))))))))))))))))))))))))))))))))
        exact yu y ⟨rfl, rfl, rfl, rfl, rfl, rfl, trivial⟩ ⟨M26.step E XM26, (by exact Ba), hu⟩
      ·
       have LTa := (yo Ba.lt);clear Ba;rintro y w27 ⟨M26, Ba, hy⟩;replace E := E.trans M26;replace LW := LW.step E XLW;replace E := erx (Mut [(some ga)]) w27;obtain ⟨hI, hdx⟩ := zmv (s := s) (q := k) (by omega);rw [← hy] at hI hdx;have hxi := ex_out hx4 hI hdx;have hxe := hI.he;have hX : IntKind.i64.wrap (((y.e : Nat) : Int) * g) = zbz s Z := by
        have e9 : zbz s Z = ((y.e : Nat) : Int) * g := by
         unfold zbz;rw [if_neg (by omega), ← hRi, hg, hy];rcases hx2 with ⟨h9, h10, h11⟩ | ⟨h9, h10⟩
         · rw [if_neg h11, if_neg h10, if_neg h11, ← h9, Int.mul_one]
         · rcases h10 with h10 | h10
           · rw [if_neg (by omega), if_pos h10, if_neg (by omega), ← h9, Int.mul_one]
           · rw [if_pos h10, if_pos h10, ← h9, Int.mul_neg, Int.mul_one]
        have h12 := zzk hs;rw [← e9];exact zw (by omega)
       have h12 := zzk hs
       refine zg (mvx rfl (za rfl (zu rfl (za rfl (zb Tryz.underlying136 rfl sz3 (by decide) rfl (za rfl (zh Tryz.underlying3 rfl rfl Ba (znx hl2 d2 rfl) (mvx rfl (mvx rfl (za rfl (kc rfl rfl hX (za rfl (yp rfl rfl (zw (by omega)) (za rfl (zu rfl (za rfl (zb Tryz.underlying136 rfl sz3 (by decide) rfl (ya (qu sz3 rfl rfl Ba rfl rfl (in_ hl2 (by decide : 801 < 804)) (ztk hl2 (d2 + zbz s Z)) ?_)))))))))))))))))))
       intro w30 Bx Ea;replace Ba : Blk w30 ga 136 (qh { x.t with dp := d2 + zbz s Z }) := Bx;replace E := E.step1 Ea Mut.head
       refine rnx (zi (srx (mvx rfl (mvx rfl (za rfl (yz Tryz.underlying9 rfl (za rfl (qw rfl rfl (rnx (zp 223 (.bool false) rfl ((by rw [hxi]; simp : (.bool (((y.i : Nat) : Int) != ((s.size : Nat) : Int)) : Value) = _)) (ye rfl (zn (ze (srx (anx rfl (zo (zm (rs := [.tmp 4]) (vs := [_]) rfl ⟨rfl, trivial⟩ ?_)))))))))))))))))
       exact ⟨rfl, by rw [hP0]; exact Ba, (LW.step E XLW)⟩
    ·
     have hz : zbz s Z = 0 := by unfold zbz; rw [if_pos (by omega)]
     refine zi (srx (mvx rfl (mvx rfl (za rfl (yz Tryz.underlying9 rfl (za rfl (yv rfl rfl (mvx rfl (yi 132 (.bool false) rfl ((by rw [decide_eq_false (by omega)] : (.bool (decide (((x.i : Nat) : Int) < ((s.size : Nat) : Int))) : Value) = _)) (za rfl (zc rfl (za rfl (zc rfl (za rfl (zc rfl (za rfl (zc rfl (za rfl (zc rfl (za rfl (zx rfl rfl (rnx (ye rfl (zn (ze (zi (srx (mvx rfl (mvx rfl (za rfl (yz Tryz.underlying9 rfl (za rfl (qw rfl rfl (rnx (zp 223 (.bool false) rfl ((by rw [show x.i = s.size by omega]; simp : (.bool (((x.i : Nat) : Int) != ((s.size : Nat) : Int)) : Value) = _)) (ye rfl (zn (ze (srx (anx rfl (zo (zm (rs := [.tmp 4]) (vs := [_]) rfl ⟨rfl, trivial⟩ ?_))))))))))))))))))))))))))))))))))))))))))
     exact ⟨rfl, by rw [hP0, hz, Int.add_zero]; exact Ba, (LW.step E XLW)⟩
end
end Go.Proofs.YtmjemknimipnjaaGreatDoor
namespace Go.Proofs.YtmjemknimipnjaaGreatDoor
open Go.RowKit
set_option maxRecDepth 100000
theorem run_equalIN {P : Program} {w : World} {T U : TypeId} {v : Value} {ms : Array (String × TypeId)} (hd : P.underlying T = some (.interface ms)) : (Op.equal T (.iface U v) .nilIface).run P w = .ok false w := by
 have e : Op.maxDepth = 9999 + 1 := rfl;have key : ∀ d : Nat, (Op.equalIn (d + 1) T (.iface U v) .nilIface).run P w = .ok false w := by
  intro d;rw [Op.equalIn];simp only [Sem.run_bind, run_underlying hd, Result.andThen_ok]
  rfl
 unfold Op.equal;rw [e];exact key 9999
theorem ow_neqI {P : Program} {N : Nat} {ops : Array Oper} {Q : Exit → Act → World → Prop} {σ : Env} {w : World} {ty : TypeId} {pos : String} {af : Array Edge} {dst : Option Nat} {Post : Value → World → Prop} {T U D : TypeId} {v : Value} {x : Operand} {ms : Array (String × TypeId)} (hd : P.underlying T = some (.interface ms)) (hx : ev σ x = some (.iface D v)) (k : Post (.bool true) w) : OW P N ops Q ⟨dst, .binOp .neq T x (.const .nilIface) U, ty, pos, af, none⟩ σ w Post :=
 qn (fun ρ ha => by
  have e := run_equalIN (P := P) (w := w) (U := D) (v := v) hd;have hc : ρ (.const .nilIface) = .nilIface := ha rfl;simp only [execOp, ha hx, hc, eqGuard, binOp]
  simp only [Bool.not_true, Bool.false_eq_true, if_false, Sem.run_bind, e, Result.andThen_ok, Sem.run_pure]
  rfl) k
theorem range_err (fn s : ByteArray) (base bits : Int) (w : World) (hl : s.size < 100000) (hv : ∃ te pe, w.cell? ⟨2, 0, none⟩ = some (.iface te pe)) :
 Calls Tryz.prog 41 #[.string fn, .string s, .int .i64 base, .int .i64 bits, rangeE] w fun e w' => (∃ er, e = .returned er) ∧ Below w.heap.size w w' := by
 obtain ⟨te, pe, hv⟩ := hv;refine (AnyPu.strconv_toError_range (ρ := Tryz.laysPu14_ren) { Tryz.laysPu14 with } fn s base bits (.iface te pe) w (by omega) hv (.inr ⟨te, pe, rfl⟩)).mono ?_;rintro e w' ⟨N, rfl, _, _, hb⟩;exact ⟨⟨_, rfl⟩, hb⟩
theorem zrDec : jn Tryz.prog 136 (.agg (qh (zjk false))) := by
 unfold qh decL;exact (by kernel_rfl : (Tryz.prog.info? 136).map (·.zero) = some (some (.agg ((zjk false).d.map (fun b => (.int .u8 ((b : Nat) : Int) : Value)) ++ ([.int .i64 (((zjk false).nd : Nat) : Int), .int .i64 (zjk false).dp, .bool (zjk false).neg, .bool (zjk false).tr] : List Value)).toArray)))
theorem ja {s : ByteArray} {k i : Nat} : bAt (s.extract k s.size) i = bAt s (k + i) := by
 unfold bAt;rw [ByteArray.data_extract, Array.getElem?_extract];by_cases h : i < s.size - k
 · rw [if_pos (by show i < min s.size s.data.size - k; rw [show s.data.size = s.size from rfl, Nat.min_self]; exact h)]
 · rw [if_neg (by show ¬ i < min s.size s.data.size - k; rw [show s.data.size = s.size from rfl, Nat.min_self]; exact h)];have : s.data[k + i]? = none := Array.getElem?_eq_none (by show s.size ≤ k + i; omega);rw [this]
theorem yiv (s : ByteArray) : s.extract 0 s.size = s := by
 apply ByteArray.ext
 rw [ByteArray.data_extract];exact Array.extract_eq_self_of_le (Nat.le_refl _)
theorem qk {s : ByteArray} {k : Nat} : (s.extract k s.size).size = s.size - k := by
 rw [ByteArray.size_extract, Nat.min_self]
theorem setD_dp {s : ByteArray} {f p Z q : Nat} (neg : Bool) (hs : Nm s f p Z q) (hl : s.size < 100000) : -20000000 ≤ (setD s f neg).dp ∧ (setD s f neg).dp ≤ 20000000 := by
 obtain ⟨h, hi⟩ := stA_ends neg hs;have h1 := h.hp;have h2 := h.dec.hn;have h3 := h.iE;have h4 := hs.hE;have h5 := zzk hs;rw [← hi] at h5;unfold setD
 show -20000000 ≤ (if (stA s f neg).dot = true then (stA s f neg).t.dp else (((stA s f neg).t.nd : Nat) : Int)) + zbz s (stA s f neg).i ∧ (if (stA s f neg).dot = true then (stA s f neg).t.dp else (((stA s f neg).t.nd : Nat) : Int)) + zbz s (stA s f neg).i ≤ 20000000
 split <;> omega
theorem ru_shift {s : ByteArray} {f i : Nat} : jg (s.extract f s.size) i = jg s (f + i) := by
 unfold jg;rw [ja, qk];congr 1
 exact decide_eq_decide.2 (by omega)
theorem zfq {s : ByteArray} {f a : Nat} (h : f + a ≤ s.size) : kj s (f + a) = f + kj (s.extract f s.size) a := by
 obtain ⟨h1, h2⟩ := gb (s := s.extract f s.size) (a := a) (by rw [qk]; omega);have h3 := h1.lo;have h4 := h1.hi;rw [qk] at h4;refine runD_eq ⟨by omega, by omega, fun j hj hk => ?_⟩ (by rw [← ru_shift]; exact h2);have := h1.dig (j - f) (by omega) (by omega);rw [ja, show f + (j - f) = j by omega] at this;exact this
theorem nQ_shift {s : ByteArray} {f b : Nat} : nQ s (f + b) = f + nQ (s.extract f s.size) b := by
 unfold nQ;rw [ja, show f + (b + 1) = f + b + 1 by omega];split <;> omega
theorem nB_shift {s : ByteArray} {f a : Nat} : nB s (f + a) = f + nB (s.extract f s.size) a := by
 unfold nB;rw [ja];split
 · rename_i h
   have := kx (s := s) (i := f + a) (by omega);rw [show f + a + 1 = f + (a + 1) by omega, zfq (by omega)]
 · rfl
theorem nC_shift {s : ByteArray} {f b : Nat} : nC s (f + b) = f + nC (s.extract f s.size) b := by
 unfold nC;rw [ja];split
 · rename_i h
   have := kx (s := s) (i := f + b) (by omega);have h1 := nQ_le (s := s) (b := f + b) this;rw [nQ_shift] at h1 ⊢;exact zfq h1
 · rfl
theorem num_shift {s : ByteArray} {f : Nat} (hf : f ≤ s.size) : NumP (s.extract f s.size) 0 ↔ NumP s f := by
 have e := zfq (s := s) (f := f) (a := 0) (by omega);unfold NumP Num2 Num3;rw [Nat.add_zero] at e;rw [e, nB_shift, nC_shift, nQ_shift, ja, ja, qk];constructor
 · rintro ⟨h1, h2, h3, h4⟩;exact ⟨by omega, fun h => by have := h2 h; omega, by omega, fun h => by have := h4 h; omega⟩
 · rintro ⟨h1, h2, h3, h4⟩;exact ⟨by omega, fun h => by have := h2 h; omega, by omega, fun h => by have := h4 h; omega⟩
theorem numB_shift {s : ByteArray} {f : Nat} (hf : f ≤ s.size) : og (s.extract f s.size) 0 = og s f := by
 by_cases h : NumP s f
 · rw [ylx h, ylx ((num_shift hf).2 h)]
 · rw [ky h, ky (fun e => h ((num_shift hf).1 e))]
theorem extract_extract {s : ByteArray} {f k : Nat} : (s.extract f s.size).extract k (s.extract f s.size).size = s.extract (f + k) s.size := by
 rw [qk];apply ByteArray.ext
 rw [ByteArray.data_extract, ByteArray.data_extract, ByteArray.data_extract, Array.extract_extract];congr 1
 show min (f + (s.size - f)) s.size = s.size
 omega
theorem len_bytes (s : ByteArray) : s.toList.length = s.size := by rw [ByteArray.toList_eq]; rfl
theorem yik {s : ByteArray} {k : Nat} : (s.extract k s.size).toList = [] ↔ s.size ≤ k := by
 have h := len_bytes (s.extract k s.size);rw [qk] at h;constructor
 · intro e;rw [e] at h;have h : 0 = s.size - k := h;omega
 · intro e;exact List.eq_nil_of_length_eq_zero (by omega)
theorem at_bytes (s : ByteArray) (i : Nat) : (s.toList[i]?).map (·.toNat) = (s.data[i]?).map (·.toNat) := by
 rw [ByteArray.toList_eq, Array.getElem?_toList]
theorem list_one {s : ByteArray} {c : UInt8} (h0 : 0 < s.size) : ((s.extract 0 1).toList == [c]) = decide (bAt s 0 = c.toNat) := by
 have hl := len_bytes (s.extract 0 1);rw [ByteArray.size_extract, Nat.sub_zero, Nat.min_eq_left (by omega)] at hl;obtain ⟨d, hd⟩ := List.length_eq_one_iff.1 hl;have h1 := at_bytes (s.extract 0 1) 0;rw [hd] at h1;have h2 : (s.extract 0 1).data[0]? = s.data[0]? := by
  rw [ByteArray.data_extract, Array.getElem?_extract, if_pos (by show 0 < min 1 s.size - 0; omega), Nat.zero_add]
 rw [h2, qb h0] at h1;have h1 : d.toNat = bAt s 0 := Option.some.inj h1;rw [hd, ← h1];by_cases h : d = c
 · subst h; simp
 · rw [decide_eq_false (fun e => h (UInt8.toNat_inj.1 e))];simp [h]
end Go.Proofs.YtmjemknimipnjaaGreatDoor
namespace Go.Proofs.YtmjemknimipnjaaGreatDoor
open Go.RowKit
set_option maxRecDepth 100000
attribute [local irreducible] OW RS
theorem shl63 (neg : Bool) : IntKind.u64.wrap (((b2n neg : Nat) : Int) * 2 ^ (min (63 : Int).toNat IntKind.u64.bits)) = ((sgB neg : Nat) : Int) := by
 cases neg <;> decide +kernel
section
variable (w : World) {bp op cp bf of cf bl ol cl : Nat}
theorem common_digit (s : ByteArray) (h : 48 ≤ bAt s 0 ∧ bAt s 0 ≤ 57) : Calls Tryz.prog 76 #[.string s, .string ⟨#[105, 110, 102, 105, 110, 105, 116, 121]⟩] w fun e w' => e = .returned (.int .i64 0) ∧ Below w.heap.size w w' := by
 have hs : 0 < s.size := kx (by omega);refine yn Tryz.func76 rfl Tryz.ntmps76 rfl ?_;have LW := erx (No) w;have XLW := grx (No) w;have E := erx (No) w
 refine srx (anx rfl (srx (mvx rfl (za rfl (yz Tryz.underlying9 rfl (mvx rfl (za rfl (yz Tryz.underlying9 rfl (za rfl (ow_min rfl rfl (anx rfl (zi (srx (anx rfl (yc (cw_unroll (zi (srx (mvx rfl (mvx rfl (za rfl (yv rfl rfl (rnx (zp 15 (.bool true) rfl ((by rw [decide_eq_true (by split <;> omega)] : (.bool (decide (0 < (if ((s.size : Nat) : Int) < 8 then ((s.size : Nat) : Int) else 8))) : Value) = _)) (yg rfl (zn (ze (zi (yc (srx (mvx rfl ?_)))))))))))))))))))))))))))))))
 refine mvx rfl (za rfl (ym (j := 0) (b := bAt s 0) Tryz.underlying9 rfl rfl rfl (qb hs) (anx rfl (zi (srx (mvx rfl (za rfl (gf rfl rfl (mvx rfl (yi 23 (.bool false) rfl ((by rw [decide_eq_false (by omega)] : (.bool (decide (65 ≤ ((bAt s 0 : Nat) : Int))) : Value) = _)) (za rfl (zc rfl (za rfl (zc rfl (za rfl (zx rfl rfl (rnx (ye rfl (zn (ze (srx (mvx rfl (mvx rfl (mvx rfl (za rfl (ym (j := 0) (b := 105) Tryz.underlying9 rfl rfl rfl (by kernel_rfl) (za rfl (qw rfl rfl (rnx (zp 33 (.bool true) rfl ((by rw [bne_iff_ne.2 (by omega)] : (.bool (((bAt s 0 : Nat) : Int) != 105) : Value) = _)) (yg rfl (srx (mvx rfl (anx rfl (zo (zj (zd ?_)))))))))))))))))))))))))))))))))))))
 refine zd (zj (zd (zm (rs := [.tmp 4]) (vs := [_]) rfl ⟨rfl, trivial⟩ ?_)));exact ⟨rfl, (LW.step E XLW).toBelow⟩
theorem special_neg (s : ByteArray) (h45 : bAt s 0 = 45) (h : 48 ≤ bAt s 1 ∧ bAt s 1 ≤ 57) : Calls Tryz.prog 62 #[.string s] w fun e w' => e = .returned (.tuple #[.float .f64 0, .int .i64 0, .bool false]) ∧ Below w.heap.size w w' := by
 have hs : 1 < s.size := kx (by omega);refine yn Tryz.func62 rfl Tryz.ntmps62 rfl ?_;have LW := erx (No) w;have XLW := grx (No) w;have E := erx (No) w
 refine srx (avx rfl (avx rfl (anx rfl (zi (srx (mvx rfl (za rfl (yz Tryz.underlying9 rfl (za rfl (zz rfl rfl (rnx (zp 10 (.bool false) rfl ((by rw [vv (by omega)] : (.bool (((s.size : Nat) : Int) == 0) : Value) = _)) (ye rfl (zn (ze (srx (anx rfl (srx (anx rfl (zi (srx (mvx rfl (za rfl (ym (j := 0) (b := bAt s 0) Tryz.underlying9 rfl rfl rfl (qb (by omega)) (yi 12 (.int .u8 45) rfl ((by rw [h45]; rfl : (.int .u8 ((bAt s 0 : Nat) : Int) : Value) = _)) (rnx (yc (zi (yc ?_)))))))))))))))))))))))))))))
 refine zi (yc (zi (yc (zi (zi (zi (srx (za rfl (zz rfl rfl (anx rfl (ye rfl (zg (za rfl (zz rfl rfl (anx rfl (yg rfl (yw (zl (zl (zy (ze (zi (srx (mvx rfl (za rfl (ym (j := 0) (b := bAt s 0) Tryz.underlying9 rfl rfl rfl (qb (by omega)) (yi 23 (.int .u8 45) rfl ((by rw [h45]; rfl : (.int .u8 ((bAt s 0 : Nat) : Int) : Value) = _)) (za rfl (zz rfl rfl (rnx (yg rfl (zg (anx rfl (zi ?_))))))))))))))))))))))))))))))))))
 refine zg (anx rfl (zg (mvx rfl (za rfl (ve (l := 1) (h := s.size) Tryz.underlying9 rfl ⟨_, rfl⟩ rfl (by omega) (by omega) (avx rfl (yd (zf (ze (zi (srx (mvx rfl (za rfl (yh en76 rfl ((common_digit _ (s.extract 1 s.size) (by rw [ja]; exact h)).mono ?_)))))))))))))));rintro e w1 ⟨rfl, hb⟩;refine ⟨_, rfl, ?_⟩;replace E := blx E hb
 refine anx rfl (zi (srx (mvx rfl (za rfl (yv rfl rfl (mvx rfl (za rfl (zc rfl (za rfl (zc rfl (za rfl (zx rfl rfl (rnx (ye rfl (zn (ze (srx (mvx rfl (za rfl (zz rfl rfl (mvx rfl (onx rfl (zv rfl (onx rfl (zz rfl rfl (za rfl (zx rfl rfl (rnx (ye rfl (zn (ze (yw (qg rfl (zl (zy (ze (srx (avx rfl (avx rfl (avx rfl ?_))))))))))))))))))))))))))))))))))))))))
 refine rnx (zo (zm (rs := [.tmp 2, .tmp 3, .tmp 4]) (vs := [_, _, _]) rfl ⟨rfl, rfl, rfl, trivial⟩ ?_));exact ⟨rfl, (LW.step E XLW).toBelow⟩
theorem special_any (s : ByteArray) (f : Nat) (neg : Bool) (hsg : SgnAt s f neg) (h : 48 ≤ bAt s f ∧ bAt s f ≤ 57) : Calls Tryz.prog 62 #[.string s] w fun e w' => e = .returned (.tuple #[.float .f64 0, .int .i64 0, .bool false]) ∧ Below w.heap.size w w' := by
 rcases hsg with ⟨_, rfl⟩ | ⟨_, rfl, h45⟩
 · exact special_digit w s (bAt s 0) (qb (kx (by omega))) h
 · exact special_neg w s h45 h
theorem atof_any (s : ByteArray) (f : Nat) (neg : Bool) {p Z q : Nat} (hsg : SgnAt s f neg) (hs : Nm s f p Z q) (hl : s.size < 100000) (hT : Tabs bp op cp bf of cf bl ol cl w) : Calls Tryz.prog 60 #[.string s] w fun e w' => e = .returned (.tuple #[.float .f64 (atV s f neg), .int .i64 ((s.size : Nat) : Int), atE s f neg]) ∧ Below w.heap.size w w' := by
 have hfd := hs.first;have hmm := rdM_lt hs;refine yn Tryz.func60 rfl Tryz.ntmps60 rfl ?_;have HF : Per (No) w (fun _ => True) := Per.true_;have LW := erx (No) w;have XLW := grx (No) w;have E := erx (No) w;replace HF := HF.on E;replace LW := LW.step E XLW;replace E := erx (No) w;replace HF := HF.and (Per.tabs hT (fun _ h => h.elim))
 refine srx (avx rfl (avx rfl (anx rfl (zi (srx (mvx rfl (za rfl (yh en62 rfl ((special_any _ s f neg hsg hfd).mono ?_)))))))));rintro e w1 ⟨rfl, hb⟩;refine ⟨_, rfl, ?_⟩;replace E := blx E hb
 refine mvx rfl (za rfl (yj rfl rfl (za rfl (yj rfl rfl (za rfl (yj rfl rfl (avx rfl (avx rfl (anx rfl (srx (mvx rfl (rnx (ye rfl (zn (ze (srx (mvx rfl (za rfl (yh en63 rfl ((readf_any _ s f neg hsg hs hl).mono ?_))))))))))))))))))));rintro e w2 ⟨rfl, hb⟩;refine ⟨_, rfl, ?_⟩;replace E := blx E hb
 refine mvx rfl (za rfl (yj rfl rfl (za rfl (yj rfl rfl (za rfl (yj rfl rfl (za rfl (yj rfl rfl (za rfl (yj rfl rfl (za rfl (yj rfl rfl (za rfl (yj rfl rfl (avx rfl (avx rfl (avx rfl (avx rfl (avx rfl (avx rfl (anx rfl (zi (srx (mvx rfl (za rfl (vd rfl (rnx (ye rfl (zn (ze (zi (srx (mvx rfl (rnx (ye rfl (zn (ze (zi (srx (za rfl (yx Tryz.underlying4 rfl rfl (HF.on E).here.2.opt ?_)))))))))))))))))))))))))))))))))))))))))
 refine rnx (yg rfl (srx (mvx rfl (za rfl (yh en71 rfl ((bool2u _ neg).mono ?_))))));rintro e w3 ⟨rfl, hb⟩;refine ⟨_, rfl, ?_⟩;replace E := blx E hb
 refine za rfl (jm rfl rfl (by decide) (shl63 neg) (anx rfl (zi (srx (mvx rfl (za rfl (zz rfl rfl (rnx (zp 69 (.bool (decide (rdM s f = 0))) rfl ((by rw [zero_b] : (.bool (((rdM s f : Nat) : Int) == 0) : Value) = _)) (zt rfl (fun h1 => ?_) (fun h1 => ?_)))))))))))
 ·
  have h1 := of_decide_eq_true h1;refine srx (mvx rfl (za rfl (xj rfl rfl (km (n := 0) (sgB_lt neg) (by decide)) (za rfl (jl (b := sgB neg ||| 0) ex72 rfl (mvx rfl (avx rfl (avx rfl (anx rfl (zo (zd (zd (zm (rs := [.tmp 2, .tmp 3, .tmp 4]) (vs := [_, _, _]) rfl ⟨rfl, rfl, rfl, trivial⟩ ?_)))))))))))))
  exact ⟨by rw [show atV s f neg = sgB neg ||| 0 by unfold atV; rw [if_pos h1], show atE s f neg = .nilIface by unfold atE; rw [if_pos h1]]; rfl, (LW.step E XLW).toBelow⟩
 ·
  have h1 := of_decide_eq_false h1;refine zn (ze (zi (srx (mvx rfl (za rfl (qe rfl rfl (rnx (zt rfl (fun h2 => ?_) (fun h2 => ?_)))))))))
  ·
   have h2 := of_decide_eq_true h2
   refine srx (mvx rfl (za rfl (xj rfl rfl (km (n := 9218868437227405312) (sgB_lt neg) (by decide)) (za rfl (jl (b := sgB neg ||| 9218868437227405312) ex72 rfl (mvx rfl (za rfl (ow_mkI (by kernel_rfl) rfl (avx rfl (avx rfl (anx rfl (zo (zd (zd (zm (rs := [.tmp 2, .tmp 3, .tmp 4]) (vs := [_, _, _]) rfl ⟨rfl, rfl, rfl, trivial⟩ ?_)))))))))))))))
   exact ⟨by rw [show atV s f neg = sgB neg ||| 9218868437227405312 by unfold atV; rw [if_neg h1, if_pos h2], show atE s f neg = rangeE by unfold atE; rw [if_neg h1, if_pos h2]]; rfl, (LW.step E XLW).toBelow⟩
  ·
   have h2 := of_decide_eq_false h2;refine zn (ze (zi (srx (mvx rfl (za rfl (yv rfl rfl (rnx (zt rfl (fun h3 => ?_) (fun h3 => ?_)))))))))
   ·
    have h3 := of_decide_eq_true h3;refine srx (mvx rfl (za rfl (xj rfl rfl (km (n := 0) (sgB_lt neg) (by decide)) (za rfl (jl (b := sgB neg ||| 0) ex72 rfl (mvx rfl (avx rfl (avx rfl (anx rfl (zo (zd (zd (zm (rs := [.tmp 2, .tmp 3, .tmp 4]) (vs := [_, _, _]) rfl ⟨rfl, rfl, rfl, trivial⟩ ?_)))))))))))))
    exact ⟨by rw [show atV s f neg = sgB neg ||| 0 by unfold atV; rw [if_neg h1, if_neg h2, if_pos h3], show atE s f neg = .nilIface by unfold atE; rw [if_neg h1, if_neg h2, if_pos h3]]; rfl, (LW.step E XLW).toBelow⟩
   ·
    have h3 := of_decide_eq_false h3;refine zn (ze (zi (srx (mvx rfl (za rfl (vd rfl (rnx ?_)))))));replace HF := HF.on E;replace LW := LW.step E XLW;replace E := erx (No) w3
    refine qf (ι := Unit) (fun _ => [(0, .string s), (3, .int .i64 ((s.size : Nat) : Int)), (4, .nilIface), (8, .int .u64 ((rdM s f : Nat) : Int)), (9, .int .i64 (rdX s f)), (11, .bool (rdT s f)), (16, .int .u64 ((sgB neg : Nat) : Int))]) (fun _ w' => Ext (No) w3 w' ∧ (¬ (rdT s f = false ∧ (exF (rdM s f) (rdX s f) neg).2 = true))) ?_ ?_
    ·
     have M4 := erx (No) w3;have XM4 := grx (No) w3;refine zt rfl (fun h5 => ?_) (fun h5 => ?_)
     ·
      have h5 : rdT s f = false := by simpa using h5
      refine srx (mvx rfl (mvx rfl (mvx rfl (za rfl (yh en73 rfl ((exact_any _ (rdM s f) (rdX s f) neg (by omega) (HF.on E).here.2).mono ?_))))));rintro e w6 ⟨rfl, hb⟩;refine ⟨_, rfl, ?_⟩;replace E := blx E hb;refine mvx rfl (za rfl (yj rfl rfl (za rfl (yj rfl rfl (avx rfl (anx rfl (srx (mvx rfl (rnx (zt rfl (fun h6 => ?_) (fun h6 => ?_)))))))))))
      ·
       refine srx (mvx rfl (mvx rfl (avx rfl (avx rfl (anx rfl (zo (zd (zd (zm (rs := [.tmp 2, .tmp 3, .tmp 4]) (vs := [_, _, _]) rfl ⟨rfl, rfl, rfl, trivial⟩ ?_)))))))))
       exact ⟨by rw [show atV s f neg = (exF (rdM s f) (rdX s f) neg).1 by unfold atV; rw [if_neg h1, if_neg h2, if_neg h3, if_pos ⟨h5, h6⟩], show atE s f neg = .nilIface by unfold atE; rw [if_neg h1, if_neg h2, if_neg h3, if_pos ⟨h5, h6⟩]]; rfl, (LW.step E XLW).toBelow⟩
      ·
       refine zn ?_;exact yu () ⟨rfl, rfl, rfl, rfl, rfl, rfl, rfl, trivial⟩ ⟨M4.step E XM4, fun h => absurd h.2 (by rw [h6]; decide)⟩
     ·
      refine zn ?_;exact yu () ⟨rfl, rfl, rfl, rfl, rfl, rfl, rfl, trivial⟩ ⟨M4.step E XM4, fun h => absurd h5 (by rw [h.1]; decide)⟩
    ·
     rintro _ w5 ⟨M4, h4⟩;replace E := E.trans M4;replace HF := HF.on E;replace LW := LW.step E XLW;replace E := erx (No) w5;have hj : 3 ≤ atJ s f ∧ atJ s f ≤ 658 := by unfold atJ; omega
     refine srx (mvx rfl (mvx rfl (mvx rfl (yi 101 (.int .i64 (((atJ s f : Nat) : Int) - 348)) rfl ((by congr 1; unfold atJ; omega : (.int .i64 (rdX s f) : Value) = _)) (za rfl (yh en74 rfl ((fast_any _ (rdM s f) (atJ s f) (sgB neg) (by omega) hj (sgB_lt neg) (HF.on E).here.2.pow).mono ?_)))))));rintro e w7 ⟨rfl, hb⟩;refine ⟨_, rfl, ?_⟩;replace E := blx E hb
     refine mvx rfl (za rfl (yj rfl rfl (za rfl (yj rfl rfl (avx rfl (anx rfl (zi (srx (mvx rfl (za rfl (vd rfl (rnx (zt rfl (fun h5 => ?_) (fun h5 => ?_))))))))))))))
     ·
      have h5 : rdT s f = false := by simpa using h5
      refine srx (mvx rfl (mvx rfl (mvx rfl (avx rfl (avx rfl (anx rfl (zo (zd (zd (zm (rs := [.tmp 2, .tmp 3, .tmp 4]) (vs := [_, _, _]) rfl ⟨rfl, rfl, rfl, trivial⟩ ?_))))))))))
      exact ⟨by rw [show atV s f neg = zzx (rdM s f) (atJ s f) (sgB neg) by unfold atV; rw [if_neg h1, if_neg h2, if_neg h3, if_neg h4, if_pos (.inl h5)]; try rfl, show atE s f neg = zzz (rdM s f) (atJ s f) (sgB neg) by unfold atE; rw [if_neg h1, if_neg h2, if_neg h3, if_neg h4, if_pos (.inl h5)]; try rfl]; rfl, (LW.step E XLW).toBelow⟩
     ·
      have h5 : ¬ rdT s f = false := fun e => absurd h5 (by rw [e]; decide)
      refine zn (ze (srx (mvx rfl (za rfl (yp rfl rfl (wrap_u64 (by omega)) (mvx rfl (mvx rfl (yi 113 (.int .u64 ((rdM s f + 1 : Nat) : Int)) rfl (rfl) (yi 114 (.int .i64 (((atJ s f : Nat) : Int) - 348)) rfl ((by congr 1; unfold atJ; omega : (.int .i64 (rdX s f) : Value) = _)) (za rfl (yh en74 rfl ((fast_any _ (rdM s f + 1) (atJ s f) (sgB neg) (by omega) hj (sgB_lt neg) (HF.on E).here.2.pow).mono ?_))))))))))))
      rintro e w8 ⟨rfl, hb⟩;refine ⟨_, rfl, ?_⟩;have Ec := Ext.of_below hb No;replace E := E.trans Ec.no;refine mvx rfl (za rfl (yj rfl rfl (za rfl (yj rfl rfl (avx rfl (anx rfl (srx (mvx rfl (mvx rfl (za rfl (ow_feql rfl rfl (rnx (zt rfl (fun h6 => ?_) (fun h6 => ?_))))))))))))))
      ·
       have h6 : atL s f neg = true := h6;refine srx (mvx rfl (mvx rfl (mvx rfl (avx rfl (avx rfl (anx rfl (zo (zd (zm (rs := [.tmp 2, .tmp 3, .tmp 4]) (vs := [_, _, _]) rfl ⟨rfl, rfl, rfl, trivial⟩ ?_)))))))))
       exact ⟨by rw [show atV s f neg = zzx (rdM s f) (atJ s f) (sgB neg) by unfold atV; rw [if_neg h1, if_neg h2, if_neg h3, if_neg h4, if_pos (.inr h6)]; try rfl, show atE s f neg = zzz (rdM s f) (atJ s f) (sgB neg) by unfold atE; rw [if_neg h1, if_neg h2, if_neg h3, if_neg h4, if_pos (.inr h6)]; try rfl]; rfl, (LW.step E XLW).toBelow⟩
      ·
       have h6 : ¬ (rdT s f = false ∨ atL s f neg = true) := fun h => h.elim h5 (fun h => by rw [show atL s f neg = false from h6] at h; cases h);have hdec := setD_ok neg hs;have hddp := setD_dp neg hs hl;refine zn (ze (srx (za rfl (qo zrDec ?_))));intro gc w9 Bc Ec Gc;replace Bc : Blk w9 gc 136 (qh (zjk false)) := Bc;have Gc : _ ≤ gc := Nat.le_trans E.size Gc
       have GLc := Nat.le_trans LW.size Gc;replace E := E.trans Ec.no;replace HF := HF.cons (yb Gc);replace E := E.cons (some gc);replace XLW := Mut.grow XLW (fun k e => Or.inr (Nat.le_trans LW.size ((yb Gc) k e)));have hg := hT.below.le GLc
       refine rnx (zi (srx (mvx rfl (mvx rfl (za rfl (ve (l := 0) (h := s.size) Tryz.underlying9 rfl rfl ⟨_, rfl⟩ (Nat.zero_le _) (Nat.le_refl _) (yi 127 (.string s) rfl ((by rw [yiv] : (.string (s.extract 0 s.size) : Value) = _)) (za rfl (yh en69 rfl ((set_any _ gc s f neg hsg hs hl Bc).mono ?_))))))))));rintro e w10 ⟨rfl, hB, hE⟩;refine ⟨_, rfl, ?_⟩
       replace Bc := hB;clear hB;replace E := E.step1 hE Mut.head;clear hE;refine za rfl (vd rfl (rnx (ye rfl (zn (ze (srx (za rfl (yh en70 rfl ((bits_any _ gc (setD s f neg) hdec hddp Bc (HF.on E).here.2 hg).mono ?_)))))))));rintro e w11 ⟨rfl, ⟨t9, hB⟩, hE⟩;refine ⟨_, rfl, ?_⟩;replace Bc := hB;clear hB;replace E := E.step1 hE Mut.head;clear hE
       refine mvx rfl (za rfl (yj rfl rfl (za rfl (yj rfl rfl (avx rfl (anx rfl (srx (mvx rfl (za rfl (jl (b := zbv (setD s f neg)) ex72 rfl (anx rfl (zi (srx (mvx rfl (rnx (zt rfl (fun h7 => ?_) (fun h7 => ?_)))))))))))))))))
       ·
        refine zg (za rfl (ow_mkI (by kernel_rfl) rfl (anx rfl (srx (mvx rfl (mvx rfl (mvx rfl (avx rfl (avx rfl (anx rfl (zo (zm (rs := [.tmp 2, .tmp 3, .tmp 4]) (vs := [_, _, _]) rfl ⟨rfl, rfl, rfl, trivial⟩ ?_))))))))))))
        exact ⟨by rw [show atV s f neg = zbv (setD s f neg) by unfold atV; rw [if_neg h1, if_neg h2, if_neg h3, if_neg h4, if_neg h6], show atE s f neg = rangeE by unfold atE; rw [if_neg h1, if_neg h2, if_neg h3, if_neg h4, if_neg h6, if_pos h7]]; rfl, (LW.step E XLW).toBelow⟩
       ·
        refine zn (ze (srx (mvx rfl (mvx rfl (mvx rfl (avx rfl (avx rfl (anx rfl (zo (zm (rs := [.tmp 2, .tmp 3, .tmp 4]) (vs := [_, _, _]) rfl ⟨rfl, rfl, rfl, trivial⟩ ?_))))))))))
        exact ⟨by rw [show atV s f neg = zbv (setD s f neg) by unfold atV; rw [if_neg h1, if_neg h2, if_neg h3, if_neg h4, if_neg h6], show atE s f neg = .nilIface by unfold atE; rw [if_neg h1, if_neg h2, if_neg h3, if_neg h4, if_neg h6, if_neg (by rw [h7]; decide)]]; rfl, (LW.step E XLW).toBelow⟩
theorem prefix_any64 (s : ByteArray) (f : Nat) (neg : Bool) {p Z q : Nat} (hsg : SgnAt s f neg) (hs : Nm s f p Z q) (hl : s.size < 100000) (hT : Tabs bp op cp bf of cf bl ol cl w) : Calls Tryz.prog 55 #[.string s, .int .i64 64] w fun e w' => e = .returned (.tuple #[.float .f64 (atV s f neg), .int .i64 ((s.size : Nat) : Int), atE s f neg]) ∧ Below w.heap.size w w' := by
 refine yn Tryz.func55 rfl Tryz.ntmps55 rfl ?_;have LW := erx (No) w;have XLW := grx (No) w;have E := erx (No) w;refine srx (avx rfl (avx rfl (anx rfl (zi (srx (mvx rfl (za rfl (zz rfl rfl (rnx (ye rfl (zn (ze (srx (mvx rfl (za rfl (yh en60 rfl ((atof_any _ s f neg hsg hs hl hT).mono ?_)))))))))))))))));rintro e w1 ⟨rfl, hb⟩;refine ⟨_, rfl, ?_⟩
 replace E := blx E hb;refine za rfl (yj rfl rfl (za rfl (yj rfl rfl (za rfl (yj rfl rfl (avx rfl (avx rfl (anx rfl (zo (zm (rs := [.tmp 4, .tmp 5, .tmp 6]) (vs := [_, _, _]) rfl ⟨rfl, rfl, rfl, trivial⟩ ?_))))))))));exact ⟨rfl, (LW.step E XLW).toBelow⟩
theorem inner_any (s : ByteArray) (f : Nat) (neg : Bool) {p Z q : Nat} (hsg : SgnAt s f neg) (hs : Nm s f p Z q) (hl : s.size < 100000) (hT : Tabs bp op cp bf of cf bl ol cl w) : Calls Tryz.prog 46 #[.string s, .int .i64 64] w fun e w' => e = .returned (.tuple #[.float .f64 (atV s f neg), atE s f neg]) ∧ Below w.heap.size w w' := by
 refine yn Tryz.func46 rfl Tryz.ntmps46 rfl ?_;have LW := erx (No) w;have XLW := grx (No) w;have E := erx (No) w;refine srx (avx rfl (anx rfl (srx (mvx rfl (mvx rfl (za rfl (yh en55 rfl ((prefix_any64 _ s f neg hsg hs hl hT).mono ?_))))))));rintro e w1 ⟨rfl, hb⟩;refine ⟨_, rfl, ?_⟩;replace E := blx E hb
 refine mvx rfl (za rfl (yj rfl rfl (za rfl (yj rfl rfl (za rfl (yj rfl rfl (avx rfl (avx rfl (anx rfl (zi (srx (mvx rfl (mvx rfl (za rfl (yz Tryz.underlying9 rfl (za rfl (qw rfl rfl (rnx (zp 19 (.bool false) rfl ((by simp : (.bool (((s.size : Nat) : Int) != ((s.size : Nat) : Int)) : Value) = _)) (ye rfl (zn (ze (srx (mvx rfl (mvx rfl (avx rfl (anx rfl (zo (zm (rs := [.tmp 4, .tmp 5]) (vs := [_, _]) rfl ⟨rfl, rfl, trivial⟩ ?_)))))))))))))))))))))))))))))
 exact ⟨rfl, (LW.step E XLW).toBelow⟩
theorem parsef_any (s : ByteArray) (f : Nat) (neg : Bool) {p Z q : Nat} (hsg : SgnAt s f neg) (hs : Nm s f p Z q) (hl : s.size < 100000) (hT : Tabs bp op cp bf of cf bl ol cl w) (hE : ∃ te pe, w.cell? ⟨2, 0, none⟩ = some (.iface te pe)) : Calls Tryz.prog 34 #[.string s, .int .i64 64] w fun e w' => (∃ er, e = .returned (.tuple #[.float .f64 (atV s f neg), er])) ∧ Below w.heap.size w w' := by
 obtain ⟨te, pe, hE⟩ := hE;have hor := atE_or s f neg;obtain ⟨er, her⟩ : ∃ er, er = atE s f neg := ⟨_, rfl⟩;rw [← her] at hor;refine yn Tryz.func34 rfl Tryz.ntmps34 rfl ?_;have HF : Per (No) w (fun _ => True) := Per.true_;have LW := erx (No) w;have XLW := grx (No) w;have E := erx (No) w;replace HF := HF.on E;replace LW := LW.step E XLW;replace E := erx (No) w
 replace HF := HF.and (Per.cellA hE (fun _ h => h.elim));refine srx (avx rfl (anx rfl (srx (mvx rfl (mvx rfl (za rfl (yh en46 rfl ((inner_any _ s f neg hsg hs hl hT).mono ?_))))))));rintro e w1 ⟨rfl, hb⟩;refine ⟨_, rfl, ?_⟩;replace E := blx E hb;rw [← her];by_cases hn : er = .nilIface
 ·
  subst hn;refine mvx rfl (za rfl (yj rfl rfl (za rfl (yj rfl rfl (avx rfl (anx rfl (zi (srx (mvx rfl (za rfl (ow_neqN Tryz.underlying78 rfl (rnx (ye rfl (zn (ze (srx (mvx rfl (avx rfl (anx rfl (zo (zm (rs := [.tmp 4, .tmp 5]) (vs := [_, _]) rfl ⟨rfl, rfl, trivial⟩ ?_)))))))))))))))))))));exact ⟨⟨_, rfl⟩, (LW.step E XLW).toBelow⟩
 ·
  obtain rfl : er = rangeE := hor.resolve_left hn;refine mvx rfl (za rfl (yj rfl rfl (za rfl (yj rfl rfl (avx rfl (anx rfl (zi (srx (mvx rfl (za rfl (ow_neqI Tryz.underlying78 rfl (rnx (yg rfl (srx (mvx rfl (mvx rfl (mvx rfl (mvx rfl (za rfl (yh en41 rfl ((range_err _ s 0 64 _ hl ⟨te, pe, (HF.on E).here.2⟩).mono ?_)))))))))))))))))))))
  rintro e w2 ⟨⟨er2, rfl⟩, hb⟩;refine ⟨_, rfl, ?_⟩;replace E := blx E hb;refine avx rfl (anx rfl (zo (zd (zm (rs := [.tmp 4, .tmp 5]) (vs := [_, _]) rfl ⟨rfl, rfl, trivial⟩ ?_))));exact ⟨⟨_, rfl⟩, (LW.step E XLW).toBelow⟩
theorem parse_pos (s : ByteArray) {p Z q : Nat} (hs : Nm s 0 p Z q) (hl : s.size < 100000) (hT : Tabs bp op cp bf of cf bl ol cl w) (hE : ∃ te pe, w.cell? ⟨2, 0, none⟩ = some (.iface te pe)) : Calls Tryz.prog 34 #[.string s, .int .i64 64] w fun e w' => (∃ er, e = .returned (.tuple #[.float .f64 (atV s 0 false), er])) ∧ Below w.heap.size w w' := parsef_any w s 0 false (.inl ⟨rfl, rfl⟩) hs hl hT hE
end
end Go.Proofs.YtmjemknimipnjaaGreatDoor
namespace Go.Proofs.YtmjemknimipnjaaGreatDoor
open Go.RowKit
set_option maxRecDepth 100000
attribute [local irreducible] OW RS
theorem eq_nil (s : ByteArray) (k : Nat) : ((s.extract k s.size).toList == (⟨#[]⟩ : ByteArray).toList) = decide (s.size ≤ k) := by
 rw [bytes_list #[]];by_cases h : s.size ≤ k
 · rw [decide_eq_true h, yik.2 h]; rfl
 · rw [decide_eq_false h];exact beq_eq_false_iff_ne.2 (fun e => h (yik.1 e))
theorem ne_nil (s : ByteArray) (k : Nat) : (!((s.extract k s.size).toList == (⟨#[]⟩ : ByteArray).toList)) = decide (k < s.size) := by
 rw [eq_nil];by_cases h : k < s.size
 · rw [decide_eq_true h, decide_eq_false (by omega)]; rfl
 · rw [decide_eq_false h, decide_eq_true (by omega)]; rfl
theorem zzq {s : ByteArray} {f k z m : Nat} (hz : z = s.size - f) (hm : f + k = m) : (s.extract f s.size).extract k z = s.extract m s.size := by
 subst hz; subst hm;rw [← extract_extract, qk]
theorem nB_dot {s : ByteArray} {a : Nat} (h : bAt s a = 46) : nB s a = kj s (a + 1) := by unfold nB; rw [if_pos h]
theorem nB_no {s : ByteArray} {a : Nat} (h : ¬ bAt s a = 46) : nB s a = a := by unfold nB; rw [if_neg h]
theorem nC_e {s : ByteArray} {a : Nat} (h : bAt s a = 101) : nC s a = kj s (nQ s a) := by unfold nC; rw [if_pos h]
theorem nC_no {s : ByteArray} {a : Nat} (h : ¬ bAt s a = 101) : nC s a = a := by unfold nC; rw [if_neg h]
theorem nC_le {s : ByteArray} {b : Nat} (hb : b ≤ s.size) : nC s b ≤ s.size := by
 by_cases h : bAt s b = 101
 · rw [nC_e h];exact (gb (nQ_le (kx (by omega)))).1.hi
 · rw [nC_no h]; exact hb
theorem sgB_add {x : Nat} (h : x ≤ 9218868437227405312) (neg : Bool) : sgB neg ||| x = sgB neg + x := by
 cases neg with
 | false => rw [show sgB false = 0 from rfl, Nat.zero_or, Nat.zero_add]
 | true =>
  have h2 := Nat.two_pow_add_eq_or_of_lt (show x < 2 ^ 63 by show x < 9223372036854775808; omega) 1;exact h2.symm
section
variable (w : World)
theorem zuq (s : ByteArray) (hl : s.size < 100000) : Calls Tryz.prog 44 #[.string s] w fun e w' => e = .returned (.int .i64 ((kj s 0 : Nat) : Int)) ∧ Below w.heap.size w w' := by
 have hle := Nat.zero_le s.size;refine yn Tryz.func44 rfl Tryz.ntmps44 rfl ?_;have LW := erx (No) w;have XLW := grx (No) w;have E := erx (No) w;refine srx (anx rfl (srx (anx rfl (zi (yc ?_)))));replace LW := LW.step E XLW;replace E := erx (No) w
 refine qm (ι := Nat) (fun n => [(0, .string s), (3, .int .i64 ((n : Nat) : Int))]) (fun n w' => Ext (No) w w' ∧ (RuI s 0 n ∧ va (jg s) (fun i => i + 1) n = kj s 0)) (fun n => s.size - n) 0 ⟨rfl, rfl, trivial⟩ ⟨Ext.refl _ _, ⟨Nat.le_refl _, hle, fun j h1 h2 => absurd h1 (Nat.not_le.2 h2)⟩, rfl⟩ ?_;rintro n w2 ⟨M1, ⟨hI, hu⟩⟩;have XM1 := grx (No) w;replace E := E.trans M1
 replace LW := LW.step E XLW;replace E := erx (No) w2;have hlo := hI.lo;have hhi := hI.hi;refine zi (srx (mvx rfl (mvx rfl (za rfl (yz Tryz.underlying9 rfl (za rfl (yv rfl rfl (mvx rfl (yk 8 rfl (fun h1 => ?_) (fun h1 => ?_))))))))))
 ·
  have h1 : n < s.size := by have h1 := of_decide_eq_true h1; omega
  refine onx rfl (zv rfl (onx rfl (zv rfl (onx rfl (ym (j := n) (b := bAt s (n)) Tryz.underlying9 rfl rfl rfl (qb (by omega)) (onx rfl (qz rfl rfl (za rfl (zq rfl rfl (mvx rfl (yk 14 rfl (fun h2 => ?_) (fun h2 => ?_))))))))))))
  ·
   have h2 : 48 ≤ bAt s n := by have h2 := of_decide_eq_true h2; omega
   refine onx rfl (zv rfl (onx rfl (zv rfl (onx rfl (ym (j := n) (b := bAt s (n)) Tryz.underlying9 rfl rfl rfl (qb (by omega)) (onx rfl (gf rfl rfl (za rfl (zq rfl rfl (rnx (zt rfl (fun h3 => ?_) (fun h3 => ?_))))))))))))
   ·
    have h3 : bAt s n ≤ 57 := by have h3 := of_decide_eq_true h3; omega
    have hdone := ru_on h1 ⟨h2, h3⟩;have hk := ru_keeps hI hdone;rw [vc hdone] at hu;refine zn (ze (yc (zg (mvx rfl (za rfl (yp rfl rfl (zw (by omega)) (avx rfl (yd (zf ?_)))))))));exact yr (n + 1) (by omega) ⟨rfl, rfl, trivial⟩ ⟨M1.step E XM1, hk, hu⟩
   ·
    have h3 : ¬ bAt s n ≤ 57 := by have h3 := of_decide_eq_false h3; omega
    have hdone : jg s n = true := by
     cases hd : jg s n with
     | true => rfl
     | false => exact absurd (yhx hd).2.2 h3
    rw [qi hdone] at hu;refine yw (zl (zl (zy (ze (srx (mvx rfl (anx rfl (zo (zm (rs := [.tmp 2]) (vs := [_]) rfl ⟨rfl, trivial⟩ ?_)))))))));exact ⟨by rw [← hu]; rfl, (LW.step E XLW).toBelow⟩
  ·
   have h2 : ¬ 48 ≤ bAt s n := by have h2 := of_decide_eq_false h2; omega
   have hdone : jg s n = true := by
    cases hd : jg s n with
    | true => rfl
    | false => exact absurd (yhx hd).2.1 h2
   rw [qi hdone] at hu;refine za rfl (zc rfl (za rfl (zc rfl (za rfl (zc rfl (za rfl (zc rfl (za rfl (zx rfl rfl (rnx (ye rfl (yw (zl (zl (zy (ze (srx (mvx rfl (anx rfl (zo (zm (rs := [.tmp 2]) (vs := [_]) rfl ⟨rfl, trivial⟩ ?_)))))))))))))))))))))
   exact ⟨by rw [← hu]; rfl, (LW.step E XLW).toBelow⟩
 ·
  have h1 : ¬ n < s.size := by have h1 := of_decide_eq_false h1; omega
  have hdone : jg s n = true := by
   cases hd : jg s n with
   | true => rfl
   | false => exact absurd (yhx hd).1 h1
  rw [qi hdone] at hu
  refine za rfl (zc rfl (za rfl (zc rfl (za rfl (zc rfl (za rfl (zc rfl (za rfl (zx rfl rfl (mvx rfl (za rfl (zc rfl (za rfl (zc rfl (za rfl (zc rfl (za rfl (zc rfl (za rfl (zx rfl rfl (rnx (ye rfl (yw (zl (zl (zy (ze (srx (mvx rfl (anx rfl (zo (zm (rs := [.tmp 2]) (vs := [_]) rfl ⟨rfl, trivial⟩ ?_))))))))))))))))))))))))))))))))
  exact ⟨by rw [← hu]; rfl, (LW.step E XLW).toBelow⟩
theorem run_any (s : ByteArray) (a : Nat) (hle : a ≤ s.size) (hl : s.size < 100000) : Calls Tryz.prog 47 #[.string s, .int .i64 ((a : Nat) : Int)] w fun e w' => e = .returned (.int .i64 ((kj s a : Nat) : Int)) ∧ Below w.heap.size w w' := by
 refine yn Tryz.func47 rfl Tryz.ntmps47 rfl ?_;have LW := erx (No) w;have XLW := grx (No) w;have E := erx (No) w;refine srx (anx rfl (zi (yc ?_)));replace LW := LW.step E XLW;replace E := erx (No) w
 refine qm (ι := Nat) (fun n => [(0, .string s), (1, .int .i64 ((n : Nat) : Int))]) (fun n w' => Ext (No) w w' ∧ (RuI s a n ∧ va (jg s) (fun i => i + 1) n = kj s a)) (fun n => s.size - n) a ⟨rfl, rfl, trivial⟩ ⟨Ext.refl _ _, ⟨Nat.le_refl _, hle, fun j h1 h2 => absurd h1 (Nat.not_le.2 h2)⟩, rfl⟩ ?_;rintro n w2 ⟨M1, ⟨hI, hu⟩⟩;have XM1 := grx (No) w;replace E := E.trans M1
 replace LW := LW.step E XLW;replace E := erx (No) w2;have hlo := hI.lo;have hhi := hI.hi;refine zi (srx (mvx rfl (mvx rfl (za rfl (yz Tryz.underlying9 rfl (za rfl (yv rfl rfl (mvx rfl (yk 9 rfl (fun h1 => ?_) (fun h1 => ?_))))))))))
 ·
  have h1 : n < s.size := by have h1 := of_decide_eq_true h1; omega
  refine onx rfl (zv rfl (onx rfl (zv rfl (onx rfl (ym (j := n) (b := bAt s (n)) Tryz.underlying9 rfl rfl rfl (qb (by omega)) (onx rfl (qz rfl rfl (za rfl (zq rfl rfl (mvx rfl (yk 15 rfl (fun h2 => ?_) (fun h2 => ?_))))))))))))
  ·
   have h2 : 48 ≤ bAt s n := by have h2 := of_decide_eq_true h2; omega
   refine onx rfl (zv rfl (onx rfl (zv rfl (onx rfl (ym (j := n) (b := bAt s (n)) Tryz.underlying9 rfl rfl rfl (qb (by omega)) (onx rfl (gf rfl rfl (za rfl (zq rfl rfl (rnx (zt rfl (fun h3 => ?_) (fun h3 => ?_))))))))))))
   ·
    have h3 : bAt s n ≤ 57 := by have h3 := of_decide_eq_true h3; omega
    have hdone := ru_on h1 ⟨h2, h3⟩;have hk := ru_keeps hI hdone;rw [vc hdone] at hu;refine zn (ze (yc (zg (mvx rfl (za rfl (yp rfl rfl (zw (by omega)) (avx rfl (yd (zf ?_)))))))));exact yr (n + 1) (by omega) ⟨rfl, rfl, trivial⟩ ⟨M1.step E XM1, hk, hu⟩
   ·
    have h3 : ¬ bAt s n ≤ 57 := by have h3 := of_decide_eq_false h3; omega
    have hdone : jg s n = true := by
     cases hd : jg s n with
     | true => rfl
     | false => exact absurd (yhx hd).2.2 h3
    rw [qi hdone] at hu;refine yw (zl (zl (zy (ze (srx (mvx rfl (anx rfl (zo (zm (rs := [.tmp 4]) (vs := [_]) rfl ⟨rfl, trivial⟩ ?_)))))))));exact ⟨by rw [← hu]; rfl, (LW.step E XLW).toBelow⟩
  ·
   have h2 : ¬ 48 ≤ bAt s n := by have h2 := of_decide_eq_false h2; omega
   have hdone : jg s n = true := by
    cases hd : jg s n with
    | true => rfl
    | false => exact absurd (yhx hd).2.1 h2
   rw [qi hdone] at hu;refine za rfl (zc rfl (za rfl (zc rfl (za rfl (zc rfl (za rfl (zc rfl (za rfl (zx rfl rfl (rnx (ye rfl (yw (zl (zl (zy (ze (srx (mvx rfl (anx rfl (zo (zm (rs := [.tmp 4]) (vs := [_]) rfl ⟨rfl, trivial⟩ ?_)))))))))))))))))))))
   exact ⟨by rw [← hu]; rfl, (LW.step E XLW).toBelow⟩
 ·
  have h1 : ¬ n < s.size := by have h1 := of_decide_eq_false h1; omega
  have hdone : jg s n = true := by
   cases hd : jg s n with
   | true => rfl
   | false => exact absurd (yhx hd).1 h1
  rw [qi hdone] at hu
  refine za rfl (zc rfl (za rfl (zc rfl (za rfl (zc rfl (za rfl (zc rfl (za rfl (zx rfl rfl (mvx rfl (za rfl (zc rfl (za rfl (zc rfl (za rfl (zc rfl (za rfl (zc rfl (za rfl (zx rfl rfl (rnx (ye rfl (yw (zl (zl (zy (ze (srx (mvx rfl (anx rfl (zo (zm (rs := [.tmp 4]) (vs := [_]) rfl ⟨rfl, trivial⟩ ?_))))))))))))))))))))))))))))))))
  exact ⟨by rw [← hu]; rfl, (LW.step E XLW).toBelow⟩
theorem prefix1_in (s : ByteArray) (c : UInt8) (hc : c.toNat ≠ 0) : Calls Tryz.prog 54 #[.string s, .string ⟨#[c]⟩] w fun e w' => e = .returned (.bool (decide (bAt s 0 = c.toNat))) ∧ Below w.heap.size w w' := by
 have h1s : ((⟨#[c]⟩ : ByteArray).size : Nat) = 1 := rfl;refine yn Tryz.func54 rfl Tryz.ntmps54 rfl ?_;have LW := erx (No) w;have XLW := grx (No) w;have E := erx (No) w;refine srx (anx rfl (srx (mvx rfl (za rfl (yz Tryz.underlying9 rfl (mvx rfl (za rfl (yz Tryz.underlying9 rfl (za rfl (qz rfl rfl (mvx rfl (yk 10 rfl (fun h1 => ?_) (fun h1 => ?_)))))))))))))
 ·
  have h1 : 0 < s.size := by have h1 := of_decide_eq_true h1; rw [h1s] at h1; omega
  refine onx rfl (zv rfl (onx rfl (zv rfl (onx rfl (yz Tryz.underlying9 rfl (onx rfl (ve (l := 0) (h := 1) Tryz.underlying9 rfl rfl ⟨_, rfl⟩ (by decide) (by omega) (onx rfl (zv rfl (onx rfl (kz rfl rfl (za rfl (zq rfl rfl (anx rfl (zo (yt 4 (.bool (decide (bAt s 0 = c.toNat))) rfl (by rw [bytes_list #[c], list_one h1]) (zm (rs := [.tmp 4]) (vs := [_]) rfl ⟨rfl, trivial⟩ ?_)))))))))))))))))
  exact ⟨rfl, (LW.step E XLW).toBelow⟩
 ·
  have h1 : ¬ 0 < s.size := by have h1 := of_decide_eq_false h1; rw [h1s] at h1; omega
  refine za rfl (zc rfl (za rfl (zc rfl (za rfl (zc rfl (za rfl (zc rfl (za rfl (zc rfl (za rfl (zc rfl (za rfl (zx rfl rfl (anx rfl (zo (zm (rs := [.tmp 4]) (vs := [_]) rfl ⟨rfl, trivial⟩ ?_))))))))))))))));exact ⟨by rw [decide_eq_false (by rw [zkx (by omega)]; omega)]; rfl, (LW.step E XLW).toBelow⟩
theorem yhz (s : ByteArray) (c : UInt8) (hc : c.toNat ≠ 0) : Calls Tryz.prog 45 #[.string s, .string ⟨#[c]⟩] w fun e w' => e = .returned (.bool (decide (bAt s 0 = c.toNat))) ∧ Below w.heap.size w w' := by
 refine yn Tryz.func45 rfl Tryz.ntmps45 rfl ?_;have LW := erx (No) w;have XLW := grx (No) w;have E := erx (No) w;refine srx (anx rfl (srx (mvx rfl (mvx rfl (za rfl (yh en54 rfl ((prefix1_in _ s c hc).mono ?_)))))));rintro e w1 ⟨rfl, hb⟩;refine ⟨_, rfl, ?_⟩;replace E := blx E hb;refine anx rfl (zo (zm (rs := [.tmp 4]) (vs := [_]) rfl ⟨rfl, trivial⟩ ?_))
 exact ⟨rfl, (LW.step E XLW).toBelow⟩
def signed (s : ByteArray) : Bool := decide (bAt s 0 = 45)
def zjv (s : ByteArray) : Nat := if bAt s 0 = 45 then 1 else 0
theorem cut_in (s : ByteArray) : Calls Tryz.prog 42 #[.string s, .string ⟨#[45]⟩] w fun e w' => e = .returned (.tuple #[.string (s.extract (zjv s) s.size), .bool (signed s)]) ∧ Below w.heap.size w w' := by
 refine yn Tryz.func42 rfl Tryz.ntmps42 rfl ?_;have LW := erx (No) w;have XLW := grx (No) w;have E := erx (No) w;refine srx (avx rfl (anx rfl (zi (srx (mvx rfl (mvx rfl (za rfl (yh en54 rfl ((prefix1_in _ s 45 (by decide)).mono ?_)))))))));rintro e w1 ⟨rfl, hb⟩;refine ⟨_, rfl, ?_⟩;replace E := blx E hb
 refine yi 8 (.bool (signed s)) rfl (rfl) (za rfl (vd rfl (rnx ?_)));by_cases h : bAt s 0 = 45
 ·
  have e1 : signed s = true := decide_eq_true h;have e2 : zjv s = 1 := by unfold zjv; rw [if_pos h]
  have hs := kx (s := s) (i := 0) (by omega)
  refine zp 9 (.bool false) rfl ((by rw [e1]; rfl : (.bool (!(signed s)) : Value) = _)) (ye rfl (zn (ze (srx (mvx rfl (mvx rfl (za rfl (yz Tryz.underlying9 rfl (za rfl (ve (l := 1) (h := s.size) Tryz.underlying9 rfl ⟨_, rfl⟩ rfl (by omega) (by omega) (avx rfl (anx rfl (zo (zm (rs := [.tmp 4, .tmp 5]) (vs := [_, _]) rfl ⟨rfl, rfl, trivial⟩ ?_))))))))))))))
  exact ⟨by rw [e1, e2]; rfl, (LW.step E XLW).toBelow⟩
 ·
  have e1 : signed s = false := decide_eq_false h;have e2 : zjv s = 0 := by unfold zjv; rw [if_neg h]
  refine zp 9 (.bool true) rfl ((by rw [e1]; rfl : (.bool (!(signed s)) : Value) = _)) (yg rfl (srx (mvx rfl (avx rfl (anx rfl (zo (zd (zm (rs := [.tmp 4, .tmp 5]) (vs := [_, _]) rfl ⟨rfl, rfl, trivial⟩ ?_))))))));exact ⟨by rw [e1, e2, yiv]; rfl, (LW.step E XLW).toBelow⟩
theorem cut_any (s : ByteArray) : Calls Tryz.prog 31 #[.string s, .string ⟨#[45]⟩] w fun e w' => e = .returned (.tuple #[.string (s.extract (zjv s) s.size), .bool (signed s)]) ∧ Below w.heap.size w w' := by
 refine yn Tryz.func31 rfl Tryz.ntmps31 rfl ?_;have LW := erx (No) w;have XLW := grx (No) w;have E := erx (No) w;refine srx (avx rfl (anx rfl (srx (mvx rfl (mvx rfl (za rfl (yh en42 rfl ((cut_in _ s).mono ?_))))))));rintro e w1 ⟨rfl, hb⟩;refine ⟨_, rfl, ?_⟩;replace E := blx E hb
 refine za rfl (yj rfl rfl (za rfl (yj rfl rfl (avx rfl (anx rfl (zo (zm (rs := [.tmp 4, .tmp 5]) (vs := [_, _]) rfl ⟨rfl, rfl, trivial⟩ ?_)))))));exact ⟨rfl, (LW.step E XLW).toBelow⟩
theorem numeral_any (s : ByteArray) (hl : s.size < 100000) : Calls Tryz.prog 33 #[.string s] w fun e w' => e = .returned (.bool (og s 0)) ∧ Below w.heap.size w w' := by
 obtain ⟨n, hn⟩ : ∃ n, n = kj s 0 := ⟨_, rfl⟩;have hnI := (gb (s := s) (Nat.zero_le _)).1;rw [← hn] at hnI;have hns := hnI.hi;obtain ⟨b, hbq⟩ : ∃ b, b = nB s n := ⟨_, rfl⟩;have hbs := nB_le (s := s) hns;rw [← hbq] at hbs;refine yn Tryz.func33 rfl Tryz.ntmps33 rfl ?_;have LW := erx (No) w;have XLW := grx (No) w;have E := erx (No) w
 refine srx (anx rfl (srx (mvx rfl (za rfl (yh en44 rfl ((zuq _ s hl).mono ?_))))));rintro e w1 ⟨rfl, hb⟩;refine ⟨_, rfl, ?_⟩;replace E := blx E hb;refine yi 5 (.int .i64 ((n : Nat) : Int)) rfl ((by rw [hn] : (.int .i64 ((kj s 0 : Nat) : Int) : Value) = _)) (anx rfl (zi (srx (mvx rfl (za rfl (zz rfl rfl (rnx (zt rfl (fun h1 => ?_) (fun h1 => ?_)))))))))
 ·
  have h1 : n = 0 := by have h1 := eq_of_beq h1; omega
  have e : og s 0 = false := ky (fun h => by have := h.1; rw [← hn] at this; omega);refine srx (anx rfl (zo (zd (zm (rs := [.tmp 2]) (vs := [_]) rfl ⟨rfl, trivial⟩ ?_))));exact ⟨by rw [e]; rfl, (LW.step E XLW).toBelow⟩
 ·
  have h1 : n ≠ 0 := fun e => absurd h1 (by rw [e]; decide);refine zn (ze (srx (mvx rfl (mvx rfl (za rfl (ve (l := n) (h := s.size) Tryz.underlying9 rfl ⟨_, rfl⟩ rfl (by omega) (by omega) (anx rfl (zi (srx (mvx rfl (za rfl (yh en45 rfl ((yhz _ (s.extract n s.size) 46 (by decide)).mono ?_)))))))))))));rintro e w2 ⟨rfl, hb⟩;refine ⟨_, rfl, ?_⟩
  replace E := blx E hb;refine yi 12 (.bool (decide (bAt s n = 46))) rfl ((by rw [ja, Nat.add_zero]; rfl : (.bool (decide (bAt (s.extract n s.size) 0 = (46 : UInt8).toNat)) : Value) = _)) (rnx ?_);replace LW := LW.step E XLW;replace E := erx (No) w2
  refine qf (ι := Unit) (fun _ => [(0, .string (s.extract b s.size))]) (fun _ w' => Ext (No) w2 w' ∧ ((bAt s n = 46 → n + 1 < b))) ?_ ?_
  ·
   have M3 := erx (No) w2;have XM3 := grx (No) w2;refine zt rfl (fun h3 => ?_) (fun h3 => ?_)
   ·
    have h3 := of_decide_eq_true h3;have hin := kx (s := s) (i := n) (by omega);obtain ⟨r, hr⟩ : ∃ r, r = kj (s.extract (n + 1) s.size) 0 := ⟨_, rfl⟩;have e1 : b = n + 1 + r := by rw [hbq, nB_dot h3, hr]; exact zfq (f := n + 1) (a := 0) (by omega)
    refine zi (srx (mvx rfl (za rfl (ve (l := 1) (h := s.size - n) Tryz.underlying9 rfl ⟨_, rfl⟩ (qk).symm (by omega) (by rw [qk]; omega) (yi 14 (.string (s.extract (n + 1) s.size)) rfl ((by rw [zzq rfl rfl] : (.string ((s.extract n s.size).extract 1 (s.size - n)) : Value) = _)) (za rfl (yh en44 rfl ((zuq _ (s.extract (n + 1) s.size) (by rw [qk]; omega)).mono ?_))))))))
    rintro e w5 ⟨rfl, hb⟩;refine ⟨_, rfl, ?_⟩;replace E := blx E hb;refine yi 15 (.int .i64 ((r : Nat) : Int)) rfl ((by rw [hr] : (.int .i64 ((kj (s.extract (n + 1) s.size) 0 : Nat) : Int) : Value) = _)) (anx rfl (srx (mvx rfl (za rfl (zz rfl rfl (rnx (zt rfl (fun h4 => ?_) (fun h4 => ?_))))))))
    ·
     have h4 : r = 0 := by have h4 := eq_of_beq h4; omega
     have e : og s 0 = false := ky (fun h => by have := h.2.1; rw [← hn, ← hbq] at this; have := this h3; omega);refine srx (anx rfl (zo (zd (zd (zm (rs := [.tmp 2]) (vs := [_]) rfl ⟨rfl, trivial⟩ ?_)))));exact ⟨by rw [e]; rfl, (LW.step E XLW).toBelow⟩
    ·
     have h4 : r ≠ 0 := fun e => absurd h4 (by rw [e]; decide)
     refine zn (ze (zg (mvx rfl (mvx rfl (za rfl (yp rfl rfl (zw (by omega)) (yi 20 (.int .i64 ((r + 1 : Nat) : Int)) rfl (rfl) (za rfl (ve (l := r + 1) (h := s.size - n) Tryz.underlying9 rfl ⟨_, rfl⟩ (qk).symm (by omega) (by rw [qk]; omega) (avx rfl (yd (yt 0 (.string (s.extract b s.size)) rfl ((by rw [zzq (m := b) rfl (by omega)] : (.string ((s.extract n s.size).extract (r + 1) (s.size - n)) : Value) = _)) ?_))))))))))))
     exact yu () ⟨rfl, trivial⟩ ⟨M3.step E XM3, fun _ => by omega⟩
   ·
    have h3 := of_decide_eq_false h3;have e1 : b = n := by rw [hbq, nB_no h3]
    refine zn (yt 0 (.string (s.extract b s.size)) rfl ((by rw [e1] : (.string (s.extract n s.size) : Value) = _)) ?_);exact yu () ⟨rfl, trivial⟩ ⟨M3.step E XM3, fun h => absurd h h3⟩
  ·
   rintro _ w4 ⟨M3, h2⟩;replace E := E.trans M3;replace LW := LW.step E XLW;replace E := erx (No) w4;have hcs := nC_le (s := s) hbs.2;refine zi (srx (mvx rfl (za rfl (yh en45 rfl ((yhz _ (s.extract b s.size) 101 (by decide)).mono ?_)))));rintro e w6 ⟨rfl, hb⟩;refine ⟨_, rfl, ?_⟩;replace E := blx E hb
   refine yi 23 (.bool (decide (bAt s b = 101))) rfl ((by rw [ja, Nat.add_zero]; rfl : (.bool (decide (bAt (s.extract b s.size) 0 = (101 : UInt8).toNat)) : Value) = _)) (rnx ?_);replace LW := LW.step E XLW;replace E := erx (No) w6;refine qf (ι := Unit) (fun _ => [(0, .string (s.extract (nC s b) s.size))]) (fun _ w' => Ext (No) w6 w' ∧ ((bAt s b = 101 → nQ s b < nC s b))) ?_ ?_
   ·
    have M7 := erx (No) w6;have XM7 := grx (No) w6;refine zt rfl (fun h3 => ?_) (fun h3 => ?_)
    ·
     have h3 := of_decide_eq_true h3;have hin := kx (s := s) (i := b) (by omega);have hqs := nQ_le hin
     refine srx (mvx rfl (za rfl (ve (l := 1) (h := s.size - b) Tryz.underlying9 rfl ⟨_, rfl⟩ (qk).symm (by omega) (by rw [qk]; omega) (yi 25 (.string (s.extract (b + 1) s.size)) rfl ((by rw [zzq rfl rfl] : (.string ((s.extract b s.size).extract 1 (s.size - b)) : Value) = _)) (anx rfl (zi (zi ?_)))))));replace LW := LW.step E XLW
     replace M7 := M7.step E XM7;replace E := erx (No) w6;refine qf (ι := Bool) (fun g => [(0, .string (s.extract (b + 1) s.size)), (37, .bool g)]) (fun g w' => Ext (No) w6 w' ∧ (g = decide (bAt s (b + 1) = 43 ∨ bAt s (b + 1) = 45))) ?_ ?_
     ·
      have M9 := erx (No) w6;have XM9 := grx (No) w6;refine zg (mvx rfl (za rfl (ow_neqS rfl rfl (mvx rfl (yi 28 (.bool (decide (b + 1 < s.size))) rfl (by rw [ne_nil]) (yk 28 rfl (fun h6 => ?_) (fun h6 => ?_)))))))
      ·
       have h6 := of_decide_eq_true h6
       refine onx rfl (zv rfl (onx rfl (ym (j := 0) (b := bAt (s.extract (b + 1) s.size) 0) Tryz.underlying9 rfl rfl rfl (qb (by rw [qk]; omega)) (yi 30 (.int .u8 ((bAt s (b + 1) : Nat) : Int)) rfl ((by rw [ja] : (.int .u8 ((bAt (s.extract (b + 1) s.size) 0 : Nat) : Int) : Value) = _)) (onx rfl (zz rfl rfl (onx rfl (zv rfl (yk 32 rfl (fun h7 => ?_) (fun h7 => ?_))))))))))
       ·
        have h7 : bAt s (b + 1) = 43 := by have h7 := eq_of_beq h7; omega
        refine za rfl (zc rfl (za rfl (zc rfl (za rfl (zc rfl (onx rfl (zq rfl rfl (za rfl (zq rfl rfl (yd ?_))))))))));exact yu true ⟨rfl, rfl, trivial⟩ ⟨M9.step E XM9, (decide_eq_true (.inl h7)).symm⟩
       ·
        have h7 : ¬ bAt s (b + 1) = 43 := fun e => absurd h7 (by rw [e]; decide)
        refine onx rfl (zv rfl (onx rfl (ym (j := 0) (b := bAt (s.extract (b + 1) s.size) 0) Tryz.underlying9 rfl rfl rfl (qb (by rw [qk]; omega)) (yi 34 (.int .u8 ((bAt s (b + 1) : Nat) : Int)) rfl ((by rw [ja] : (.int .u8 ((bAt (s.extract (b + 1) s.size) 0 : Nat) : Int) : Value) = _)) (onx rfl (zz rfl rfl (onx rfl (zx rfl rfl (za rfl (zq rfl rfl (yd ?_)))))))))))
        by_cases h8 : bAt s (b + 1) = 45
        ·
         refine yt 37 (.bool true) rfl ((by rw [h8]; rfl : (.bool (((bAt s (b + 1) : Nat) : Int) == 45) : Value) = _)) ?_;exact yu true ⟨rfl, rfl, trivial⟩ ⟨M9.step E XM9, (decide_eq_true (.inr h8)).symm⟩
        ·
         refine yt 37 (.bool false) rfl ((by rw [vv (by omega)] : (.bool (((bAt s (b + 1) : Nat) : Int) == 45) : Value) = _)) ?_;exact yu false ⟨rfl, rfl, trivial⟩ ⟨M9.step E XM9, (decide_eq_false (by omega)).symm⟩
      ·
       have h6 := of_decide_eq_false h6;have h0 := zkx (s := s) (i := b + 1) (by omega);refine za rfl (zc rfl (za rfl (zc rfl (za rfl (zc rfl (za rfl (zc rfl (za rfl (qj rfl rfl (za rfl (qj rfl rfl (za rfl (qj rfl rfl (za rfl (zc rfl (za rfl (zx rfl rfl (yd ?_))))))))))))))))))
       exact yu false ⟨rfl, rfl, trivial⟩ ⟨M9.step E XM9, (decide_eq_false (by omega)).symm⟩
     ·
      rintro g w10 ⟨M9, hg⟩;replace E := E.trans M9;replace LW := LW.step E XLW;replace M7 := M7.step E XM7;replace E := erx (No) w10;replace LW := LW.step E XLW;replace M7 := M7.step E XM7;replace E := erx (No) w10;refine qf (ι := Unit) (fun _ => [(0, .string (s.extract (nQ s b) s.size))]) (fun _ w' => Ext (No) w10 w' ∧ (True)) ?_ ?_
      ·
       have M11 := erx (No) w10;have XM11 := grx (No) w10;refine zt rfl (fun h6 => ?_) (fun h6 => ?_)
       ·
        rw [hg] at h6;have h6 := of_decide_eq_true h6;have e1 : nQ s b = b + 2 := by unfold nQ; rw [if_pos h6]
        have hin2 := kx (s := s) (i := b + 1) (by omega)
        refine zg (mvx rfl (za rfl (ve (l := 1) (h := s.size - (b + 1)) Tryz.underlying9 rfl ⟨_, rfl⟩ (qk).symm (by omega) (by rw [qk]; omega) (avx rfl (yd (yt 0 (.string (s.extract (nQ s b) s.size)) rfl ((by rw [zzq (f := b + 1) (k := 1) (m := nQ s b) rfl (by omega)] : (.string ((s.extract (b + 1) s.size).extract 1 (s.size - (b + 1))) : Value) = _)) ?_))))))
        exact yu () ⟨rfl, trivial⟩ ⟨M11.step E XM11, trivial⟩
       ·
        rw [hg] at h6;have h6 := of_decide_eq_false h6;have e1 : nQ s b = b + 1 := by unfold nQ; rw [if_neg h6]
        refine zn (yt 0 (.string (s.extract (nQ s b) s.size)) rfl ((by rw [e1] : (.string (s.extract (b + 1) s.size) : Value) = _)) ?_);exact yu () ⟨rfl, trivial⟩ ⟨M11.step E XM11, trivial⟩
      ·
       rintro _ w12 ⟨M11, _⟩;replace E := E.trans M11;replace LW := LW.step E XLW;replace M7 := M7.step E XM7;replace E := erx (No) w12;obtain ⟨r, hr⟩ : ∃ r, r = kj (s.extract (nQ s b) s.size) 0 := ⟨_, rfl⟩;have e1 : nC s b = nQ s b + r := by rw [nC_e h3, hr]; exact zfq (f := nQ s b) (a := 0) (by omega)
       refine zi (srx (mvx rfl (za rfl (yh en44 rfl ((zuq _ (s.extract (nQ s b) s.size) (by rw [qk]; omega)).mono ?_)))));rintro e w13 ⟨rfl, hb⟩;refine ⟨_, rfl, ?_⟩;replace E := blx E hb
       refine yi 41 (.int .i64 ((r : Nat) : Int)) rfl ((by rw [hr] : (.int .i64 ((kj (s.extract (nQ s b) s.size) 0 : Nat) : Int) : Value) = _)) (anx rfl (srx (mvx rfl (za rfl (zz rfl rfl (rnx (zt rfl (fun h4 => ?_) (fun h4 => ?_))))))))
       ·
        have h4 : r = 0 := by have h4 := eq_of_beq h4; omega
        have e : og s 0 = false := ky (fun h => by have := h.2.2.2; rw [← hn, ← hbq] at this; have := this h3; omega);refine srx (anx rfl (zo (zd (zd (zm (rs := [.tmp 2]) (vs := [_]) rfl ⟨rfl, trivial⟩ ?_)))));exact ⟨by rw [e]; rfl, (LW.step E XLW).toBelow⟩
       ·
        have h4 : r ≠ 0 := fun e => absurd h4 (by rw [e]; decide)
        refine zn (ze (zg (mvx rfl (mvx rfl (za rfl (ve (l := r) (h := s.size - nQ s b) Tryz.underlying9 rfl ⟨_, rfl⟩ (qk).symm (by omega) (by rw [qk]; omega) (avx rfl (yd (yt 0 (.string (s.extract (nC s b) s.size)) rfl ((by rw [zzq rfl e1.symm] : (.string ((s.extract (nQ s b) s.size).extract r (s.size - nQ s b)) : Value) = _)) ?_)))))))))
        exact yu () ⟨rfl, trivial⟩ ⟨M7.step E XM7, fun _ => by omega⟩
    ·
     have h3 := of_decide_eq_false h3;refine zn (yt 0 (.string (s.extract (nC s b) s.size)) rfl ((by rw [nC_no h3] : (.string (s.extract b s.size) : Value) = _)) ?_);exact yu () ⟨rfl, trivial⟩ ⟨M7.step E XM7, fun h => absurd h h3⟩
   ·
    rintro _ w8 ⟨M7, h5⟩;replace E := E.trans M7;replace LW := LW.step E XLW;replace E := erx (No) w8;refine srx (mvx rfl (za rfl (kz rfl rfl (anx rfl (zo (yt 2 (.bool (decide (s.size ≤ nC s b))) rfl (by rw [eq_nil]) ?_))))));by_cases h6 : s.size ≤ nC s b
    ·
     have e : og s 0 = true := ylx ⟨by rw [← hn]; omega, by rw [← hn, ← hbq]; exact h2, by rw [← hn, ← hbq]; omega, by rw [← hn, ← hbq]; exact h5⟩;refine zm (rs := [.tmp 2]) (vs := [_]) rfl ⟨rfl, trivial⟩ ?_;exact ⟨by rw [e, decide_eq_true h6]; rfl, (LW.step E XLW).toBelow⟩
    ·
     have e : og s 0 = false := ky (fun h => by have := h.2.2.1; rw [← hn, ← hbq] at this; omega);refine zm (rs := [.tmp 2]) (vs := [_]) rfl ⟨rfl, trivial⟩ ?_;exact ⟨by rw [e, decide_eq_false h6]; rfl, (LW.step E XLW).toBelow⟩
theorem numeral_any_r (s : ByteArray) (f : Nat) (hf : f ≤ s.size) (hl : s.size < 100000) : Calls Tryz.prog 38 #[.string s, .int .i64 ((f : Nat) : Int)] w fun e w' => e = .returned (.bool (og s f)) ∧ Below w.heap.size w w' := by
 obtain ⟨n, hn⟩ : ∃ n, n = kj s f := ⟨_, rfl⟩;have hnI := (gb (s := s) hf).1;rw [← hn] at hnI;have hns := hnI.hi;have hnf := hnI.lo;obtain ⟨b, hbq⟩ : ∃ b, b = nB s n := ⟨_, rfl⟩;have hbs := nB_le (s := s) hns;rw [← hbq] at hbs;refine yn Tryz.func38 rfl Tryz.ntmps38 rfl ?_;have LW := erx (No) w;have XLW := grx (No) w;have E := erx (No) w
 refine srx (anx rfl (srx (mvx rfl (mvx rfl (za rfl (yh en47 rfl ((run_any _ s f hf hl).mono ?_)))))));rintro e w1 ⟨rfl, hb⟩;refine ⟨_, rfl, ?_⟩;replace E := blx E hb
 refine yi 10 (.int .i64 ((n : Nat) : Int)) rfl ((by rw [hn] : (.int .i64 ((kj s f : Nat) : Int) : Value) = _)) (anx rfl (zi (srx (mvx rfl (mvx rfl (za rfl (zz rfl rfl (rnx (zt rfl (fun h1 => ?_) (fun h1 => ?_))))))))))
 ·
  have h1 : n = f := by have h1 := eq_of_beq h1; omega
  have e : og s f = false := ky (fun h => by have := h.1; rw [← hn] at this; omega);refine srx (anx rfl (zo (zd (zm (rs := [.tmp 4]) (vs := [_]) rfl ⟨rfl, trivial⟩ ?_))));exact ⟨by rw [e]; rfl, (LW.step E XLW).toBelow⟩
 ·
  have h1 : n ≠ f := fun e => absurd h1 (by rw [e]; simp);refine zn (ze (zi (zi ?_)));replace LW := LW.step E XLW;replace E := erx (No) w1;refine qf (ι := Unit) (fun _ => [(0, .string s), (1, .int .i64 ((f : Nat) : Int)), (5, .int .i64 ((n : Nat) : Int)), (23, .bool (decide (bAt s n = 46)))]) (fun _ w' => Ext (No) w1 w' ∧ (True)) ?_ ?_
  ·
   have M2 := erx (No) w1;have XM2 := grx (No) w1;refine zg (mvx rfl (mvx rfl (za rfl (yz Tryz.underlying9 rfl (za rfl (yv rfl rfl (mvx rfl (yk 18 rfl (fun h2 => ?_) (fun h2 => ?_)))))))))
   ·
    have h2 : n < s.size := by have h2 := of_decide_eq_true h2; omega
    refine onx rfl (zv rfl (onx rfl (zv rfl (onx rfl (ym (j := n) (b := bAt s (n)) Tryz.underlying9 rfl rfl rfl (qb (by omega)) (onx rfl (zz rfl rfl (za rfl (zq rfl rfl (yd ?_))))))))));by_cases h3 : bAt s n = 46
    ·
     refine yt 23 (.bool (decide (bAt s n = 46))) rfl ((by rw [h3]; rfl : (.bool (((bAt s (n) : Nat) : Int) == 46) : Value) = _)) ?_;exact yu () ⟨rfl, rfl, rfl, rfl, trivial⟩ ⟨M2.step E XM2, trivial⟩
    ·
     refine yt 23 (.bool (decide (bAt s n = 46))) rfl ((by rw [vv (by omega), decide_eq_false h3] : (.bool (((bAt s (n) : Nat) : Int) == 46) : Value) = _)) ?_;exact yu () ⟨rfl, rfl, rfl, rfl, trivial⟩ ⟨M2.step E XM2, trivial⟩
   ·
    have h2 : ¬ n < s.size := by have h2 := of_decide_eq_false h2; omega
    have h0 := zkx (s := s) (i := n) (by omega);refine za rfl (zc rfl (za rfl (zc rfl (za rfl (zc rfl (za rfl (zc rfl (za rfl (zx rfl rfl (yd (yt 23 (.bool (decide (bAt s n = 46))) rfl ((by rw [decide_eq_false (by omega)] : (.bool false : Value) = _)) ?_)))))))))));exact yu () ⟨rfl, rfl, rfl, rfl, trivial⟩ ⟨M2.step E XM2, trivial⟩
  ·
   rintro _ w3 ⟨M2, _⟩;replace E := E.trans M2;replace LW := LW.step E XLW;replace E := erx (No) w3;replace LW := LW.step E XLW;replace E := erx (No) w3;refine qf (ι := Unit) (fun _ => [(0, .string s), (5, .int .i64 ((b : Nat) : Int))]) (fun _ w' => Ext (No) w3 w' ∧ ((bAt s n = 46 → n + 1 < b))) ?_ ?_
   ·
    have M4 := erx (No) w3;have XM4 := grx (No) w3;refine zt rfl (fun h3 => ?_) (fun h3 => ?_)
    ·
     have h3 := of_decide_eq_true h3;have hin := kx (s := s) (i := n) (by omega);have e1 : b = kj s (n + 1) := by rw [hbq, nB_dot h3]
     have e2 := (gb (s := s) (a := n + 1) hin).1.lo;rw [← e1] at e2;refine srx (mvx rfl (mvx rfl (za rfl (yp rfl rfl (zw (by omega)) (yi 26 (.int .i64 ((n + 1 : Nat) : Int)) rfl (rfl) (za rfl (yh en47 rfl ((run_any _ s (n + 1) hin hl).mono ?_))))))));rintro e w6 ⟨rfl, hb⟩;refine ⟨_, rfl, ?_⟩;replace E := blx E hb
     refine yi 27 (.int .i64 ((b : Nat) : Int)) rfl ((by rw [e1] : (.int .i64 ((kj s (n + 1) : Nat) : Int) : Value) = _)) (anx rfl (zi (srx (mvx rfl (mvx rfl (za rfl (yp rfl rfl (zw (by omega)) (za rfl (zz rfl rfl (rnx (zt rfl (fun h4 => ?_) (fun h4 => ?_))))))))))))
     ·
      have h4 : b = n + 1 := by have h4 := eq_of_beq h4; omega
      have e : og s f = false := ky (fun h => by have := h.2.1; rw [← hn, ← hbq] at this; have := this h3; omega);refine srx (anx rfl (zo (zd (zd (zm (rs := [.tmp 4]) (vs := [_]) rfl ⟨rfl, trivial⟩ ?_)))));exact ⟨by rw [e]; rfl, (LW.step E XLW).toBelow⟩
     ·
      have h4 : b ≠ n + 1 := fun e => absurd h4 (by rw [e]; simp);refine zn (ze (zg (mvx rfl (avx rfl (yd ?_)))));exact yu () ⟨rfl, rfl, trivial⟩ ⟨M4.step E XM4, fun _ => by omega⟩
    ·
     have h3 := of_decide_eq_false h3;have e1 : b = n := by rw [hbq, nB_no h3]
     refine zn (yt 5 (.int .i64 ((b : Nat) : Int)) rfl ((by rw [e1] : (.int .i64 ((n : Nat) : Int) : Value) = _)) ?_);exact yu () ⟨rfl, rfl, trivial⟩ ⟨M4.step E XM4, fun h => absurd h h3⟩
   ·
    rintro _ w5 ⟨M4, h2⟩;replace E := E.trans M4;replace LW := LW.step E XLW;replace E := erx (No) w5;have hcs := nC_le (s := s) hbs.2;refine zi (zi ?_);replace LW := LW.step E XLW;replace E := erx (No) w5;refine qf (ι := Unit) (fun _ => [(0, .string s), (5, .int .i64 ((b : Nat) : Int)), (42, .bool (decide (bAt s b = 101)))]) (fun _ w' => Ext (No) w5 w' ∧ (True)) ?_ ?_
    ·
     have M7 := erx (No) w5;have XM7 := grx (No) w5;refine zg (mvx rfl (mvx rfl (za rfl (yz Tryz.underlying9 rfl (za rfl (yv rfl rfl (mvx rfl (yk 37 rfl (fun h3 => ?_) (fun h3 => ?_)))))))))
     ·
      have h3 : b < s.size := by have h3 := of_decide_eq_true h3; omega
      refine onx rfl (zv rfl (onx rfl (zv rfl (onx rfl (ym (j := b) (b := bAt s (b)) Tryz.underlying9 rfl rfl rfl (qb (by omega)) (onx rfl (zz rfl rfl (za rfl (zq rfl rfl (yd ?_))))))))));by_cases h4 : bAt s b = 101
      ·
       refine yt 42 (.bool (decide (bAt s b = 101))) rfl ((by rw [h4]; rfl : (.bool (((bAt s (b) : Nat) : Int) == 101) : Value) = _)) ?_;exact yu () ⟨rfl, rfl, rfl, trivial⟩ ⟨M7.step E XM7, trivial⟩
      ·
       refine yt 42 (.bool (decide (bAt s b = 101))) rfl ((by rw [vv (by omega), decide_eq_false h4] : (.bool (((bAt s (b) : Nat) : Int) == 101) : Value) = _)) ?_;exact yu () ⟨rfl, rfl, rfl, trivial⟩ ⟨M7.step E XM7, trivial⟩
     ·
      have h3 : ¬ b < s.size := by have h3 := of_decide_eq_false h3; omega
      have h0 := zkx (s := s) (i := b) (by omega);refine za rfl (zc rfl (za rfl (zc rfl (za rfl (zc rfl (za rfl (zc rfl (za rfl (zx rfl rfl (yd (yt 42 (.bool (decide (bAt s b = 101))) rfl ((by rw [decide_eq_false (by omega)] : (.bool false : Value) = _)) ?_)))))))))));exact yu () ⟨rfl, rfl, rfl, trivial⟩ ⟨M7.step E XM7, trivial⟩
    ·
     rintro _ w8 ⟨M7, _⟩;replace E := E.trans M7;replace LW := LW.step E XLW;replace E := erx (No) w8;replace LW := LW.step E XLW;replace E := erx (No) w8;refine qf (ι := Unit) (fun _ => [(0, .string s), (5, .int .i64 ((nC s b : Nat) : Int))]) (fun _ w' => Ext (No) w8 w' ∧ ((bAt s b = 101 → nQ s b < nC s b))) ?_ ?_
     ·
      have M9 := erx (No) w8;have XM9 := grx (No) w8;refine zt rfl (fun h3 => ?_) (fun h3 => ?_)
      ·
       have h3 := of_decide_eq_true h3;have hin := kx (s := s) (i := b) (by omega);have hqs := nQ_le hin;refine srx (mvx rfl (za rfl (yp rfl rfl (zw (by omega)) (anx rfl (zi (zi (zp 5 (.int .i64 ((b + 1 : Nat) : Int)) rfl (rfl) ?_)))))));replace LW := LW.step E XLW;replace M9 := M9.step E XM9;replace E := erx (No) w8
       refine qf (ι := Bool) (fun g => [(0, .string s), (5, .int .i64 ((b + 1 : Nat) : Int)), (60, .bool g)]) (fun g w' => Ext (No) w8 w' ∧ (g = decide (bAt s (b + 1) = 43 ∨ bAt s (b + 1) = 45))) ?_ ?_
       ·
        have M11 := erx (No) w8;have XM11 := grx (No) w8;refine zg (mvx rfl (mvx rfl (za rfl (yz Tryz.underlying9 rfl (za rfl (yv rfl rfl (mvx rfl (yk 49 rfl (fun h6 => ?_) (fun h6 => ?_)))))))))
        ·
         have h6 : b + 1 < s.size := by have h6 := of_decide_eq_true h6; omega
         refine onx rfl (zv rfl (onx rfl (zv rfl (onx rfl (ym (j := b + 1) (b := bAt s (b + 1)) Tryz.underlying9 rfl rfl rfl (qb (by omega)) (onx rfl (zz rfl rfl (onx rfl (zv rfl (yk 54 rfl (fun h7 => ?_) (fun h7 => ?_)))))))))))
         ·
          have h7 : bAt s (b + 1) = 43 := by have h7 := eq_of_beq h7; omega
          refine za rfl (zc rfl (za rfl (zc rfl (za rfl (zc rfl (za rfl (zc rfl (onx rfl (zq rfl rfl (za rfl (zq rfl rfl (yd ?_))))))))))));exact yu true ⟨rfl, rfl, rfl, trivial⟩ ⟨M11.step E XM11, (decide_eq_true (.inl h7)).symm⟩
         ·
          have h7 : ¬ bAt s (b + 1) = 43 := fun e => absurd h7 (by rw [e]; decide);refine onx rfl (zv rfl (onx rfl (zv rfl (onx rfl (ym (j := b + 1) (b := bAt s (b + 1)) Tryz.underlying9 rfl rfl rfl (qb (by omega)) (onx rfl (zz rfl rfl (onx rfl (zx rfl rfl (za rfl (zq rfl rfl (yd ?_))))))))))));by_cases h8 : bAt s (b + 1) = 45
          ·
           refine yt 60 (.bool true) rfl ((by rw [h8]; rfl : (.bool (((bAt s (b + 1) : Nat) : Int) == 45) : Value) = _)) ?_;exact yu true ⟨rfl, rfl, rfl, trivial⟩ ⟨M11.step E XM11, (decide_eq_true (.inr h8)).symm⟩
          ·
           refine yt 60 (.bool false) rfl ((by rw [vv (by omega)] : (.bool (((bAt s (b + 1) : Nat) : Int) == 45) : Value) = _)) ?_;exact yu false ⟨rfl, rfl, rfl, trivial⟩ ⟨M11.step E XM11, (decide_eq_false (by omega)).symm⟩
        ·
         have h6 : ¬ b + 1 < s.size := by have h6 := of_decide_eq_false h6; omega
         have h0 := zkx (s := s) (i := b + 1) (by omega);refine za rfl (zc rfl (za rfl (zc rfl (za rfl (zc rfl (za rfl (zc rfl (za rfl (zc rfl (za rfl (qj rfl rfl (za rfl (qj rfl rfl (za rfl (qj rfl rfl (za rfl (qj rfl rfl (za rfl (zc rfl (za rfl (zx rfl rfl (yd ?_))))))))))))))))))))))
         exact yu false ⟨rfl, rfl, rfl, trivial⟩ ⟨M11.step E XM11, (decide_eq_false (by omega)).symm⟩
       ·
        rintro g w12 ⟨M11, hg⟩;replace E := E.trans M11;replace LW := LW.step E XLW;replace M9 := M9.step E XM9;replace E := erx (No) w12;replace LW := LW.step E XLW;replace M9 := M9.step E XM9;replace E := erx (No) w12;refine qf (ι := Unit) (fun _ => [(0, .string s), (5, .int .i64 ((nQ s b : Nat) : Int))]) (fun _ w' => Ext (No) w12 w' ∧ (True)) ?_ ?_
        ·
         have M13 := erx (No) w12;have XM13 := grx (No) w12;refine zt rfl (fun h6 => ?_) (fun h6 => ?_)
         ·
          rw [hg] at h6;have h6 := of_decide_eq_true h6;have e1 : nQ s b = b + 2 := by unfold nQ; rw [if_pos h6]
          refine zg (mvx rfl (za rfl (yp rfl rfl (zw (by omega)) (avx rfl (yd (yt 5 (.int .i64 ((nQ s b : Nat) : Int)) rfl ((by rw [e1]; rfl : (.int .i64 (((b + 1 : Nat) : Int) + 1) : Value) = _)) ?_))))));exact yu () ⟨rfl, rfl, trivial⟩ ⟨M13.step E XM13, trivial⟩
         ·
          rw [hg] at h6;have h6 := of_decide_eq_false h6;have e1 : nQ s b = b + 1 := by unfold nQ; rw [if_neg h6]
          refine zn (yt 5 (.int .i64 ((nQ s b : Nat) : Int)) rfl ((by rw [e1] : (.int .i64 ((b + 1 : Nat) : Int) : Value) = _)) ?_);exact yu () ⟨rfl, rfl, trivial⟩ ⟨M13.step E XM13, trivial⟩
        ·
         rintro _ w14 ⟨M13, _⟩;replace E := E.trans M13;replace LW := LW.step E XLW;replace M9 := M9.step E XM9;replace E := erx (No) w14;have e1 : nC s b = kj s (nQ s b) := nC_e h3;have e2 := (gb (s := s) (a := nQ s b) hqs).1.lo;rw [← e1] at e2;refine srx (mvx rfl (mvx rfl (za rfl (yh en47 rfl ((run_any _ s (nQ s b) hqs hl).mono ?_)))));rintro e w15 ⟨rfl, hb⟩
         refine ⟨_, rfl, ?_⟩;replace E := blx E hb;refine yi 65 (.int .i64 ((nC s b : Nat) : Int)) rfl ((by rw [e1] : (.int .i64 ((kj s (nQ s b) : Nat) : Int) : Value) = _)) (anx rfl (zi (srx (mvx rfl (mvx rfl (za rfl (zz rfl rfl (rnx (zt rfl (fun h4 => ?_) (fun h4 => ?_))))))))))
         ·
          have h4 : nC s b = nQ s b := by have h4 := eq_of_beq h4; omega
          have e : og s f = false := ky (fun h => by have := h.2.2.2; rw [← hn, ← hbq] at this; have := this h3; omega);refine srx (anx rfl (zo (zd (zd (zm (rs := [.tmp 4]) (vs := [_]) rfl ⟨rfl, trivial⟩ ?_)))));exact ⟨by rw [e]; rfl, (LW.step E XLW).toBelow⟩
         ·
          have h4 : nC s b ≠ nQ s b := fun e => absurd h4 (by rw [e]; simp);refine zn (ze (zg (mvx rfl (avx rfl (yd ?_)))));exact yu () ⟨rfl, rfl, trivial⟩ ⟨M9.step E XM9, fun _ => by omega⟩
      ·
       have h3 := of_decide_eq_false h3;refine zn (yt 5 (.int .i64 ((nC s b : Nat) : Int)) rfl ((by rw [nC_no h3] : (.int .i64 ((b : Nat) : Int) : Value) = _)) ?_);exact yu () ⟨rfl, rfl, trivial⟩ ⟨M9.step E XM9, fun h => absurd h h3⟩
     ·
      rintro _ w10 ⟨M9, h5⟩;replace E := E.trans M9;replace LW := LW.step E XLW;replace E := erx (No) w10;refine srx (mvx rfl (mvx rfl (za rfl (yz Tryz.underlying9 rfl (za rfl (zz rfl rfl (anx rfl (zo ?_))))))));by_cases h6 : nC s b = s.size
      ·
       have e : og s f = true := ylx ⟨by rw [← hn]; omega, by rw [← hn, ← hbq]; exact h2, by rw [← hn, ← hbq]; exact h6, by rw [← hn, ← hbq]; exact h5⟩;refine yt 4 (.bool true) rfl ((by rw [h6]; simp : (.bool (((nC s b : Nat) : Int) == ((s.size : Nat) : Int)) : Value) = _)) (zm (rs := [.tmp 4]) (vs := [_]) rfl ⟨rfl, trivial⟩ ?_);exact ⟨by rw [e]; rfl, (LW.step E XLW).toBelow⟩
      ·
       have e : og s f = false := ky (fun h => by have := h.2.2.1; rw [← hn, ← hbq] at this; omega);refine yt 4 (.bool false) rfl ((by rw [vv (by omega)] : (.bool (((nC s b : Nat) : Int) == ((s.size : Nat) : Int)) : Value) = _)) (zm (rs := [.tmp 4]) (vs := [_]) rfl ⟨rfl, trivial⟩ ?_);exact ⟨by rw [e]; rfl, (LW.step E XLW).toBelow⟩
end
end Go.Proofs.YtmjemknimipnjaaGreatDoor
namespace Go.Proofs.YtmjemknimipnjaaGreatDoor
open Go.RowKit
set_option maxRecDepth 100000
attribute [local irreducible] OW RS
noncomputable def prX (s : ByteArray) : ByteArray := s.extract (zjv s) s.size
noncomputable def yhk (s : ByteArray) : Bool := (prX s).toList == (⟨#[105, 110, 102]⟩ : ByteArray).toList
noncomputable def yhq (s : ByteArray) : Bool := (prX s).toList == (⟨#[110, 97, 110]⟩ : ByteArray).toList
noncomputable def prV (s : ByteArray) : Nat :=
 if 1000 < s.size then 0
 else if yhk s then sgB (signed s) + 9218868437227405312
 else if yhq s then 9221120237041090560
 else if og (prX s) 0 then sgB (signed s) + atV (prX s) 0 false
 else 0
noncomputable def prE (s : ByteArray) : Int :=
 if 1000 < s.size then 2
 else if yhk s then 0
 else if yhq s then 0
 else if og (prX s) 0 then 0
 else 4
theorem cut1_le (s : ByteArray) : zjv s ≤ s.size := by
 unfold zjv;split
 · rename_i h
   have := kx (s := s) (i := 0) (by omega);omega
 · omega
theorem prX_size (s : ByteArray) : (prX s).size ≤ s.size := by unfold prX; rw [qk]; omega
theorem Sgn.le {v : Nat} (h : Sgn false v) : v ≤ 9218868437227405312 := h.tame
theorem yjx {v : Nat} (h : Sgn false v) (n : Bool) : yjz (sgB n + v) = sgB n + v := by
 have h1 := zlv h.tame n;rw [sgB_add h.tame] at h1;unfold yjz;rw [h1.num, if_neg (by decide)]
theorem word_signed {v : Nat} (h : Sgn false v) : Ieee.double.word (ng 13830554455654793216) (rg v) = sgB true + v := by
 have h1 : rg v = v := by
  have := h.tame;unfold rg;omega
 rw [h1, show ng 13830554455654793216 = true by decide +kernel];unfold Ieee.Format.word;rw [c1, if_pos rfl];show _ = 9223372036854775808 + v
 omega
theorem sgn_inf : Sgn false 9218868437227405312 := by
 have h := zlv (Nat.le_refl 9218868437227405312) false;rw [show sgB false = 0 from rfl, Nat.zero_or] at h;exact h
theorem rp32_1 : Gives 32 #[.int .i64 1] (.float .f64 9218868437227405312) := by
 intro w;refine yn Tryz.func32 rfl Tryz.ntmps32 rfl ?_;have LW := erx (No) w;have XLW := grx (No) w;have E := erx (No) w
 refine srx (anx rfl (srx (anx rfl (zi (srx (mvx rfl (za rfl (qz rfl rfl (rnx (yg rfl (zg (anx rfl (srx (mvx rfl (za rfl (jl (b := 9218868437227405312) ex43 rfl (anx rfl (zo (zm (rs := [.tmp 2]) (vs := [.float .f64 9218868437227405312]) rfl ⟨rfl, trivial⟩ ?_)))))))))))))))))));exact ⟨rfl, (LW.step E XLW).toBelow⟩
section
variable (w : World) {bp op cp bf of cf bl ol cl : Nat}
theorem realparse_any (s : ByteArray) (hT : Tabs bp op cp bf of cf bl ol cl w) (hE : ∃ te pe, w.cell? ⟨2, 0, none⟩ = some (.iface te pe)) : Calls Tryz.prog 25 #[.string s] w fun e w' => e = .returned (.tuple #[.int .u64 ((prV s : Nat) : Int), .int .i64 (prE s)]) ∧ Below w.heap.size w w' := by
 have hxs := prX_size s;obtain ⟨te, pe, hE⟩ := hE;refine yn Tryz.func25 rfl Tryz.ntmps25 rfl ?_;have HF : Per (No) w (fun _ => True) := Per.true_;have LW := erx (No) w;have XLW := grx (No) w;have E := erx (No) w;replace HF := HF.on E;replace LW := LW.step E XLW;replace E := erx (No) w;replace HF := HF.and (Per.tabs hT (fun _ h => h.elim));replace HF := HF.on E;replace LW := LW.step E XLW
 replace E := erx (No) w;replace HF := HF.and (Per.cellA hE (fun _ h => h.elim));refine srx (avx rfl (anx rfl (zi (srx (mvx rfl (za rfl (yz Tryz.underlying9 rfl (za rfl (qe rfl rfl (rnx (zt rfl (fun h1 => ?_) (fun h1 => ?_))))))))))))
 ·
  have h1 : 1000 < s.size := by have h1 := of_decide_eq_true h1; omega
  refine srx (avx rfl (anx rfl (zo (zd (zm (rs := [.tmp 2, .tmp 3]) (vs := [_, _]) rfl ⟨rfl, rfl, trivial⟩ ?_)))));exact ⟨by unfold prV prE; rw [if_pos h1, if_pos h1]; rfl, (LW.step E XLW).toBelow⟩
 ·
  have h1 : ¬ 1000 < s.size := by have h1 := of_decide_eq_false h1; omega
  refine zn (ze (srx (mvx rfl (za rfl (yh en31 rfl ((cut_any _ s).mono ?_))))));rintro e w1 ⟨rfl, hb⟩;refine ⟨_, rfl, ?_⟩;replace E := blx E hb;refine mvx rfl (za rfl (yj rfl rfl (za rfl (yj rfl rfl (avx rfl (anx rfl (srx (anx rfl (zi ?_)))))))));replace HF := HF.on E;replace LW := LW.step E XLW;replace E := erx (No) w1
  refine qf (ι := Nat) (fun v => [(5, .bool (signed s)), (6, .float .f64 v)]) (fun v w' => Ext (No) w1 w' ∧ (Sgn false v ∧ sgB (signed s) + v = prV s ∧ prE s = 0)) ?_ ?_
  ·
   have M2 := erx (No) w1;have XM2 := grx (No) w1;refine yc (srx (mvx rfl (za rfl (kz rfl rfl (anx rfl (zt rfl (fun h2 => ?_) (fun h2 => ?_)))))))
   ·
    have h2 : yhk s = true := h2;refine zg (za rfl (yh en32 rfl ((rp32_1 _).mono ?_)));rintro e w4 ⟨rfl, hb⟩;refine ⟨_, rfl, ?_⟩;replace E := blx E hb;refine avx rfl (yd (zf ?_));exact yu 9218868437227405312 ⟨rfl, rfl, trivial⟩ ⟨M2.step E XM2, sgn_inf, by unfold prV; rw [if_neg h1, if_pos h2], by unfold prE; rw [if_neg h1, if_pos h2]⟩
   ·
    have h2 : ¬ yhk s = true := by rw [show yhk s = false from h2]; decide
    refine srx (mvx rfl (za rfl (kz rfl rfl (anx rfl (zt rfl (fun h3 => ?_) (fun h3 => ?_))))))
    ·
     have h3 : yhq s = true := h3;refine srx (avx rfl (anx rfl (zo (zj (zd (zm (rs := [.tmp 2, .tmp 3]) (vs := [_, _]) rfl ⟨rfl, rfl, trivial⟩ ?_))))));exact ⟨by unfold prV prE; rw [if_neg h1, if_neg h1, if_neg h2, if_neg h2, if_pos h3, if_pos h3]; rfl, (LW.step E XLW).toBelow⟩
    ·
     have h3 : ¬ yhq s = true := by rw [show yhq s = false from h3]; decide
     refine srx (mvx rfl (za rfl (yh en33 rfl ((numeral_any _ (prX s) (by omega)).mono ?_))));rintro e w5 ⟨rfl, hb⟩;refine ⟨_, rfl, ?_⟩;replace E := blx E hb;refine anx rfl (zt rfl (fun h4 => ?_) (fun h4 => ?_))
     ·
      have hnm := num_nm (Nat.zero_le _) (numB_is h4);refine zg (mvx rfl (za rfl (yh en34 rfl ((parse_pos _ (prX s) hnm (by omega) (HF.on E).here.1.2 ⟨te, pe, (HF.on E).here.2⟩).mono ?_))));rintro e w6 ⟨⟨er, rfl⟩, hb⟩;refine ⟨_, rfl, ?_⟩;replace E := blx E hb
      refine mvx rfl (za rfl (yj rfl rfl (za rfl (yj rfl rfl (avx rfl (yd (zf ?_)))))));exact yu (atV (prX s) 0 false) ⟨rfl, rfl, trivial⟩ ⟨M2.step E XM2, atV_sgn false hnm, by unfold prV; rw [if_neg h1, if_neg h2, if_neg h3, if_pos h4], by unfold prE; rw [if_neg h1, if_neg h2, if_neg h3, if_pos h4]⟩
     ·
      have h4 : ¬ og (prX s) 0 = true := by rw [h4]; decide
      refine srx (avx rfl (anx rfl (zo (zj (zd (zm (rs := [.tmp 2, .tmp 3]) (vs := [_, _]) rfl ⟨rfl, rfl, trivial⟩ ?_))))));exact ⟨by unfold prV prE; rw [if_neg h1, if_neg h1, if_neg h2, if_neg h2, if_neg h3, if_neg h3, if_neg h4, if_neg h4]; rfl, (LW.step E XLW).toBelow⟩
  ·
   rintro v w3 ⟨M2, ⟨hv, hpv, hpe⟩⟩;replace E := E.trans M2;replace LW := LW.step E XLW;replace E := erx (No) w3;refine zi (srx (mvx rfl (rnx (zt rfl (fun h5 => ?_) (fun h5 => ?_)))))
   ·
    refine zg (mvx rfl (za rfl (yh en35 rfl ((copysign_any _ v hv.lt 13830554455654793216 (by decide)).mono ?_))));rintro e w7 ⟨rfl, hb⟩;refine ⟨_, rfl, ?_⟩;replace E := blx E hb
    refine yi 32 (.float .f64 (sgB true + v)) rfl ((by rw [word_signed hv] : (.float .f64 (Ieee.double.word (ng 13830554455654793216) (rg v)) : Value) = _)) (anx rfl (srx (mvx rfl (za rfl (yh en36 rfl ((bare_any _ (sgB true + v)).mono ?_))))));rintro e w8 ⟨rfl, hb⟩;refine ⟨_, rfl, ?_⟩;replace E := blx E hb
    refine avx rfl (anx rfl (zo (zm (rs := [.tmp 2, .tmp 3]) (vs := [_, _]) rfl ⟨rfl, rfl, trivial⟩ ?_)));exact ⟨by rw [yjx hv, ← hpv, hpe, h5]; rfl, (LW.step E XLW).toBelow⟩
   ·
    refine zn (ze (srx (mvx rfl (za rfl (yh en36 rfl ((bare_any _ v).mono ?_))))));rintro e w9 ⟨rfl, hb⟩;refine ⟨_, rfl, ?_⟩;replace E := blx E hb;have hb0 := yjx hv false;rw [show sgB false = 0 from rfl, Nat.zero_add] at hb0;refine avx rfl (anx rfl (zo (zm (rs := [.tmp 2, .tmp 3]) (vs := [_, _]) rfl ⟨rfl, rfl, trivial⟩ ?_)))
    exact ⟨by rw [hb0, ← hpv, hpe, h5, show sgB false = 0 from rfl, Nat.zero_add]; rfl, (LW.step E XLW).toBelow⟩
theorem realparse_any_r (s : ByteArray) (hT : Tabs bp op cp bf of cf bl ol cl w) (hE : ∃ te pe, w.cell? ⟨2, 0, none⟩ = some (.iface te pe)) : Calls Tryz.prog 28 #[.string s] w fun e w' => e = .returned (.tuple #[.int .u64 ((prV s : Nat) : Int), .int .i64 (prE s)]) ∧ Below w.heap.size w w' := by
 have hxs := prX_size s;have hcl := cut1_le s;obtain ⟨te, pe, hE⟩ := hE;refine yn Tryz.func28 rfl Tryz.ntmps28 rfl ?_;have HF : Per (No) w (fun _ => True) := Per.true_;have LW := erx (No) w;have XLW := grx (No) w;have E := erx (No) w;replace HF := HF.on E;replace LW := LW.step E XLW;replace E := erx (No) w;replace HF := HF.and (Per.tabs hT (fun _ h => h.elim));replace HF := HF.on E
 replace LW := LW.step E XLW;replace E := erx (No) w;replace HF := HF.and (Per.cellA hE (fun _ h => h.elim));refine srx (avx rfl (anx rfl (zi (srx (mvx rfl (za rfl (yz Tryz.underlying9 rfl (za rfl (qe rfl rfl (rnx (zt rfl (fun h1 => ?_) (fun h1 => ?_))))))))))))
 ·
  have h1 : 1000 < s.size := by have h1 := of_decide_eq_true h1; omega
  refine srx (avx rfl (anx rfl (zo (zd (zm (rs := [.tmp 2, .tmp 3]) (vs := [_, _]) rfl ⟨rfl, rfl, trivial⟩ ?_)))));exact ⟨by unfold prV prE; rw [if_pos h1, if_pos h1]; rfl, (LW.step E XLW).toBelow⟩
 ·
  have h1 : ¬ 1000 < s.size := by have h1 := of_decide_eq_false h1; omega
  refine zn (ze (srx (anx rfl (srx (anx rfl (zi (zi ?_)))))));replace HF := HF.on E;replace LW := LW.step E XLW;replace E := erx (No) w;refine qf (ι := Unit) (fun _ => [(0, .string s), (4, .int .i64 0), (5, .int .u64 0), (18, .bool (signed s))]) (fun _ w' => Ext (No) w w' ∧ (True)) ?_ ?_
  ·
   have M1 := erx (No) w;have XM1 := grx (No) w;refine zg (mvx rfl (za rfl (yz Tryz.underlying9 rfl (za rfl (qe rfl rfl (mvx rfl (yk 14 rfl (fun h2 => ?_) (fun h2 => ?_))))))))
   ·
    have h2 : 0 < s.size := by have h2 := of_decide_eq_true h2; omega
    refine onx rfl (zv rfl (onx rfl (ym (j := 0) (b := bAt s 0) Tryz.underlying9 rfl rfl rfl (qb h2) (onx rfl (zz rfl rfl (za rfl (zq rfl rfl (yd ?_))))))));by_cases h3 : bAt s 0 = 45
    ·
     refine yt 18 (.bool (signed s)) rfl ((by rw [show signed s = true from decide_eq_true h3, h3]; rfl : (.bool (((bAt s 0 : Nat) : Int) == 45) : Value) = _)) ?_;exact yu () ⟨rfl, rfl, rfl, rfl, trivial⟩ ⟨M1.step E XM1, trivial⟩
    ·
     refine yt 18 (.bool (signed s)) rfl ((by rw [show signed s = false from decide_eq_false h3, vv (by omega)] : (.bool (((bAt s 0 : Nat) : Int) == 45) : Value) = _)) ?_;exact yu () ⟨rfl, rfl, rfl, rfl, trivial⟩ ⟨M1.step E XM1, trivial⟩
   ·
    have h2 : ¬ 0 < s.size := by have h2 := of_decide_eq_false h2; omega
    have h0 := zkx (s := s) (i := 0) (by omega);refine za rfl (zc rfl (za rfl (zc rfl (za rfl (zc rfl (za rfl (zx rfl rfl (yd (yt 18 (.bool (signed s)) rfl ((by rw [show signed s = false from decide_eq_false (by omega)] : (.bool false : Value) = _)) ?_)))))))));exact yu () ⟨rfl, rfl, rfl, rfl, trivial⟩ ⟨M1.step E XM1, trivial⟩
  ·
   rintro _ w2 ⟨M1, _⟩;replace E := E.trans M1;replace HF := HF.on E;replace LW := LW.step E XLW;replace E := erx (No) w2;replace HF := HF.on E;replace LW := LW.step E XLW;replace E := erx (No) w2;refine qf (ι := Unit) (fun _ => [(0, .string s), (4, .int .i64 ((zjv s : Nat) : Int)), (5, .int .u64 ((sgB (signed s) : Nat) : Int))]) (fun _ w' => Ext (No) w2 w' ∧ (True)) ?_ ?_
   ·
    have M3 := erx (No) w2;have XM3 := grx (No) w2;refine zt rfl (fun h2 => ?_) (fun h2 => ?_)
    ·
     have h3 : bAt s 0 = 45 := of_decide_eq_true h2;refine srx (anx rfl (zg (avx rfl (yd (yt 4 (.int .i64 ((zjv s : Nat) : Int)) rfl ((by unfold zjv; rw [if_pos h3]; rfl : (.int .i64 1 : Value) = _)) (yt 5 (.int .u64 ((sgB (signed s) : Nat) : Int)) rfl ((by rw [h2]; rfl : (.int .u64 9223372036854775808 : Value) = _)) ?_))))))
     exact yu () ⟨rfl, rfl, rfl, trivial⟩ ⟨M3.step E XM3, trivial⟩
    ·
     have h3 : ¬ bAt s 0 = 45 := of_decide_eq_false h2;refine zn (yt 4 (.int .i64 ((zjv s : Nat) : Int)) rfl ((by unfold zjv; rw [if_neg h3]; rfl : (.int .i64 0 : Value) = _)) (yt 5 (.int .u64 ((sgB (signed s) : Nat) : Int)) rfl ((by rw [h2]; rfl : (.int .u64 0 : Value) = _)) ?_));exact yu () ⟨rfl, rfl, rfl, trivial⟩ ⟨M3.step E XM3, trivial⟩
   ·
    rintro _ w4 ⟨M3, _⟩;replace E := E.trans M3;replace HF := HF.on E;replace LW := LW.step E XLW;replace E := erx (No) w4;have hsg : sgB (signed s) ≤ 9223372036854775808 := by cases signed s <;> decide
    refine zi (yc (srx (mvx rfl (mvx rfl (za rfl (ve (l := zjv s) (h := s.size) Tryz.underlying9 rfl ⟨_, rfl⟩ rfl hcl (Nat.le_refl _) (za rfl (kz rfl rfl (anx rfl (zt rfl (fun h2 => ?_) (fun h2 => ?_)))))))))))
    ·
     have h2 : yhk s = true := h2
     refine srx (mvx rfl (za rfl (yp rfl rfl (wrap_u64 (by omega)) (avx rfl (anx rfl (zo (zj (zd (yt 2 (.int .u64 ((prV s : Nat) : Int)) rfl ((by unfold prV; rw [if_neg h1, if_pos h2]; congr 1; omega : (.int .u64 (9218868437227405312 + ((sgB (signed s) : Nat) : Int)) : Value) = _)) (zm (rs := [.tmp 2, .tmp 3]) (vs := [_, _]) rfl ⟨rfl, rfl, trivial⟩ ?_))))))))))
     exact ⟨by unfold prE; rw [if_neg h1, if_pos h2]; rfl, (LW.step E XLW).toBelow⟩
    ·
     have h2 : ¬ yhk s = true := by rw [show yhk s = false from h2]; decide
     refine srx (mvx rfl (mvx rfl (za rfl (ve (l := zjv s) (h := s.size) Tryz.underlying9 rfl ⟨_, rfl⟩ rfl hcl (Nat.le_refl _) (za rfl (kz rfl rfl (anx rfl (zt rfl (fun h3 => ?_) (fun h3 => ?_)))))))))
     ·
      have h3 : yhq s = true := h3;refine srx (avx rfl (anx rfl (zo (zj (zd (zm (rs := [.tmp 2, .tmp 3]) (vs := [_, _]) rfl ⟨rfl, rfl, trivial⟩ ?_))))));exact ⟨by unfold prV prE; rw [if_neg h1, if_neg h1, if_neg h2, if_neg h2, if_pos h3, if_pos h3]; rfl, (LW.step E XLW).toBelow⟩
     ·
      have h3 : ¬ yhq s = true := by rw [show yhq s = false from h3]; decide
      refine srx (mvx rfl (mvx rfl (za rfl (yh en38 rfl ((numeral_any_r _ s (zjv s) hcl (by omega)).mono ?_)))));rintro e w5 ⟨rfl, hb⟩;refine ⟨_, rfl, ?_⟩;replace E := blx E hb;refine yi 34 (.bool (og (prX s) 0)) rfl ((by rw [← numB_shift hcl]; rfl : (.bool (og s (zjv s)) : Value) = _)) (anx rfl (zt rfl (fun h4 => ?_) (fun h4 => ?_)))
      ·
       have hnm := num_nm (Nat.zero_le _) (numB_is h4);have hv := (atV_sgn false hnm).tame;refine srx (mvx rfl (mvx rfl (za rfl (ve (l := zjv s) (h := s.size) Tryz.underlying9 rfl ⟨_, rfl⟩ rfl hcl (Nat.le_refl _) (za rfl (yh en34 rfl ((parse_pos _ (prX s) hnm (by omega) (HF.on E).here.1.2 ⟨te, pe, (HF.on E).here.2⟩).mono ?_)))))));rintro e w6 ⟨⟨er, rfl⟩, hb⟩
       refine ⟨_, rfl, ?_⟩;replace E := blx E hb
       refine mvx rfl (za rfl (yj rfl rfl (za rfl (yj rfl rfl (avx rfl (anx rfl (srx (mvx rfl (za rfl (ykv ex39 rfl (mvx rfl (za rfl (yp rfl rfl (wrap_u64 (by omega)) (avx rfl (anx rfl (zo (zj (zd (yt 2 (.int .u64 ((prV s : Nat) : Int)) rfl ((by unfold prV; rw [if_neg h1, if_neg h2, if_neg h3, if_pos h4]; congr 1; omega : (.int .u64 ((((atV (prX s) 0 false) : Nat) : Int) + ((sgB (signed s) : Nat) : Int)) : Value) = _)) (zm (rs := [.tmp 2, .tmp 3]) (vs := [_, _]) rfl ⟨rfl, rfl, trivial⟩ ?_))))))))))))))))))))
       exact ⟨by unfold prE; rw [if_neg h1, if_neg h2, if_neg h3, if_pos h4]; rfl, (LW.step E XLW).toBelow⟩
      ·
       have h4 : ¬ og (prX s) 0 = true := by rw [h4]; decide
       refine zn (zf (ze (srx (avx rfl (anx rfl (zo (zm (rs := [.tmp 2, .tmp 3]) (vs := [_, _]) rfl ⟨rfl, rfl, trivial⟩ ?_)))))));exact ⟨by unfold prV prE; rw [if_neg h1, if_neg h1, if_neg h2, if_neg h2, if_neg h3, if_neg h3, if_neg h4, if_neg h4]; rfl, (LW.step E XLW).toBelow⟩
end
end Go.Proofs.YtmjemknimipnjaaGreatDoor
namespace Go.Proofs.YtmjemknimipnjaaGreatDoor
open Go.RowKit
def ThreeB (w : World) (n1 n2 : Bool) (A B : Option Addr) (c d : Nat) (xs ys : List Nat) (b : World) : Prop :=
 Two w n1 n2 A B c d xs ys b ∧ (b.cell? ⟨w.heap.size + 1 + 1, 0, none⟩ = some (.bool false) ∧ b.cell? ⟨w.heap.size + 1 + 1, 1, none⟩ = some (.slice none 0 0) ∧ b.frozen? ⟨w.heap.size + 1 + 1, 0, none⟩ = false ∧ b.frozen? ⟨w.heap.size + 1 + 1, 1, none⟩ = false)
def threeB (w : World) (n1 n2 : Bool) (A B : Option Addr) (c d : Nat) (xs ys : List Nat) : World := (two w n1 n2 A B c d xs ys).alloc (.cells #[.bool false, .slice none 0 0] 61)
section
variable (n1 n2 : Bool) (A B : Option Addr) (c d : Nat) (xs ys : List Nat) (w : World)
set_option maxRecDepth 100000
end
section
variable {i j : Int} (A B : Option Addr) (c d : Nat) (w : World) (hi : i.natAbs < B18 ^ 30) (hj : j.natAbs < B18 ^ 30) (hx : Nums w A (limbs i)) (hy : Nums w B (limbs j))
include hi
include hx
include hj hy
end
set_option maxRecDepth 100000
theorem jk {W w' : World} {f : Int} (hb : Below W.heap.size W w') : kp W 0 f (.returned (.tuple #[.agg #[.bool false, .slice none 0 0], .int .i64 f])) w' :=
 ⟨none, 0, by rw [ziv]; rfl, by rw [ziv]; exact Own.nil _ _, hb⟩
theorem xc {w : World} {base c g : Nat} {A : Option Addr} {xs : List Nat} {t : TypeId} {cs : Array Value} (h : Own w base A c xs) (hb : Blk w g t cs) (ht : 64 ≠ t) : Apart (Value.slice A xs.length c).ownBlock (some g) :=
 fun k e f => own_blk_ne h.1 hb ht (e.trans f.symm)
theorem Per.ownN {l : List (Option Nat)} {w : World} {base c : Nat} {A : Option Addr} {xs : List Nat} (h : Own w base A c xs) (hn : NotIn (Value.slice A xs.length c).ownBlock l) : Per (Mut l) w (fun b => Own b base A c xs) :=
 fun _ hb => ⟨vi h.1 hb hn, h.2⟩
section
variable (n1 n2 : Bool) (A B : Option Addr) (c d : Nat) (xs ys : List Nat) (w : World)
end
section
variable (i j : Int) (A B : Option Addr) (c d : Nat) (w : World) (hi : i.natAbs < B18 ^ 30) (hj : j.natAbs < B18 ^ 30) (hx : Nums w A (limbs i)) (hy : Nums w B (limbs j))
include hi hj hx hy
end
/-! ### what stands in the limbs -/
section
variable (i j : Int) (A B : Option Addr) (c d : Nat) (w : World) (hi : i.natAbs < B18 ^ 30) (hj : j.natAbs < B18 ^ 30) (hx : Nums w A (limbs i)) (hy : Nums w B (limbs j))
include hi hj hx hy
end
def RetNumE (W : World) (A0 : Option Addr) (xs0 : List Nat) (v f : Int) (e : Ending) (w' : World) : Prop := ∃ A c, e = .returned (.tuple #[.agg #[.bool (decide (v < 0)), .slice A (tens v).length c], .int .i64 f]) ∧ Nums8 w' A (tens v) ∧ ((∀ q, A = some q → W.heap.size ≤ q.block) ∨ (A = A0 ∧ tens v = xs0)) ∧ Below W.heap.size W w'
section
variable (i j : Int) (A B : Option Addr) (c d : Nat) (w : World) (hi : i.natAbs < B18 ^ 30) (hj : j.natAbs < B18 ^ 30) (hx : Nums8 w A (tens i)) (hy : Nums8 w B (tens j))
include hi hj hx hy
end
end Go.Proofs.YtmjemknimipnjaaGreatDoor

/- Texts of this claim. -/
import Derived.Test.YtjdcjdohghkcgaaGreatDoorX16
namespace Go.Proofs.YtjdcjdohghkcgaaGreatDoor
open Go.RowKit
set_option maxRecDepth 100000
attribute [local irreducible] OW RS
theorem shrD_one {t : Dec} {k : Nat} (h : k ≤ 60) : shrD t k = ju t k := by
 unfold shrD shA;rw [qn (done := zsk) (step := ycv) (s := ⟨t, k⟩) (decide_eq_true h)]
theorem mul10w (n : Nat) : IntKind.u64.wrap (((n : Nat) : Int) * 10) = ((n * 10 % 18446744073709551616 : Nat) : Int) := by
 have e : ((n : Nat) : Int) * 10 = ((n * 10 : Nat) : Int) := by omega
 rw [e]; exact zrz _
theorem addw (n m : Nat) : IntKind.u64.wrap (((n : Nat) : Int) + ((m : Nat) : Int)) = (((n + m) % 18446744073709551616 : Nat) : Int) := by
 have e : ((n : Nat) : Int) + ((m : Nat) : Int) = ((n + m : Nat) : Int) := by omega
 rw [e]; exact zrz _
theorem par_ne (c : Nat) : ((.bool (((c : Nat) : Int) % 2 != 0)) : Value) = .bool (decide (c % 2 ≠ 0)) := by
 congr 1
 by_cases h : c % 2 = 0
 · rw [decide_eq_false (fun e => e h), show ((c : Nat) : Int) % 2 = 0 by omega]; rfl
 · rw [decide_eq_true h]; exact bne_iff_ne.2 (by omega)
section
variable (w : World) {bp op cp bf of cf bl ol cl : Nat}
theorem shiftL_any (ga k : Nat) (t : Dec) (hk : Shl k) (ht : DecI t) (h0 : 0 < t.nd) (hdp : -20000000 ≤ t.dp ∧ t.dp ≤ 20000000) (hB : Blk w ga 193 (yy t)) (hT : Tabs bp op cp bf of cf bl ol cl w) (hg : TabsB bp bf bl ga) :
 Calls Tryz.prog 162 #[.pointer (some ⟨ga, 0, none⟩), .int .i64 ((k : Nat) : Int)] w fun e w' => e = .returned (.tuple #[]) ∧ Blk w' ga 193 (yy (vp t k)) ∧ Ext (Mut [some ga]) w w' := by
 have hl := ht.len;have hk60 := (shl_ok hk).k1;refine zo Tryz.func162 rfl Tryz.ntmps162 rfl ?_;have Ba := hB;have HF : Per (Mut [(some ga)]) w (fun _ => True) := Per.true_;have LW := erx (Mut [(some ga)]) w;have XLW := grx (Mut [(some ga)]) w;have E := erx (Mut [(some ga)]) w;replace HF := HF.on E;replace LW := LW.step E XLW;replace E := erx (Mut [(some ga)]) w
 replace HF := HF.and (Per.tabsB hT hg (fun q h => h.elim (fun e => Nat.le_of_eq (Option.some.inj e).symm) (fun e => e.elim)))
 refine zw (srx (mvx rfl (za rfl (zk rfl (za rfl (ze Tryz.underlying193 rfl sz3 (by decide) rfl (za rfl (zy Tryz.underlying3 rfl rfl Ba (oi hl t.nd rfl) (za rfl (zx rfl rfl (anx rfl (yc 4 (.bool false) rfl ((by rw [jq (by omega)] : (.bool (((t.nd : Nat) : Int) == 0) : Value) = _)) (zj rfl (srx (mvx rfl (za rfl (qh rfl rfl (anx rfl (yc 10 (.bool true) rfl ((by rw [decide_eq_true (by omega)] : (.bool (decide (0 < ((k : Nat) : Int))) : Value) = _)) (zz rfl (zb (zw (kf (zb (srx (mvx rfl (za rfl (qh rfl rfl (rnx (yc 14 (.bool false) rfl ((by rw [decide_eq_false (by omega)] : (.bool (decide (60 < ((k : Nat) : Int))) : Value) = _)) (zj rfl (yr (zn (zn (ya (zc (zh ?_)))))))))))))))))))))))))))))))))))))
 refine mvx rfl (mvx rfl (za rfl (yx Tryz.underlying144 Tryz.underlying3 rfl (wrap_u64 (by omega)) (za rfl (zg en203 rfl ((left_any _ ga k t hk ht h0 hdp Ba (HF.on E).here.2 hg).mono ?_))))));rintro e w1 ⟨rfl, hB, hE⟩;refine ⟨_, rfl, ?_⟩;replace Ba := hB;clear hB;replace E := E.step1 hE Mut.head;clear hE;refine yg (zl (zuv rfl ?_))
 exact ⟨rfl, Ba, (LW.step E XLW)⟩
theorem shiftR_any (ga k : Nat) (t : Dec) (h : ShI ⟨t, k⟩) (hB : Blk w ga 193 (yy t)) :
 Calls Tryz.prog 162 #[.pointer (some ⟨ga, 0, none⟩), .int .i64 (-((k : Nat) : Int))] w fun e w' => e = .returned (.tuple #[]) ∧ Blk w' ga 193 (yy (shrD t k)) ∧ Ext (Mut [some ga]) w w' := by
 have hl : t.d.length = 800 := h.dec.len;have h0 : 0 < t.nd := h.pos;have hk1 : 1 ≤ k ∧ k ≤ 300000 := h.k1;refine zo Tryz.func162 rfl Tryz.ntmps162 rfl ?_;have Ba := hB;have LW := erx (Mut [(some ga)]) w;have XLW := grx (Mut [(some ga)]) w;have E := erx (Mut [(some ga)]) w
 refine zw (srx (mvx rfl (za rfl (zk rfl (za rfl (ze Tryz.underlying193 rfl sz3 (by decide) rfl (za rfl (zy Tryz.underlying3 rfl rfl Ba (oi hl t.nd rfl) (za rfl (zx rfl rfl (anx rfl (yc 4 (.bool false) rfl ((by rw [jq (by omega)] : (.bool (((t.nd : Nat) : Int) == 0) : Value) = _)) (zj rfl (srx (mvx rfl (za rfl (qh rfl rfl (anx rfl (yc 10 (.bool false) rfl ((by rw [decide_eq_false (by omega)] : (.bool (decide (0 < (-((k : Nat) : Int)))) : Value) = _)) (zj rfl (srx (mvx rfl (za rfl (yp rfl rfl (anx rfl (yc 23 (.bool true) rfl ((by rw [decide_eq_true (by omega)] : (.bool (decide ((-((k : Nat) : Int)) < 0)) : Value) = _)) (zz rfl (zb ?_))))))))))))))))))))))))))))
 replace LW := LW.step E XLW;replace E := erx (Mut [(some ga)]) w;refine qk (ι := ShS) (fun s => [(0, .pointer (some ⟨ga, 0, none⟩)), (1, .int .i64 (-((s.k : Nat) : Int)))]) (fun s w' => Ext (Mut [(some ga)]) w w' ∧ Blk w' ga 193 (yy s.t) ∧ (s = shA t k)) ?_ ?_
 ·
  have M1 := erx (Mut [(some ga)]) w;have XM1 := grx (Mut [(some ga)]) w;refine zw ?_;replace M1 := M1.step E XM1;replace E := erx (Mut [(some ga)]) w
  refine jo (ι := ShS) (fun s => [(0, .pointer (some ⟨ga, 0, none⟩)), (1, .int .i64 (-((s.k : Nat) : Int)))]) (fun s w' => Ext (Mut [(some ga)]) w w' ∧ Blk w' ga 193 (yy s.t) ∧ (ShI s ∧ vb zsk ycv s = shA t k)) (fun s => s.k) (⟨t, k⟩) ⟨rfl, rfl, trivial⟩ ⟨Ext.refl _ _, (by exact Ba), h, rfl⟩ ?_;have LTa := (yf Ba.lt);clear Ba;rintro s w4 ⟨M3, Ba, ⟨hI, hu⟩⟩
  have XM3 : Gro (Mut [(some ga)]) (Mut [(some ga)]) w := (Mut.grow Mut.none_ (fun k e => Or.inl (Mut.head k e)));replace E := E.trans M3;replace M1 := M1.step E XM1;replace E := erx (Mut [(some ga)]) w4;have hk2 := hI.k1;have hdp2 := hI.dp;refine zb (srx (mvx rfl (za rfl (yp rfl rfl (rnx (yh rfl (fun h1 => ?_) (fun h1 => ?_)))))))
  ·
   have h1 : 60 < s.k := by have h1 := of_decide_eq_true h1; omega
   have hdone : zsk s = false := decide_eq_false (by omega);obtain ⟨hkeep, hlt⟩ := sh_keeps hI hdone;have hst : ycv s = ⟨ju s.t 60, s.k - 60⟩ := rfl;rw [vk hdone] at hu;rw [hst] at hu hkeep;refine zf (zc (zw (srx (mvx rfl (za rfl (zg en204 rfl ((right_any _ ga 60 s.t (by decide) hI.dec hI.pos (by omega) Ba).mono ?_)))))));rintro e w5 ⟨rfl, hB, hE⟩
   refine ⟨_, rfl, ?_⟩;replace Ba := hB;clear hB;replace E := E.step1 hE Mut.head;clear hE;refine rnx (zh (mvx rfl (za rfl (yb rfl rfl (zp (by omega)) (avx rfl (yg (zl (yw 1 (.int .i64 (-((s.k - 60 : Nat) : Int))) rfl ((by congr 1; omega : (.int .i64 ((-((s.k : Nat) : Int)) + 60) : Value) = _)) ?_))))))))
   exact yt (⟨ju s.t 60, s.k - 60⟩) (by show s.k - 60 < s.k; omega) ⟨rfl, rfl, trivial⟩ ⟨M3.step E XM3, (by exact Ba), hkeep, hu⟩
  ·
   have h1 : s.k ≤ 60 := by have h1 := of_decide_eq_false h1; omega
   have hdone : zsk s = true := decide_eq_true h1;rw [qn hdone] at hu;refine yr (zn (zn (ya ?_)));exact yq s ⟨rfl, rfl, trivial⟩ ⟨M1.step E XM1, (by exact Ba), hu⟩
 ·
  have LTa := (yf Ba.lt);clear Ba;rintro s w2 ⟨M1, Ba, hs⟩;replace E := E.trans M1;replace LW := LW.step E XLW;replace E := erx (Mut [(some ga)]) w2;obtain ⟨hE0, hd0⟩ := sh_ends h;rw [← hs] at hE0 hd0;have hd0 : s.k ≤ 60 := of_decide_eq_true hd0;have hk2 := hE0.k1;have hdp2 := hE0.dp
  refine zh (mvx rfl (mvx rfl (za rfl (xi rfl (zp (by omega)) (za rfl (yx Tryz.underlying144 Tryz.underlying3 rfl (wrap_u64 (by omega)) (zv 35 (.int .u64 ((s.k : Nat) : Int)) rfl ((by congr 1; omega : (.int .u64 (0 - (-((s.k : Nat) : Int))) : Value) = _)) (za rfl (zg en204 rfl ((right_any _ ga s.k s.t (by omega) hE0.dec hE0.pos (by omega) Ba).mono ?_))))))))))
  rintro e w6 ⟨rfl, hB, hE⟩;refine ⟨_, rfl, ?_⟩;replace Ba := hB;clear hB;replace E := E.step1 hE Mut.head;clear hE;refine yg (zl (zuv rfl ?_));exact ⟨rfl, by unfold shrD; rw [← hs]; exact Ba, (LW.step E XLW)⟩
theorem rup_any (ga : Nat) (t : Dec) (p : Int) (ht : DecI t) (hp : -20000000 ≤ p ∧ p ≤ 20000000) (hB : Blk w ga 193 (yy t)) :
 Calls Tryz.prog 205 #[.pointer (some ⟨ga, 0, none⟩), .int .i64 p] w fun e w' => e = .returned (.bool (rup t p)) ∧ Below w.heap.size w w' := by
 have hl := ht.len;have hnd := ht.hn;refine zo Tryz.func205 rfl Tryz.ntmps205 rfl ?_;have HF : Per (No) w (fun _ => True) := Per.true_;have LW := erx (No) w;have XLW := grx (No) w;have E := erx (No) w;replace HF := HF.on E;replace LW := LW.step E XLW;replace E := erx (No) w;replace HF := HF.and (Per.blk hB (fun h => h.elim))
 refine srx (anx rfl (zb (srx (mvx rfl (za rfl (yp rfl rfl (mvx rfl (gk 7 rfl (fun h1 => ?_) (fun h1 => ?_)))))))))
 ·
  have h1 := of_decide_eq_true h1;have e : rup t p = false := by unfold rup; rw [if_pos (.inl h1)]
  refine za rfl (zu rfl (za rfl (zu rfl (za rfl (zu rfl (za rfl (zu rfl (za rfl (zu rfl (za rfl (zu rfl (za rfl (yk rfl rfl (rnx (zz rfl (srx (anx rfl (zt (zq (zr (rs := [.tmp 4]) (vs := [_]) rfl ⟨rfl, trivial⟩ ?_))))))))))))))))))));exact ⟨by rw [e]; rfl, (LW.step E XLW).toBelow⟩
 ·
  have h1 := of_decide_eq_false h1;refine onx rfl (zi rfl (onx rfl (zi rfl (onx rfl (zk rfl (onx rfl (ze Tryz.underlying193 rfl sz3 (by decide) rfl (onx rfl (zy Tryz.underlying3 rfl rfl (HF.on E).here.2 (oi hl t.nd rfl) (onx rfl (qz rfl rfl (za rfl (yi rfl rfl (rnx (yh rfl (fun h2 => ?_) (fun h2 => ?_))))))))))))))))
  ·
   have h2 := of_decide_eq_true h2;have e : rup t p = false := by unfold rup; rw [if_pos (.inr h2)]
   refine srx (anx rfl (zt (zq (zr (rs := [.tmp 4]) (vs := [_]) rfl ⟨rfl, trivial⟩ ?_))));exact ⟨by rw [e]; rfl, (LW.step E XLW).toBelow⟩
  ·
   have h2 := of_decide_eq_false h2;have hno : ¬ (p < 0 ∨ ((t.nd : Nat) : Int) ≤ p) := by omega
   have hg := ht.dig p.toNat (by omega)
   refine zf (zc (zb (srx (mvx rfl (mvx rfl (za rfl (zk rfl (za rfl (ze Tryz.underlying193 rfl zax (by decide) rfl (za rfl (qx (j := p.toNat) Tryz.underlying191 sz5 rfl rfl (by omega) (by omega) (za rfl (zy Tryz.underlying5 rfl rfl (HF.on E).here.2 (dAt hl (dg t.d (p.toNat)) (p.toNat) rfl (by omega)) (za rfl (zx rfl rfl (mvx rfl (gk 22 rfl (fun h3 => ?_) (fun h3 => ?_))))))))))))))))))
   ·
    have h3 : dg t.d p.toNat = 53 := by have h3 := eq_of_beq h3; omega
    refine onx rfl (zi rfl (onx rfl (yb rfl rfl (zp (by omega)) (onx rfl (zi rfl (onx rfl (zk rfl (onx rfl (ze Tryz.underlying193 rfl sz3 (by decide) rfl (onx rfl (zy Tryz.underlying3 rfl rfl (HF.on E).here.2 (oi hl t.nd rfl) (onx rfl (zx rfl rfl (za rfl (yk rfl rfl (rnx (yh rfl (fun h4 => ?_) (fun h4 => ?_))))))))))))))))))
    ·
     have h4 : p + 1 = ((t.nd : Nat) : Int) := eq_of_beq h4;have e0 : rup t p = (if t.tr then true else if 0 < p then decide ((dg t.d (p.toNat - 1) - 48) % 2 ≠ 0) else false) := by unfold rup; rw [if_neg hno, if_pos ⟨h3, h4⟩]
     refine zb (srx (mvx rfl (za rfl (zk rfl (za rfl (ze Tryz.underlying193 rfl sz4 (by decide) rfl (za rfl (zy Tryz.underlying4 rfl rfl (HF.on E).here.2 (trAt hl t.tr rfl) (rnx (yh rfl (fun h5 => ?_) (fun h5 => ?_)))))))))))
     ·
      have e : rup t p = true := by rw [e0, if_pos h5]
      refine srx (anx rfl (zt (zq (zq (zr (rs := [.tmp 4]) (vs := [_]) rfl ⟨rfl, trivial⟩ ?_)))));exact ⟨by rw [e]; rfl, (LW.step E XLW).toBelow⟩
     ·
      refine zf (zc (srx (mvx rfl (za rfl (qh rfl rfl (mvx rfl (gk 37 rfl (fun h6 => ?_) (fun h6 => ?_))))))))
      ·
       have h6 := of_decide_eq_true h6;have hg2 := ht.dig (p.toNat - 1) (by omega);have e : rup t p = decide ((dg t.d (p.toNat - 1) - 48) % 2 ≠ 0) := by rw [e0, if_neg (by rw [h5]; decide), if_pos h6]
       refine onx rfl (zi rfl (onx rfl (zi rfl (onx rfl (yd rfl rfl (zp (by omega)) (onx rfl (zk rfl (onx rfl (ze Tryz.underlying193 rfl zax (by decide) rfl (onx rfl (qx (j := p.toNat - 1) Tryz.underlying191 sz5 rfl rfl (by omega) (by omega) (onx rfl (zy Tryz.underlying5 rfl rfl (HF.on E).here.2 (dAt hl (dg t.d (p.toNat - 1)) (p.toNat - 1) rfl (by omega)) (onx rfl (yd rfl rfl (zcq (by omega)) (zv 45 (.int .u8 ((dg t.d (p.toNat - 1) - 48 : Nat) : Int)) rfl ((by congr 1; omega : (.int .u8 (((dg t.d (p.toNat - 1) : Nat) : Int) - 48) : Value) = _)) (onx rfl (xw rfl rfl (by decide) (Int.tmod_eq_emod_of_nonneg (by omega)) (onx rfl (vw rfl rfl (za rfl (yk rfl rfl (anx rfl (zt (zq (yw 4 (.bool (decide ((dg t.d (p.toNat - 1) - 48) % 2 ≠ 0))) rfl (par_ne _) (zr (rs := [.tmp 4]) (vs := [_]) rfl ⟨rfl, trivial⟩ ?_)))))))))))))))))))))))))))
       exact ⟨by rw [e]; rfl, (LW.step E XLW).toBelow⟩
      ·
       have h6 := of_decide_eq_false h6;have e : rup t p = false := by rw [e0, if_neg (by rw [h5]; decide), if_neg h6]
       refine za rfl (zu rfl (za rfl (zu rfl (za rfl (zu rfl (za rfl (zu rfl (za rfl (zu rfl (za rfl (zu rfl (za rfl (zu rfl (za rfl (zu rfl (za rfl (zu rfl (za rfl (zu rfl (za rfl (yi rfl rfl (anx rfl (zt (zq (zr (rs := [.tmp 4]) (vs := [_]) rfl ⟨rfl, trivial⟩ ?_)))))))))))))))))))))))))
       exact ⟨by rw [e]; rfl, (LW.step E XLW).toBelow⟩
    ·
     have h4 : ¬ p + 1 = ((t.nd : Nat) : Int) := fun e => absurd h4 (by rw [e]; simp);have e : rup t p = decide (53 ≤ dg t.d p.toNat) := by unfold rup; rw [if_neg hno, if_neg (fun h => h4 h.2)]
     refine zf (zc (srx (mvx rfl (mvx rfl (za rfl (zk rfl (za rfl (ze Tryz.underlying193 rfl zax (by decide) rfl (za rfl (qx (j := p.toNat) Tryz.underlying191 sz5 rfl rfl (by omega) (by omega) (za rfl (zy Tryz.underlying5 rfl rfl (HF.on E).here.2 (dAt hl (dg t.d (p.toNat)) (p.toNat) rfl (by omega)) (za rfl (qz rfl rfl (anx rfl (zt (yw 4 (.bool (decide (53 ≤ dg t.d p.toNat))) rfl (kg (by omega)) (zr (rs := [.tmp 4]) (vs := [_]) rfl ⟨rfl, trivial⟩ ?_))))))))))))))))))
     exact ⟨by rw [e]; rfl, (LW.step E XLW).toBelow⟩
   ·
    have h3 : ¬ dg t.d p.toNat = 53 := fun e => absurd h3 (by rw [e]; decide);have e : rup t p = decide (53 ≤ dg t.d p.toNat) := by unfold rup; rw [if_neg hno, if_neg (fun h => h3 h.1)]
    refine za rfl (zu rfl (za rfl (zu rfl (za rfl (zu rfl (za rfl (zu rfl (za rfl (zu rfl (za rfl (zu rfl (za rfl (zu rfl (za rfl (yi rfl rfl (rnx (zj rfl (zf (zc (srx (mvx rfl (mvx rfl (za rfl (zk rfl (za rfl (ze Tryz.underlying193 rfl zax (by decide) rfl (za rfl (qx (j := p.toNat) Tryz.underlying191 sz5 rfl rfl (by omega) (by omega) (za rfl (zy Tryz.underlying5 rfl rfl (HF.on E).here.2 (dAt hl (dg t.d (p.toNat)) (p.toNat) rfl (by omega)) (za rfl (qz rfl rfl (anx rfl (zt (yw 4 (.bool (decide (53 ≤ dg t.d p.toNat))) rfl (kg (by omega)) (zr (rs := [.tmp 4]) (vs := [_]) rfl ⟨rfl, trivial⟩ ?_))))))))))))))))))))))))))))))))))))
    exact ⟨by rw [e]; rfl, (LW.step E XLW).toBelow⟩
theorem rinteger_any (ga : Nat) (t : Dec) (ht : DecI t) (hp : -20000000 ≤ t.dp ∧ t.dp ≤ 20000000) (hB : Blk w ga 193 (yy t)) :
 Calls Tryz.prog 216 #[.pointer (some ⟨ga, 0, none⟩)] w fun e w' => e = .returned (.int .u64 ((xh t : Nat) : Int)) ∧ Below w.heap.size w w' := by
 have hl := ht.len;have hnd := ht.hn;refine zo Tryz.func216 rfl Tryz.ntmps216 rfl ?_;have HF : Per (No) w (fun _ => True) := Per.true_;have LW := erx (No) w;have XLW := grx (No) w;have E := erx (No) w;replace HF := HF.on E;replace LW := LW.step E XLW;replace E := erx (No) w;replace HF := HF.and (Per.blk hB (fun h => h.elim))
 refine srx (anx rfl (zb (srx (mvx rfl (za rfl (zk rfl (za rfl (ze Tryz.underlying193 rfl sz3 (by decide) rfl (za rfl (zy Tryz.underlying3 rfl rfl (HF.on E).here.2 (zvx hl t.dp rfl) (za rfl (qh rfl rfl (rnx (yh rfl (fun h1 => ?_) (fun h1 => ?_)))))))))))))))
 ·
  have h1 := of_decide_eq_true h1;have e : xh t = 18446744073709551615 := by unfold xh; rw [if_pos h1]
  refine srx (anx rfl (zt (zq (zr (rs := [.tmp 2]) (vs := [_]) rfl ⟨rfl, trivial⟩ ?_))));exact ⟨by rw [e]; rfl, (LW.step E XLW).toBelow⟩
 ·
  have h1 := of_decide_eq_false h1;have hp20 : t.dp ≤ 20 := by omega
  refine zf (zc (srx (anx rfl (srx (anx rfl (zb (srx (anx rfl ?_))))))));replace HF := HF.on E;replace LW := LW.step E XLW;replace E := erx (No) w;refine qk (ι := RsS) (fun s => [(0, .pointer (some ⟨ga, 0, none⟩)), (3, .int .i64 ((s.r : Nat) : Int)), (4, .int .u64 ((s.n : Nat) : Int))]) (fun s w' => Ext (No) w w' ∧ (s = riA t)) ?_ ?_
  ·
   have M1 := erx (No) w;have XM1 := grx (No) w;refine zw ?_;replace HF := HF.on E;replace M1 := M1.step E XM1;replace E := erx (No) w
   refine jo (ι := RsS) (fun s => [(0, .pointer (some ⟨ga, 0, none⟩)), (3, .int .i64 ((s.r : Nat) : Int)), (4, .int .u64 ((s.n : Nat) : Int))]) (fun s w' => Ext (No) w w' ∧ (RiI s ∧ vb (zxx t) (ygk t) s = riA t)) (fun s => 20 - s.r) (⟨0, 0⟩) ⟨rfl, rfl, rfl, trivial⟩ ⟨Ext.refl _ _, ⟨Nat.zero_le _, by decide⟩, rfl⟩ ?_;rintro s w4 ⟨M3, ⟨hI, hu⟩⟩;have XM3 := grx (No) w
   replace E := E.trans M3;replace HF := HF.on E;replace M1 := M1.step E XM1;replace E := erx (No) w4;have hr := hI.hr;have hn := hI.hn
   refine zb (srx (mvx rfl (mvx rfl (za rfl (zk rfl (za rfl (ze Tryz.underlying193 rfl sz3 (by decide) rfl (za rfl (zy Tryz.underlying3 rfl rfl (HF.on E).here.2 (zvx hl t.dp rfl) (za rfl (yp rfl rfl (mvx rfl (gk 16 rfl (fun h2 => ?_) (fun h2 => ?_))))))))))))))
   ·
    have h2 := of_decide_eq_true h2;refine onx rfl (zi rfl (onx rfl (zi rfl (onx rfl (zk rfl (onx rfl (ze Tryz.underlying193 rfl sz3 (by decide) rfl (onx rfl (zy Tryz.underlying3 rfl rfl (HF.on E).here.2 (oi hl t.nd rfl) (onx rfl (yp rfl rfl (za rfl (yk rfl rfl (rnx (yh rfl (fun h3 => ?_) (fun h3 => ?_))))))))))))))))
    ·
     have h3 := of_decide_eq_true h3;have hdone : zxx t s = false := decide_eq_false (fun h => h ⟨h2, by omega⟩);have hkeep := yok hp20 hI hdone;have hst : ygk t s = ⟨s.r + 1, (s.n * 10 % 18446744073709551616 + (dg t.d s.r - 48)) % 18446744073709551616⟩ := rfl;have hg := ht.dig s.r (by omega);rw [vk hdone] at hu;rw [hst] at hu hkeep;have hk1 := hkeep.hr
     have hk1 : s.r + 1 ≤ 20 := hk1
     refine zf (zc (zb (zw (zh (mvx rfl (za rfl (qg rfl rfl (mul10w s.n) (mvx rfl (mvx rfl (za rfl (zk rfl (za rfl (ze Tryz.underlying193 rfl zax (by decide) rfl (za rfl (qx (j := s.r) Tryz.underlying191 sz5 rfl rfl (by omega) (by omega) (za rfl (zy Tryz.underlying5 rfl rfl (HF.on E).here.2 (dAt hl (dg t.d (s.r)) (s.r) rfl (by omega)) (za rfl (yd rfl rfl (zcq (by omega)) (za rfl (yx Tryz.underlying32 Tryz.underlying5 rfl (wrap_u64 (by omega)) (zv 35 (.int .u64 ((dg t.d s.r - 48 : Nat) : Int)) rfl ((by congr 1; omega : (.int .u64 (((dg t.d (s.r) : Nat) : Int) - 48) : Value) = _)) (za rfl (yb rfl rfl (addw _ _) (avx rfl (yg (zl (zc (zh (mvx rfl (za rfl (yb rfl rfl (zp (by omega)) (avx rfl (yg ?_))))))))))))))))))))))))))))))))))
     exact yt (⟨s.r + 1, (s.n * 10 % 18446744073709551616 + (dg t.d s.r - 48)) % 18446744073709551616⟩) (by show 20 - (s.r + 1) < 20 - s.r; omega) ⟨rfl, rfl, rfl, trivial⟩ ⟨M3.step E XM3, hkeep, hu⟩
    ·
     have h3 := of_decide_eq_false h3;have hdone : zxx t s = true := decide_eq_true (by omega);rw [qn hdone] at hu;refine yr (zn (zn (ya ?_)));exact yq s ⟨rfl, rfl, rfl, trivial⟩ ⟨M1.step E XM1, hu⟩
   ·
    have h2 := of_decide_eq_false h2;have hdone : zxx t s = true := decide_eq_true (by omega);rw [qn hdone] at hu;refine za rfl (zu rfl (za rfl (zu rfl (za rfl (zu rfl (za rfl (zu rfl (za rfl (zu rfl (za rfl (zu rfl (za rfl (yi rfl rfl (rnx (zj rfl (yr (zn (zn (ya ?_)))))))))))))))))))
    exact yq s ⟨rfl, rfl, rfl, trivial⟩ ⟨M1.step E XM1, hu⟩
  ·
   rintro s w2 ⟨M1, hs⟩;replace E := E.trans M1;replace HF := HF.on E;replace LW := LW.step E XLW;replace E := erx (No) w2;have hA := riA_ends hp20;refine zb ?_;replace HF := HF.on E;replace LW := LW.step E XLW;replace E := erx (No) w2
   refine qk (ι := RsS) (fun x => [(0, .pointer (some ⟨ga, 0, none⟩)), (4, .int .u64 ((x.n : Nat) : Int))]) (fun x w' => Ext (No) w2 w' ∧ (x = riB t)) ?_ ?_
   ·
    have M5 := erx (No) w2;have XM5 := grx (No) w2;refine zw ?_;replace HF := HF.on E;replace M5 := M5.step E XM5;replace E := erx (No) w2
    refine jo (ι := RsS) (fun x => [(0, .pointer (some ⟨ga, 0, none⟩)), (3, .int .i64 ((x.r : Nat) : Int)), (4, .int .u64 ((x.n : Nat) : Int))]) (fun x w' => Ext (No) w2 w' ∧ (RiI x ∧ vb (ygv t) ygq x = riB t)) (fun x => 20 - x.r) s ⟨rfl, rfl, rfl, trivial⟩ ⟨Ext.refl _ _, by rw [hs]; exact hA, by rw [hs]; rfl⟩ ?_;rintro x w8 ⟨M7, ⟨hI, hu⟩⟩;have XM7 := grx (No) w2
    replace E := E.trans M7;replace HF := HF.on E;replace M5 := M5.step E XM5;replace E := erx (No) w8;have hr := hI.hr;have hn := hI.hn
    refine zb (srx (mvx rfl (mvx rfl (za rfl (zk rfl (za rfl (ze Tryz.underlying193 rfl sz3 (by decide) rfl (za rfl (zy Tryz.underlying3 rfl rfl (HF.on E).here.2 (zvx hl t.dp rfl) (za rfl (yp rfl rfl (rnx (yh rfl (fun h2 => ?_) (fun h2 => ?_))))))))))))))
    ·
     have h2 := of_decide_eq_true h2;have hdone : ygv t x = false := decide_eq_false (fun h => h h2);have hkeep := yoq hp20 hI hdone;have hst : ygq x = ⟨x.r + 1, x.n * 10 % 18446744073709551616⟩ := rfl;rw [vk hdone] at hu;rw [hst] at hu hkeep;have hk1 : x.r + 1 ≤ 20 := hkeep.hr
     refine zf (zc (zb (zw (zh (mvx rfl (za rfl (qg rfl rfl (mul10w x.n) (avx rfl (yg (zl (zc (zh (mvx rfl (za rfl (yb rfl rfl (zp (by omega)) (avx rfl (yg ?_)))))))))))))))))
     exact yt (⟨x.r + 1, x.n * 10 % 18446744073709551616⟩) (by show 20 - (x.r + 1) < 20 - x.r; omega) ⟨rfl, rfl, rfl, trivial⟩ ⟨M7.step E XM7, hkeep, hu⟩
    ·
     have h2 := of_decide_eq_false h2;have hdone : ygv t x = true := decide_eq_true h2;rw [qn hdone] at hu;refine yr (zn (zn (ya ?_)));exact yq x ⟨rfl, rfl, trivial⟩ ⟨M5.step E XM5, hu⟩
   ·
    rintro x w6 ⟨M5, hx⟩;replace E := E.trans M5;replace HF := HF.on E;replace LW := LW.step E XLW;replace E := erx (No) w6;have hB2 := (riB_ends hp20).hn
    refine zb (srx (mvx rfl (mvx rfl (za rfl (zk rfl (za rfl (ze Tryz.underlying193 rfl sz3 (by decide) rfl (za rfl (zy Tryz.underlying3 rfl rfl (HF.on E).here.2 (zvx hl t.dp rfl) (za rfl (zg en205 rfl ((rup_any _ ga t t.dp ht hp (HF.on E).here.2).mono ?_))))))))))));rintro e w9 ⟨rfl, hb⟩;refine ⟨_, rfl, ?_⟩;replace E := blx E hb
    refine rnx (yh rfl (fun h3 => ?_) (fun h3 => ?_))
    ·
     have e : xh t = ((riB t).n + 1) % 18446744073709551616 := by unfold xh; rw [if_neg h1, if_pos h3]
     refine zh (mvx rfl (za rfl (yb rfl rfl (addw x.n 1) (anx rfl (srx (mvx rfl (anx rfl (zt (zr (rs := [.tmp 2]) (vs := [_]) rfl ⟨rfl, trivial⟩ ?_)))))))));exact ⟨by rw [e, ← hx]; rfl, (LW.step E XLW).toBelow⟩
    ·
     have e : xh t = (riB t).n := by unfold xh; rw [if_neg h1, if_neg (by rw [h3]; decide)]
     refine zf (zc (srx (mvx rfl (anx rfl (zt (zr (rs := [.tmp 2]) (vs := [_]) rfl ⟨rfl, trivial⟩ ?_))))));exact ⟨by rw [e, ← hx]; rfl, (LW.step E XLW).toBelow⟩
end
end Go.Proofs.YtjdcjdohghkcgaaGreatDoor
namespace Go.Proofs.YtjdcjdohghkcgaaGreatDoor
open Go.RowKit
set_option maxRecDepth 100000
attribute [local irreducible] OW RS
theorem powtab_at {j : Nat} (h : j < 9) : (pows.map (fun z => Value.int .i64 z))[j]? = some (.int .i64 ((pt j : Nat) : Int)) := by
 have key : ∀ i : Fin 9, pows[i.val]? = some ((pt i.val : Nat) : Int) := by decide +kernel
 rw [List.getElem?_map, key ⟨j, h⟩]; rfl
theorem pt_far {j : Nat} (h : 9 ≤ j) : pt j = 27 := by unfold pt; rw [if_pos h]
theorem and_i2047 {k : Nat} (h : k ≤ 2047) : IntKind.i64.wrap (BitVec.ofInt IntKind.i64.bits ((k : Nat) : Int) &&& BitVec.ofInt IntKind.i64.bits 2047).toNat = ((k : Nat) : Int) := by
 have key : ∀ v : Fin 2048, IntKind.i64.wrap (BitVec.ofInt IntKind.i64.bits ((v.val : Nat) : Int) &&& BitVec.ofInt IntKind.i64.bits 2047).toNat = ((v.val : Nat) : Int) := by decide +kernel
 exact key ⟨k, by omega⟩
theorem shl_52 {k : Nat} (h : k ≤ 2047) : IntKind.u64.wrap (((k : Nat) : Int) * 2 ^ (min ((52 : Int)).toNat IntKind.u64.bits)) = ((k * 4503599627370496 : Nat) : Int) := by
 have e := oz k 52 (by decide);have e2 : k * 2 ^ 52 % 18446744073709551616 = k * 4503599627370496 := Nat.mod_eq_of_lt (by show k * 4503599627370496 < 18446744073709551616; omega);rw [e2] at e;exact e
theorem and_lo {m : Nat} (h : m < 18446744073709551616) : IntKind.u64.wrap (BitVec.ofInt IntKind.u64.bits ((m : Nat) : Int) &&& BitVec.ofInt IntKind.u64.bits 4503599627370495).toNat = ((m &&& 4503599627370495 : Nat) : Int) := kz (n := 4503599627370495) h (by decide)
theorem and_hi {m : Nat} (h : m < 18446744073709551616) : IntKind.u64.wrap (BitVec.ofInt IntKind.u64.bits ((m : Nat) : Int) &&& BitVec.ofInt IntKind.u64.bits 4503599627370496).toNat = ((m &&& 4503599627370496 : Nat) : Int) := kz (n := 4503599627370496) h (by decide)
theorem fbR_neg {t : Dec} (ht : DecI t) (h0 : 0 < t.nd) (hd : -330 ≤ t.dp ∧ t.dp ≤ 310) : (fbR t).t.neg = t.neg := by
 have h := vu (done := ziq) (step := zix) (fun s => FbRI s ∧ s.t.neg = t.neg) (fun s => msR s.t) (fun s h hd => ?_) ⟨yqx ht h0 hd, rfl⟩
 · exact h.1.2
 · obtain ⟨h1, h2⟩ := yqz h.1 hd;obtain ⟨_, _, _, _, h5⟩ := xb (k := pt s.t.dp.toNat) h.1.dec (pt_le _).1 h.1.pos;exact ⟨⟨h1, h5.trans h.2⟩, h2⟩
theorem fbL_neg {t : Dec} (ht : DecI t) (h0 : 0 < t.nd) (hd : -330 ≤ t.dp ∧ t.dp ≤ 310) : (fbL t).t.neg = t.neg := by
 obtain ⟨h1, h2⟩ := fbR_ends ht h0 hd;have h := vu (done := zpz) (step := ziz) (fun s => FbLI s ∧ s.t.neg = t.neg) (fun s => msL s.t) (fun s h hd => ?_) ⟨yqq h1 h2, fbR_neg ht h0 hd⟩
 · exact h.1.2
 · obtain ⟨h3, h4⟩ := yqk h.1 hd;obtain ⟨_, _, _, _, _, h5⟩ := zoz (k := pt (-s.t.dp).toNat) h.1.dec h.1.pos (pt_shl _);exact ⟨⟨h3, h5.trans h.2⟩, h4⟩
theorem shrD_neg {t : Dec} {k : Nat} (h : ShI ⟨t, k⟩) : (shrD t k).neg = t.neg := by
 have h1 := vu (done := zsk) (step := ycv) (fun s => ShI s ∧ s.t.neg = t.neg) (fun s => s.k) (fun s h hd => ?_) ⟨h, rfl⟩
 · have h2 : ShI (shA t k) ∧ (shA t k).t.neg = t.neg := h1.1;obtain ⟨_, _, _, _, h5⟩ := xb (k := (shA t k).k) h2.1.dec h2.1.k1.1 h2.1.pos;exact h5.trans h2.2
 · obtain ⟨h3, h4⟩ := sh_keeps h.1 hd;obtain ⟨_, _, _, _, h5⟩ := xb (k := 60) h.1.dec (by decide) h.1.pos;exact ⟨⟨h3, h5.trans h.2⟩, h4⟩
def oe (m k : Nat) : Nat := (m &&& 4503599627370495) ||| k * 4503599627370496
theorem slowC_or {m k : Nat} (hk : k ≤ 2047) : IntKind.u64.wrap (BitVec.ofInt IntKind.u64.bits ((m &&& 4503599627370495 : Nat) : Int) ||| BitVec.ofInt IntKind.u64.bits ((k * 4503599627370496 : Nat) : Int)).toNat = ((oe m k : Nat) : Int) :=
 gn (Nat.lt_of_le_of_lt Nat.and_le_right (by decide)) (by omega)
theorem slowC_lt {m k : Nat} (hk : k ≤ 2047) : oe m k < 18446744073709551616 :=
 or_lt (k := 64) (Nat.lt_of_le_of_lt Nat.and_le_right (by decide)) (by show k * 4503599627370496 < 18446744073709551616; omega)
theorem slowC_neg {m k : Nat} (hk : k ≤ 2047) : IntKind.u64.wrap (BitVec.ofInt IntKind.u64.bits ((oe m k : Nat) : Int) ||| BitVec.ofInt IntKind.u64.bits 9223372036854775808).toNat = ((oe m k ||| 9223372036854775808 : Nat) : Int) :=
 gn (n := 9223372036854775808) (slowC_lt hk) (by decide)
section
variable (w : World) {bp op cp bf of cf bl ol cl : Nat}
set_option maxHeartbeats 2000000 in
theorem bits_any (ga : Nat) (t : Dec) (ht : DecI t) (hdp0 : -20000000 ≤ t.dp ∧ t.dp ≤ 20000000) (hB : Blk w ga 193 (yy t)) (hT : Tabs bp op cp bf of cf bl ol cl w) (hg : TabsB bp bf bl ga) :
 Calls Tryz.prog 180 #[.pointer (some ⟨ga, 0, none⟩), .pointer (some ⟨8, 0, none⟩)] w fun e w' => e = .returned (.tuple #[.int .u64 ((zgz t : Nat) : Int), .bool (oa t).2.2]) ∧ (∃ t', Blk w' ga 193 (yy t')) ∧ Ext (Mut [some ga]) w w' := by
 have hl := ht.len;have hnd := ht.hn;refine zo Tryz.func180 rfl Tryz.ntmps180 rfl ?_;have Ba := hB;have HF : Per (Mut [(some ga)]) w (fun _ => True) := Per.true_;have LW := erx (Mut [(some ga)]) w;have XLW := grx (Mut [(some ga)]) w;have E := erx (Mut [(some ga)]) w;replace HF := HF.on E;replace LW := LW.step E XLW;replace E := erx (Mut [(some ga)]) w
 replace HF := HF.and (Per.tabsB hT hg (fun q h => h.elim (fun e => Nat.le_of_eq (Option.some.inj e).symm) (fun e => e.elim)));replace HF := HF.on E;replace LW := LW.step E XLW;replace E := erx (Mut [(some ga)]) w;replace HF := HF.and (Per.cellB (HF.on E).here.2.man hg.info (fun q h => h.elim (fun e => Nat.le_of_eq (Option.some.inj e).symm) (fun e => e.elim)));replace HF := HF.on E
 replace LW := LW.step E XLW;replace E := erx (Mut [(some ga)]) w;replace HF := HF.and (Per.cellB (HF.on E).here.1.2.exp hg.info (fun q h => h.elim (fun e => Nat.le_of_eq (Option.some.inj e).symm) (fun e => e.elim)));replace HF := HF.on E;replace LW := LW.step E XLW;replace E := erx (Mut [(some ga)]) w
 replace HF := HF.and (Per.cellB (HF.on E).here.1.1.2.bias hg.info (fun q h => h.elim (fun e => Nat.le_of_eq (Option.some.inj e).symm) (fun e => e.elim)));refine srx (avx rfl (anx rfl (cw_scope 4 ?_)));replace HF := HF.on E;replace LW := LW.step E XLW;replace E := erx (Mut [(some ga)]) w
 refine cw_tail (l := 0) (ι := Nat × Nat × Bool × Dec) (fun (m, k, ov, u) => [(0, .pointer (some ⟨ga, 0, none⟩)), (1, .pointer (some ⟨8, 0, none⟩)), (5, .bool ov), (6, .int .i64 (((k : Nat) : Int) - 1023)), (7, .int .u64 ((m : Nat) : Int))]) (fun (m, k, ov, u) w' => Ext (Mut [(some ga)]) w w' ∧ Blk w' ga 193 (yy u) ∧ (oa t = (m, k, ov) ∧ m < 18446744073709551616 ∧ k ≤ 2047 ∧ u.d.length = 800 ∧ u.neg = t.neg)) rfl ?_ ?_
 ·
  intro TLM1;have M1 := erx (Mut [(some ga)]) w;have XM1 := grx (Mut [(some ga)]) w;replace HF := HF.on E;replace LW := LW.step E XLW;replace M1 := M1.step E XM1;replace E := erx (Mut [(some ga)]) w
  refine cw_tail (l := 1) (ι := Dec) (fun u => [(0, .pointer (some ⟨ga, 0, none⟩)), (1, .pointer (some ⟨8, 0, none⟩))]) (fun u w' => Ext (Mut [(some ga)]) w w' ∧ Blk w' ga 193 (yy u) ∧ (oa t = (0, 2047, true) ∧ u.d.length = 800 ∧ u.neg = t.neg)) rfl ?_ ?_
  ·
   intro TLM3;have M3 := erx (Mut [(some ga)]) w;have XM3 := grx (Mut [(some ga)]) w;refine srx (anx rfl (srx (anx rfl (zb (srx (mvx rfl (za rfl (zk rfl (za rfl (ze Tryz.underlying193 rfl sz3 (by decide) rfl (za rfl (zy Tryz.underlying3 rfl rfl Ba (oi hl t.nd rfl) (za rfl (zx rfl rfl (rnx (yh rfl (fun h1 => ?_) (fun h1 => ?_)))))))))))))))))
   ·
    have h1 : t.nd = 0 := by have h1 := eq_of_beq h1; omega
    have hfb : oa t = (0, 0, false) := by unfold oa; rw [if_pos h1]
    refine srx (anx rfl (srx (mvx rfl (za rfl (zk rfl (za rfl (ze Tryz.underlying206 rfl sz3 (by decide) rfl (za rfl (yl Tryz.underlying3 rfl rfl (HF.on E).here.2 (anx rfl (ziv (go ?_))))))))))));exact zik rfl TLM1 (0, 0, false, t) ⟨rfl, rfl, rfl, rfl, rfl, trivial⟩ ⟨M1.step E XM1, (by exact Ba), hfb, by decide, by decide, hl, rfl⟩
   ·
    have h1 : t.nd ≠ 0 := fun e => absurd h1 (by rw [e]; decide);refine zf (zc (zb (srx (mvx rfl (za rfl (zk rfl (za rfl (ze Tryz.underlying193 rfl sz3 (by decide) rfl (za rfl (zy Tryz.underlying3 rfl rfl Ba (zvx hl t.dp rfl) (za rfl (qh rfl rfl (rnx (yh rfl (fun h2 => ?_) (fun h2 => ?_)))))))))))))))
    ·
     have h2 := of_decide_eq_true h2;have hfb : oa t = (0, 2047, true) := by unfold oa; rw [if_neg h1, if_pos h2]
     refine ziv (go ?_);exact zik rfl TLM3 t ⟨rfl, rfl, trivial⟩ ⟨M3.step E XM3, (by exact Ba), hfb, hl, rfl⟩
    ·
     have h2 := of_decide_eq_false h2;refine zf (zc (zb (srx (mvx rfl (za rfl (zk rfl (za rfl (ze Tryz.underlying193 rfl sz3 (by decide) rfl (za rfl (zy Tryz.underlying3 rfl rfl Ba (zvx hl t.dp rfl) (za rfl (yp rfl rfl (rnx (yh rfl (fun h3 => ?_) (fun h3 => ?_)))))))))))))))
     ·
      have h3 := of_decide_eq_true h3;have hfb : oa t = (0, 0, false) := by unfold oa; rw [if_neg h1, if_neg h2, if_pos h3]
      refine srx (anx rfl (srx (mvx rfl (za rfl (zk rfl (za rfl (ze Tryz.underlying206 rfl sz3 (by decide) rfl (za rfl (yl Tryz.underlying3 rfl rfl (HF.on E).here.2 (anx rfl (ziv (go ?_))))))))))));exact zik rfl TLM1 (0, 0, false, t) ⟨rfl, rfl, rfl, rfl, rfl, trivial⟩ ⟨M1.step E XM1, (by exact Ba), hfb, by decide, by decide, hl, rfl⟩
     ·
      have h3 := of_decide_eq_false h3;have hpos : 0 < t.nd := by omega
      have hfb0 : oa t = fbMid (fbL t).t ((fbL t).e - 1) := by unfold oa; rw [if_neg h1, if_neg h2, if_neg h3]
      refine zf (zc (srx (anx rfl (zb ?_))));replace HF := HF.on E;replace M1 := M1.step E XM1;replace M3 := M3.step E XM3;replace E := erx (Mut [(some ga)]) w
      refine qk (ι := FbS) (fun s => [(0, .pointer (some ⟨ga, 0, none⟩)), (1, .pointer (some ⟨8, 0, none⟩)), (4, .int .u64 0), (5, .bool false), (6, .int .i64 s.e), (7, .int .u64 0)]) (fun s w' => Ext (Mut [(some ga)]) w w' ∧ Blk w' ga 193 (yy s.t) ∧ (s = fbR t)) ?_ ?_
      ·
       have M5 := erx (Mut [(some ga)]) w;have XM5 := grx (Mut [(some ga)]) w;refine zw ?_;replace HF := HF.on E;replace M5 := M5.step E XM5;replace E := erx (Mut [(some ga)]) w
       refine jo (ι := FbS) (fun s => [(0, .pointer (some ⟨ga, 0, none⟩)), (1, .pointer (some ⟨8, 0, none⟩)), (4, .int .u64 0), (5, .bool false), (6, .int .i64 s.e), (7, .int .u64 0)]) (fun s w' => Ext (Mut [(some ga)]) w w' ∧ Blk w' ga 193 (yy s.t) ∧ (FbRI s ∧ vb ziq zix s = fbR t)) (fun s => msR s.t) (⟨t, 0⟩) ⟨rfl, rfl, rfl, rfl, rfl, rfl, trivial⟩ ⟨Ext.refl _ _, (by exact Ba), yqx ht hpos (by omega), rfl⟩ ?_
       have LTa := (yf Ba.lt);clear Ba;rintro s w8 ⟨M7, Ba, ⟨hI, hu⟩⟩;have XM7 : Gro (Mut [(some ga)]) (Mut [(some ga)]) w := (Mut.grow Mut.none_ (fun k e => Or.inl (Mut.head k e)));replace E := E.trans M7;replace HF := HF.on E;replace M5 := M5.step E XM5;replace E := erx (Mut [(some ga)]) w8;have hls := hI.dec.len;have hsd := hI.dp;have hse := hI.e;have hsp := hI.pos
       refine zb (srx (mvx rfl (za rfl (zk rfl (za rfl (ze Tryz.underlying193 rfl sz3 (by decide) rfl (za rfl (zy Tryz.underlying3 rfl rfl Ba (zvx hls s.t.dp rfl) (za rfl (qh rfl rfl (rnx (yh rfl (fun h4 => ?_) (fun h4 => ?_)))))))))))))
       ·
        have h4 := of_decide_eq_true h4;have hdone : ziq s = false := decide_eq_false (by omega);obtain ⟨hkeep, hms⟩ := yqz hI hdone;obtain ⟨P, hP⟩ : ∃ P, P = pt s.t.dp.toNat := ⟨_, rfl⟩;have hP1 := pt_le s.t.dp.toNat;have hst : zix s = ⟨ju s.t P, s.e + ((P : Nat) : Int)⟩ := by rw [hP]; rfl
        rw [← hP] at hP1;rw [vk hdone] at hu;rw [hst] at hu hkeep hms;refine zf (zc (zw (srx (anx rfl (zb (zb ?_))))));replace HF := HF.on E;replace M7 := M7.step E XM7;replace E := erx (Mut [(some ga)]) w8
        refine qk (ι := Bool) (fun g => [(0, .pointer (some ⟨ga, 0, none⟩)), (1, .pointer (some ⟨8, 0, none⟩)), (4, .int .u64 0), (5, .bool false), (6, .int .i64 s.e), (7, .int .u64 0), (8, .int .i64 0), (46, .bool g)]) (fun g w' => Ext (Mut [(some ga)]) w8 w' ∧ Blk w' ga 193 (yy s.t) ∧ (g = decide (9 ≤ s.t.dp))) ?_ ?_
        ·
         have M9 := erx (Mut [(some ga)]) w8;have XM9 := grx (Mut [(some ga)]) w8;have OY : ∀ q9, (Mut (gy [])) q9 → q9 < (World.drew w8).heap.size → (Mut [(some ga)]) q9 := fun k h _ => (Mut.none_) k h;refine qo (Mut [(some ga)]) (Mut.grow Mut.none_ (yf Ba.lt)) [] [] (kq [Fx.of (.pointer (some ⟨ga, 0, none⟩)),
          Fx.of (.pointer (some ⟨ga, 0, none⟩)),
          Fx.of (.pointer (some ⟨ga, 801, none⟩)),
          Fx.of (.int .i64 s.t.dp),
          Fx.of (.slice (some ⟨bp, op, none⟩) 9 cp),
          Fx.of (.int .i64 9),
          Fx.of (.bool (decide (9 ≤ s.t.dp)))]) mixed rfl trivial (fun _ h => by cases h) ?_ ?_
         · refine ⟨?_, ?_, ?_, ?_, ?_, ?_, ?_, trivial⟩
           · intro vs X wq K;exact zi rfl ⟨Below.refl _ _, Left.of rfl⟩
           · intro vs X wq K;obtain ⟨_, e0, k0⟩ := K.dep 0 rfl rfl rfl;refine zd 40 (.pointer (some ⟨ga, 0, none⟩)) rfl e0 ?_;exact zk rfl ⟨Below.refl _ _, Left.of rfl⟩
           · intro vs X wq K;obtain ⟨_, e1, k1⟩ := K.dep 1 rfl rfl rfl;refine zd 41 (.pointer (some ⟨ga, 0, none⟩)) rfl e1 ?_;exact ze Tryz.underlying193 rfl sz3 (by decide) rfl ⟨Below.refl _ _, Left.of rfl⟩
           · intro vs X wq K;have LE := K.1;obtain ⟨_, e2, k2⟩ := K.dep 2 rfl rfl rfl;refine zd 42 (.pointer (some ⟨ga, 801, none⟩)) rfl e2 ?_;exact zy Tryz.underlying3 rfl rfl (Ba.drew.extN LE NotIn.nil) (zvx hls s.t.dp rfl) ⟨Below.refl _ _, Left.of rfl⟩
           · intro vs X wq K;have LE := K.1;exact yl Tryz.underlying71 rfl rfl (HF.on (E.drew.trans (LE.mono OY))).here.1.1.1.2.powtab.head ⟨Below.refl _ _, Left.of rfl⟩
           · intro vs X wq K;obtain ⟨_, e4, k4⟩ := K.dep 4 rfl rfl rfl;refine zd 44 (.slice (some ⟨bp, op, none⟩) 9 cp) rfl e4 ?_;exact gx Tryz.underlying71 rfl ⟨Below.refl _ _, Left.of rfl⟩
           · intro vs X wq K;obtain ⟨_, e3, k3⟩ := K.dep 3 rfl rfl rfl;refine zd 43 (.int .i64 s.t.dp) rfl e3 ?_;obtain ⟨_, e5, k5⟩ := K.dep 5 rfl rfl rfl;refine zd 45 (.int .i64 9) rfl e5 ?_;exact qz rfl rfl ⟨Below.refl _ _, Left.of rfl⟩
         intro vs w11 LE AO AL AF AA;have LBa := Ba;replace Ba := Ba.drew.extN LE NotIn.nil;replace E := E.drew.trans (LE.mono OY);obtain ⟨_, e6, k6⟩ := AL.2.2.2.2.2.2.1;refine vj (τ := [(0, _), (1, _), (4, _), (5, _), (6, _), (7, _), (8, _), (46, .bool (decide (9 ≤ s.t.dp)))]) ⟨rfl, rfl, rfl, rfl, rfl, rfl, rfl, congrArg some e6, trivial⟩ ?_;clear AL AF AA LE AO OY e6 k6 LBa
         exact yq (decide (9 ≤ s.t.dp)) ⟨rfl, rfl, rfl, rfl, rfl, rfl, rfl, rfl, trivial⟩ ⟨M9.step E XM9, (by exact Ba), rfl⟩
        ·
         have LTa := (yf Ba.lt);clear Ba;rintro g w10 ⟨M9, Ba, hgg⟩;replace E := E.trans M9;replace HF := HF.on E;replace M7 := M7.step E XM7;replace E := erx (Mut [(some ga)]) w10;replace HF := HF.on E;replace M7 := M7.step E XM7;replace E := erx (Mut [(some ga)]) w10
         refine qk (ι := Unit) (fun _ => [(0, .pointer (some ⟨ga, 0, none⟩)), (1, .pointer (some ⟨8, 0, none⟩)), (4, .int .u64 0), (5, .bool false), (6, .int .i64 s.e), (7, .int .u64 0), (8, .int .i64 ((P : Nat) : Int))]) (fun _ w' => Ext (Mut [(some ga)]) w10 w' ∧ Blk w' ga 193 (yy s.t) ∧ (True)) ?_ ?_
         ·
          have M12 := erx (Mut [(some ga)]) w10;have XM12 := grx (Mut [(some ga)]) w10;refine yh rfl (fun h5 => ?_) (fun h5 => ?_)
          ·
           rw [hgg] at h5;have h5 := of_decide_eq_true h5;have e : P = 27 := by rw [hP]; exact pt_far (by omega)
           refine zh (avx rfl (yg (yw 8 (.int .i64 ((P : Nat) : Int)) rfl ((by rw [e]; rfl : (.int .i64 27 : Value) = _)) ?_)));exact yq () ⟨rfl, rfl, rfl, rfl, rfl, rfl, rfl, trivial⟩ ⟨M12.step E XM12, (by exact Ba), trivial⟩
          ·
           rw [hgg] at h5;have h5 := of_decide_eq_false h5;have OY : ∀ q9, (Mut (gy [])) q9 → q9 < (World.drew w10).heap.size → (Mut [(some ga)]) q9 := fun k h _ => (Mut.none_) k h;refine qo (Mut [(some ga)]) (Mut.grow Mut.none_ (yf Ba.lt)) [] [] (kq [Fx.of (.slice (some ⟨bp, op, none⟩) 9 cp),
            Fx.of (.pointer (some ⟨ga, 0, none⟩)),
            Fx.of (.pointer (some ⟨ga, 0, none⟩)),
            Fx.of (.pointer (some ⟨ga, 801, none⟩)),
            Fx.of (.int .i64 s.t.dp),
            Fx.of (.pointer (some ⟨bp, op + s.t.dp.toNat * 1, none⟩)),
            Fx.of (.int .i64 ((pt s.t.dp.toNat : Nat) : Int)),
            Fx.of (.int .i64 ((pt s.t.dp.toNat : Nat) : Int))]) mixed rfl trivial (fun _ h => by cases h) ?_ ?_
           · refine ⟨?_, ?_, ?_, ?_, ?_, ?_, ?_, ?_, trivial⟩
             · intro vs X wq K;have LE := K.1;exact yl Tryz.underlying71 rfl rfl (HF.on (E.drew.trans (LE.mono OY))).here.1.1.1.2.powtab.head ⟨Below.refl _ _, Left.of rfl⟩
             · intro vs X wq K;exact zi rfl ⟨Below.refl _ _, Left.of rfl⟩
             · intro vs X wq K;obtain ⟨_, e1, k1⟩ := K.dep 1 rfl rfl rfl;refine zd 48 (.pointer (some ⟨ga, 0, none⟩)) rfl e1 ?_;exact zk rfl ⟨Below.refl _ _, Left.of rfl⟩
             · intro vs X wq K;obtain ⟨_, e2, k2⟩ := K.dep 2 rfl rfl rfl;refine zd 49 (.pointer (some ⟨ga, 0, none⟩)) rfl e2 ?_;exact ze Tryz.underlying193 rfl sz3 (by decide) rfl ⟨Below.refl _ _, Left.of rfl⟩
             · intro vs X wq K;have LE := K.1;obtain ⟨_, e3, k3⟩ := K.dep 3 rfl rfl rfl;refine zd 50 (.pointer (some ⟨ga, 801, none⟩)) rfl e3 ?_;exact zy Tryz.underlying3 rfl rfl (Ba.drew.extN LE NotIn.nil) (zvx hls s.t.dp rfl) ⟨Below.refl _ _, Left.of rfl⟩
             · intro vs X wq K;obtain ⟨_, e0, k0⟩ := K.dep 0 rfl rfl rfl;refine zd 47 (.slice (some ⟨bp, op, none⟩) 9 cp) rfl e0 ?_;obtain ⟨_, e4, k4⟩ := K.dep 4 rfl rfl rfl;refine zd 51 (.int .i64 s.t.dp) rfl e4 ?_;exact gb (j := s.t.dp.toNat) Tryz.underlying71 sz3 rfl rfl (by omega) (by omega) ⟨Below.refl _ _, Left.of rfl⟩
             · intro vs X wq K;have LE := K.1;obtain ⟨_, e5, k5⟩ := K.dep 5 rfl rfl rfl;refine zd 52 (.pointer (some ⟨bp, op + s.t.dp.toNat * 1, none⟩)) rfl e5 ?_;exact yl Tryz.underlying3 rfl rfl (by rw [Nat.mul_one]; exact (HF.on (E.drew.trans (LE.mono OY))).here.1.1.1.2.powtab.cells _ _ (powtab_at (by omega))) ⟨Below.refl _ _, Left.of rfl⟩
             · intro vs X wq K;obtain ⟨_, e6, k6⟩ := K.dep 6 rfl rfl rfl;refine zd 53 (.int .i64 ((pt s.t.dp.toNat : Nat) : Int)) rfl e6 ?_;exact vc rfl ⟨Below.refl _ _, Left.of rfl⟩
           intro vs w14 LE AO AL AF AA;have LBa := Ba;replace Ba := Ba.drew.extN LE NotIn.nil;replace E := E.drew.trans (LE.mono OY);obtain ⟨_, e7, k7⟩ := AL.2.2.2.2.2.2.2.1;refine vj (τ := [(0, _), (1, _), (4, _), (5, _), (6, _), (7, _), (8, .int .i64 ((pt s.t.dp.toNat : Nat) : Int))]) ⟨rfl, rfl, rfl, rfl, rfl, rfl, congrArg some e7, trivial⟩ ?_;clear AL AF AA LE AO OY e7 k7 LBa
           refine yw 8 (.int .i64 ((P : Nat) : Int)) rfl ((by rw [hP] : (.int .i64 ((pt s.t.dp.toNat : Nat) : Int) : Value) = _)) ?_;exact yq () ⟨rfl, rfl, rfl, rfl, rfl, rfl, rfl, trivial⟩ ⟨M12.step E XM12, (by exact Ba), trivial⟩
         ·
          have LTa := (yf Ba.lt);clear Ba;rintro _ w13 ⟨M12, Ba, _⟩;replace E := E.trans M12;replace M7 := M7.step E XM7;replace E := erx (Mut [(some ga)]) w13
          refine srx (mvx rfl (mvx rfl (za rfl (xi rfl (zp (by omega)) (zv 56 (.int .i64 (-((P : Nat) : Int))) rfl ((by congr 1; omega : (.int .i64 (0 - ((P : Nat) : Int)) : Value) = _)) (za rfl (zg en162 rfl ((shiftR_any _ ga P s.t ⟨hI.dec, hsp, by show 1 ≤ P ∧ P ≤ 300000; omega, by show -10000000 + 15 * ((P : Nat) : Int) ≤ s.t.dp ∧ s.t.dp ≤ 1000000; omega⟩ Ba).mono ?_))))))))
          rintro e w15 ⟨rfl, hB, hE⟩;refine ⟨_, rfl, ?_⟩;replace Ba := hB;clear hB;replace E := E.step1 hE Mut.head;clear hE;replace Ba : Blk w15 ga 193 (yy (ju s.t P)) := by rw [← shrD_one (by omega)]; exact Ba
          refine rnx (zh (mvx rfl (mvx rfl (za rfl (yb rfl rfl (zp (by omega)) (avx rfl (yg (zl ?_))))))));exact yt (⟨ju s.t P, s.e + ((P : Nat) : Int)⟩) (hms) ⟨rfl, rfl, rfl, rfl, rfl, rfl, trivial⟩ ⟨M7.step E XM7, (by exact Ba), hkeep, hu⟩
       ·
        have h4 := of_decide_eq_false h4;have hdone : ziq s = true := decide_eq_true (by omega);rw [qn hdone] at hu;refine yr (zn (zn (ya ?_)));exact yq s ⟨rfl, rfl, rfl, rfl, rfl, rfl, trivial⟩ ⟨M5.step E XM5, (by exact Ba), hu⟩
      ·
       have LTa := (yf Ba.lt);clear Ba;rintro s w6 ⟨M5, Ba, hs⟩;replace E := E.trans M5;replace HF := HF.on E;replace M1 := M1.step E XM1;replace M3 := M3.step E XM3;replace E := erx (Mut [(some ga)]) w6;obtain ⟨hR1, hR2⟩ := fbR_ends ht hpos (by omega);have hLs := yqq hR1 hR2;refine zb ?_;replace HF := HF.on E;replace M1 := M1.step E XM1;replace M3 := M3.step E XM3
       replace E := erx (Mut [(some ga)]) w6;refine qk (ι := FbS) (fun s => [(0, .pointer (some ⟨ga, 0, none⟩)), (1, .pointer (some ⟨8, 0, none⟩)), (4, .int .u64 0), (5, .bool false), (6, .int .i64 s.e), (7, .int .u64 0)]) (fun s w' => Ext (Mut [(some ga)]) w6 w' ∧ Blk w' ga 193 (yy s.t) ∧ (s = fbL t)) ?_ ?_
       ·
        have M16 := erx (Mut [(some ga)]) w6;have XM16 := grx (Mut [(some ga)]) w6;refine zw ?_;replace HF := HF.on E;replace M16 := M16.step E XM16;replace E := erx (Mut [(some ga)]) w6
        refine jo (ι := FbS) (fun s => [(0, .pointer (some ⟨ga, 0, none⟩)), (1, .pointer (some ⟨8, 0, none⟩)), (4, .int .u64 0), (5, .bool false), (6, .int .i64 s.e), (7, .int .u64 0)]) (fun s w' => Ext (Mut [(some ga)]) w6 w' ∧ Blk w' ga 193 (yy s.t) ∧ (FbLI s ∧ vb zpz ziz s = fbL t)) (fun s => msL s.t) s ⟨rfl, rfl, rfl, rfl, rfl, rfl, trivial⟩ ⟨Ext.refl _ _, (by exact Ba), by rw [hs]; exact hLs, by rw [hs]; rfl⟩ ?_
        have LTa := (yf Ba.lt);clear Ba;rintro s w19 ⟨M18, Ba, ⟨hI, hu⟩⟩;have XM18 : Gro (Mut [(some ga)]) (Mut [(some ga)]) w6 := (Mut.grow Mut.none_ (fun k e => Or.inl (Mut.head k e)));replace E := E.trans M18;replace HF := HF.on E;replace M16 := M16.step E XM16;replace E := erx (Mut [(some ga)]) w19;have hls := hI.dec.len;have hsd := hI.dp;have hse := hI.e;have hsp := hI.pos
        have hsg := hI.dec.dig 0 hsp;refine zb (zb ?_);replace HF := HF.on E;replace M16 := M16.step E XM16;replace M18 := M18.step E XM18;replace E := erx (Mut [(some ga)]) w19
        refine qk (ι := Bool) (fun g => [(0, .pointer (some ⟨ga, 0, none⟩)), (1, .pointer (some ⟨8, 0, none⟩)), (4, .int .u64 0), (5, .bool false), (6, .int .i64 s.e), (7, .int .u64 0), (80, .bool g)]) (fun g w' => Ext (Mut [(some ga)]) w19 w' ∧ Blk w' ga 193 (yy s.t) ∧ (g = decide (s.t.dp < 0 ∨ (s.t.dp = 0 ∧ dg s.t.d 0 < 53)))) ?_ ?_
        ·
         have M20 := erx (Mut [(some ga)]) w19;have XM20 := grx (Mut [(some ga)]) w19;refine zh (mvx rfl (za rfl (zk rfl (za rfl (ze Tryz.underlying193 rfl sz3 (by decide) rfl (za rfl (zy Tryz.underlying3 rfl rfl Ba (zvx hls s.t.dp rfl) (za rfl (yp rfl rfl (mvx rfl (gk 66 rfl (fun h4 => ?_) (fun h4 => ?_))))))))))))
         ·
          have h4 := of_decide_eq_true h4
          refine za rfl (zu rfl (za rfl (zu rfl (za rfl (zu rfl (za rfl (zu rfl (za rfl (zu rfl (za rfl (zu rfl (za rfl (vq rfl rfl (za rfl (vq rfl rfl (za rfl (vq rfl rfl (za rfl (vq rfl rfl (za rfl (vq rfl rfl (za rfl (vq rfl rfl (za rfl (zu rfl (za rfl (yk rfl rfl (yg ?_))))))))))))))))))))))))))))
          exact yq true ⟨rfl, rfl, rfl, rfl, rfl, rfl, rfl, trivial⟩ ⟨M20.step E XM20, (by exact Ba), (decide_eq_true (.inl h4)).symm⟩
         ·
          have h4 := of_decide_eq_false h4;refine onx rfl (zi rfl (onx rfl (zk rfl (onx rfl (ze Tryz.underlying193 rfl sz3 (by decide) rfl (onx rfl (zy Tryz.underlying3 rfl rfl Ba (zvx hls s.t.dp rfl) (onx rfl (zx rfl rfl (onx rfl (zi rfl (gk 72 rfl (fun h5 => ?_) (fun h5 => ?_)))))))))))))
          ·
           have h5 := eq_of_beq h5
           refine onx rfl (zi rfl (onx rfl (zk rfl (onx rfl (ze Tryz.underlying193 rfl zax (by decide) rfl (onx rfl (ko (j := 0) Tryz.underlying191 sz5 rfl rfl rfl (by decide) (onx rfl (zy Tryz.underlying5 rfl rfl Ba (dAt hls (dg s.t.d 0) 0 rfl (by decide)) (onx rfl (yp rfl rfl (onx rfl (yk rfl rfl (za rfl (yi rfl rfl (yg (yw 80 (.bool (decide (s.t.dp < 0 ∨ (s.t.dp = 0 ∧ dg s.t.d 0 < 53)))) rfl (kg (by omega)) ?_)))))))))))))))))
           exact yq (decide (s.t.dp < 0 ∨ (s.t.dp = 0 ∧ dg s.t.d 0 < 53))) ⟨rfl, rfl, rfl, rfl, rfl, rfl, rfl, trivial⟩ ⟨M20.step E XM20, (by exact Ba), rfl⟩
          ·
           have h5 : ¬ s.t.dp = 0 := fun e => absurd h5 (by rw [e]; decide);refine za rfl (zu rfl (za rfl (zu rfl (za rfl (zu rfl (za rfl (zu rfl (za rfl (zu rfl (za rfl (zu rfl (onx rfl (yi rfl rfl (za rfl (yi rfl rfl (yg ?_))))))))))))))))
           exact yq false ⟨rfl, rfl, rfl, rfl, rfl, rfl, rfl, trivial⟩ ⟨M20.step E XM20, (by exact Ba), (decide_eq_false (by omega)).symm⟩
        ·
         have LTa := (yf Ba.lt);clear Ba;rintro g w21 ⟨M20, Ba, hgg⟩;replace E := E.trans M20;replace HF := HF.on E;replace M16 := M16.step E XM16;replace M18 := M18.step E XM18;replace E := erx (Mut [(some ga)]) w21;refine yh rfl (fun h4 => ?_) (fun h4 => ?_)
         ·
          rw [hgg] at h4;have h4 := of_decide_eq_true h4;have hdone : zpz s = false := decide_eq_false (fun h => h h4);obtain ⟨hkeep, hms⟩ := yqk hI hdone;obtain ⟨P, hP⟩ : ∃ P, P = pt (-s.t.dp).toNat := ⟨_, rfl⟩;have hP1 := pt_le (-s.t.dp).toNat;have hP2 := pt_shl (-s.t.dp).toNat;have hst : ziz s = ⟨vp s.t P, s.e - ((P : Nat) : Int)⟩ := by rw [hP]; rfl
          rw [← hP] at hP1 hP2;rw [vk hdone] at hu;rw [hst] at hu hkeep hms;refine zf (zc (zw (srx (anx rfl (zb (zb ?_))))));replace HF := HF.on E;replace M18 := M18.step E XM18;replace E := erx (Mut [(some ga)]) w21
          refine qk (ι := Bool) (fun g => [(0, .pointer (some ⟨ga, 0, none⟩)), (1, .pointer (some ⟨8, 0, none⟩)), (4, .int .u64 0), (5, .bool false), (6, .int .i64 s.e), (7, .int .u64 0), (9, .int .i64 0), (88, .bool g)]) (fun g w' => Ext (Mut [(some ga)]) w21 w' ∧ Blk w' ga 193 (yy s.t) ∧ (g = decide (9 ≤ 0 - s.t.dp))) ?_ ?_
          ·
           have M22 := erx (Mut [(some ga)]) w21;have XM22 := grx (Mut [(some ga)]) w21;have OY : ∀ q9, (Mut (gy [])) q9 → q9 < (World.drew w21).heap.size → (Mut [(some ga)]) q9 := fun k h _ => (Mut.none_) k h;refine qo (Mut [(some ga)]) (Mut.grow Mut.none_ (yf Ba.lt)) [] [] (kq [Fx.of (.pointer (some ⟨ga, 0, none⟩)),
            Fx.of (.pointer (some ⟨ga, 0, none⟩)),
            Fx.of (.pointer (some ⟨ga, 801, none⟩)),
            Fx.of (.int .i64 s.t.dp),
            Fx.of (.int .i64 (0 - s.t.dp)),
            Fx.of (.slice (some ⟨bp, op, none⟩) 9 cp),
            Fx.of (.int .i64 9),
            Fx.of (.bool (decide (9 ≤ (0 - s.t.dp))))]) mixed rfl trivial (fun _ h => by cases h) ?_ ?_
           · refine ⟨?_, ?_, ?_, ?_, ?_, ?_, ?_, ?_, trivial⟩
             · intro vs X wq K;exact zi rfl ⟨Below.refl _ _, Left.of rfl⟩
             · intro vs X wq K;obtain ⟨_, e0, k0⟩ := K.dep 0 rfl rfl rfl;refine zd 81 (.pointer (some ⟨ga, 0, none⟩)) rfl e0 ?_;exact zk rfl ⟨Below.refl _ _, Left.of rfl⟩
             · intro vs X wq K;obtain ⟨_, e1, k1⟩ := K.dep 1 rfl rfl rfl;refine zd 82 (.pointer (some ⟨ga, 0, none⟩)) rfl e1 ?_;exact ze Tryz.underlying193 rfl sz3 (by decide) rfl ⟨Below.refl _ _, Left.of rfl⟩
             · intro vs X wq K;have LE := K.1;obtain ⟨_, e2, k2⟩ := K.dep 2 rfl rfl rfl;refine zd 83 (.pointer (some ⟨ga, 801, none⟩)) rfl e2 ?_;exact zy Tryz.underlying3 rfl rfl (Ba.drew.extN LE NotIn.nil) (zvx hls s.t.dp rfl) ⟨Below.refl _ _, Left.of rfl⟩
             · intro vs X wq K;obtain ⟨_, e3, k3⟩ := K.dep 3 rfl rfl rfl;refine zd 84 (.int .i64 s.t.dp) rfl e3 ?_;exact xi rfl (zp (by omega)) ⟨Below.refl _ _, Left.of rfl⟩
             · intro vs X wq K;have LE := K.1;exact yl Tryz.underlying71 rfl rfl (HF.on (E.drew.trans (LE.mono OY))).here.1.1.1.2.powtab.head ⟨Below.refl _ _, Left.of rfl⟩
             · intro vs X wq K;obtain ⟨_, e5, k5⟩ := K.dep 5 rfl rfl rfl;refine zd 86 (.slice (some ⟨bp, op, none⟩) 9 cp) rfl e5 ?_;exact gx Tryz.underlying71 rfl ⟨Below.refl _ _, Left.of rfl⟩
             · intro vs X wq K;obtain ⟨_, e4, k4⟩ := K.dep 4 rfl rfl rfl;refine zd 85 (.int .i64 (0 - s.t.dp)) rfl e4 ?_;obtain ⟨_, e6, k6⟩ := K.dep 6 rfl rfl rfl;refine zd 87 (.int .i64 9) rfl e6 ?_;exact qz rfl rfl ⟨Below.refl _ _, Left.of rfl⟩
           intro vs w24 LE AO AL AF AA;have LBa := Ba;replace Ba := Ba.drew.extN LE NotIn.nil;replace E := E.drew.trans (LE.mono OY);obtain ⟨_, e7, k7⟩ := AL.2.2.2.2.2.2.2.1;refine vj (τ := [(0, _), (1, _), (4, _), (5, _), (6, _), (7, _), (9, _), (88, .bool (decide (9 ≤ (0 - s.t.dp))))]) ⟨rfl, rfl, rfl, rfl, rfl, rfl, rfl, congrArg some e7, trivial⟩ ?_
           clear AL AF AA LE AO OY e7 k7 LBa;exact yq (decide (9 ≤ 0 - s.t.dp)) ⟨rfl, rfl, rfl, rfl, rfl, rfl, rfl, rfl, trivial⟩ ⟨M22.step E XM22, (by exact Ba), rfl⟩
          ·
           have LTa := (yf Ba.lt);clear Ba;rintro g w23 ⟨M22, Ba, hg2⟩;replace E := E.trans M22;replace HF := HF.on E;replace M18 := M18.step E XM18;replace E := erx (Mut [(some ga)]) w23;replace HF := HF.on E;replace M18 := M18.step E XM18;replace E := erx (Mut [(some ga)]) w23
           refine qk (ι := Unit) (fun _ => [(0, .pointer (some ⟨ga, 0, none⟩)), (1, .pointer (some ⟨8, 0, none⟩)), (4, .int .u64 0), (5, .bool false), (6, .int .i64 s.e), (7, .int .u64 0), (9, .int .i64 ((P : Nat) : Int))]) (fun _ w' => Ext (Mut [(some ga)]) w23 w' ∧ Blk w' ga 193 (yy s.t) ∧ (True)) ?_ ?_
           ·
            have M25 := erx (Mut [(some ga)]) w23;have XM25 := grx (Mut [(some ga)]) w23;refine yh rfl (fun h5 => ?_) (fun h5 => ?_)
            ·
             rw [hg2] at h5;have h5 := of_decide_eq_true h5;have e : P = 27 := by rw [hP]; exact pt_far (by omega)
             refine zh (avx rfl (yg (yw 9 (.int .i64 ((P : Nat) : Int)) rfl ((by rw [e]; rfl : (.int .i64 27 : Value) = _)) ?_)));exact yq () ⟨rfl, rfl, rfl, rfl, rfl, rfl, rfl, trivial⟩ ⟨M25.step E XM25, (by exact Ba), trivial⟩
            ·
             rw [hg2] at h5;have h5 := of_decide_eq_false h5;have OY : ∀ q9, (Mut (gy [])) q9 → q9 < (World.drew w23).heap.size → (Mut [(some ga)]) q9 := fun k h _ => (Mut.none_) k h;refine qo (Mut [(some ga)]) (Mut.grow Mut.none_ (yf Ba.lt)) [] [] (kq [Fx.of (.slice (some ⟨bp, op, none⟩) 9 cp),
              Fx.of (.pointer (some ⟨ga, 0, none⟩)),
              Fx.of (.pointer (some ⟨ga, 0, none⟩)),
              Fx.of (.pointer (some ⟨ga, 801, none⟩)),
              Fx.of (.int .i64 s.t.dp),
              Fx.of (.int .i64 (0 - s.t.dp)),
              Fx.of (.pointer (some ⟨bp, op + (-s.t.dp).toNat * 1, none⟩)),
              Fx.of (.int .i64 ((pt (-s.t.dp).toNat : Nat) : Int)),
              Fx.of (.int .i64 ((pt (-s.t.dp).toNat : Nat) : Int))]) mixed rfl trivial (fun _ h => by cases h) ?_ ?_
             · refine ⟨?_, ?_, ?_, ?_, ?_, ?_, ?_, ?_, ?_, trivial⟩
               · intro vs X wq K;have LE := K.1;exact yl Tryz.underlying71 rfl rfl (HF.on (E.drew.trans (LE.mono OY))).here.1.1.1.2.powtab.head ⟨Below.refl _ _, Left.of rfl⟩
               · intro vs X wq K;exact zi rfl ⟨Below.refl _ _, Left.of rfl⟩
               · intro vs X wq K;obtain ⟨_, e1, k1⟩ := K.dep 1 rfl rfl rfl;refine zd 90 (.pointer (some ⟨ga, 0, none⟩)) rfl e1 ?_;exact zk rfl ⟨Below.refl _ _, Left.of rfl⟩
               · intro vs X wq K;obtain ⟨_, e2, k2⟩ := K.dep 2 rfl rfl rfl;refine zd 91 (.pointer (some ⟨ga, 0, none⟩)) rfl e2 ?_;exact ze Tryz.underlying193 rfl sz3 (by decide) rfl ⟨Below.refl _ _, Left.of rfl⟩
               · intro vs X wq K;have LE := K.1;obtain ⟨_, e3, k3⟩ := K.dep 3 rfl rfl rfl;refine zd 92 (.pointer (some ⟨ga, 801, none⟩)) rfl e3 ?_;exact zy Tryz.underlying3 rfl rfl (Ba.drew.extN LE NotIn.nil) (zvx hls s.t.dp rfl) ⟨Below.refl _ _, Left.of rfl⟩
               · intro vs X wq K;obtain ⟨_, e4, k4⟩ := K.dep 4 rfl rfl rfl;refine zd 93 (.int .i64 s.t.dp) rfl e4 ?_;exact xi rfl (zp (by omega)) ⟨Below.refl _ _, Left.of rfl⟩
               · intro vs X wq K;obtain ⟨_, e0, k0⟩ := K.dep 0 rfl rfl rfl;refine zd 89 (.slice (some ⟨bp, op, none⟩) 9 cp) rfl e0 ?_;obtain ⟨_, e5, k5⟩ := K.dep 5 rfl rfl rfl;refine zd 94 (.int .i64 (0 - s.t.dp)) rfl e5 ?_;exact gb (j := (-s.t.dp).toNat) Tryz.underlying71 sz3 rfl rfl (by omega) (by omega) ⟨Below.refl _ _, Left.of rfl⟩
               · intro vs X wq K;have LE := K.1;obtain ⟨_, e6, k6⟩ := K.dep 6 rfl rfl rfl;refine zd 95 (.pointer (some ⟨bp, op + (-s.t.dp).toNat * 1, none⟩)) rfl e6 ?_;exact yl Tryz.underlying3 rfl rfl (by rw [Nat.mul_one]; exact (HF.on (E.drew.trans (LE.mono OY))).here.1.1.1.2.powtab.cells _ _ (powtab_at (by omega))) ⟨Below.refl _ _, Left.of rfl⟩
               · intro vs X wq K;obtain ⟨_, e7, k7⟩ := K.dep 7 rfl rfl rfl;refine zd 96 (.int .i64 ((pt (-s.t.dp).toNat : Nat) : Int)) rfl e7 ?_;exact vc rfl ⟨Below.refl _ _, Left.of rfl⟩
             intro vs w27 LE AO AL AF AA;have LBa := Ba;replace Ba := Ba.drew.extN LE NotIn.nil;replace E := E.drew.trans (LE.mono OY);obtain ⟨_, e8, k8⟩ := AL.2.2.2.2.2.2.2.2.1;refine vj (τ := [(0, _), (1, _), (4, _), (5, _), (6, _), (7, _), (9, .int .i64 ((pt (-s.t.dp).toNat : Nat) : Int))]) ⟨rfl, rfl, rfl, rfl, rfl, rfl, congrArg some e8, trivial⟩ ?_
             clear AL AF AA LE AO OY e8 k8 LBa;refine yw 9 (.int .i64 ((P : Nat) : Int)) rfl ((by rw [hP] : (.int .i64 ((pt (-s.t.dp).toNat : Nat) : Int) : Value) = _)) ?_;exact yq () ⟨rfl, rfl, rfl, rfl, rfl, rfl, rfl, trivial⟩ ⟨M25.step E XM25, (by exact Ba), trivial⟩
           ·
            have LTa := (yf Ba.lt);clear Ba;rintro _ w26 ⟨M25, Ba, _⟩;replace E := E.trans M25;replace HF := HF.on E;replace M18 := M18.step E XM18;replace E := erx (Mut [(some ga)]) w26;refine srx (mvx rfl (mvx rfl (za rfl (zg en162 rfl ((shiftL_any _ ga P s.t hP2 hI.dec hsp (by omega) Ba (HF.on E).here.1.1.1.2 hg).mono ?_)))));rintro e w28 ⟨rfl, hB, hE⟩
            refine ⟨_, rfl, ?_⟩;replace Ba := hB;clear hB;replace E := E.step1 hE Mut.head;clear hE;refine rnx (zh (mvx rfl (mvx rfl (za rfl (yd rfl rfl (zp (by omega)) (avx rfl (yg (zl ?_))))))));exact yt (⟨vp s.t P, s.e - ((P : Nat) : Int)⟩) (hms) ⟨rfl, rfl, rfl, rfl, rfl, rfl, trivial⟩ ⟨M18.step E XM18, (by exact Ba), hkeep, hu⟩
         ·
          rw [hgg] at h4;have h4 := of_decide_eq_false h4;have hdone : zpz s = true := decide_eq_true h4;rw [qn hdone] at hu;refine yr (zn (zn (ya ?_)));exact yq s ⟨rfl, rfl, rfl, rfl, rfl, rfl, trivial⟩ ⟨M16.step E XM16, (by exact Ba), hu⟩
       ·
        have LTa := (yf Ba.lt);clear Ba;rintro s w17 ⟨M16, Ba, hs2⟩;replace E := E.trans M16;replace HF := HF.on E;replace M1 := M1.step E XM1;replace M3 := M3.step E XM3;replace E := erx (Mut [(some ga)]) w17;clear hs;obtain ⟨hL1, _⟩ := fbL_ends ht hpos (by omega);rw [← hs2] at hL1 hfb0;have hls := hL1.dec.len;have hsd := hL1.dp;have hse := hL1.e;have hsp := hL1.pos
        have hms : 0 ≤ ((msL s.t : Nat) : Int) := by omega
        have hng0 : s.t.neg = t.neg := by rw [hs2]; exact fbL_neg ht hpos (by omega)
        refine srx (mvx rfl (za rfl (yd rfl rfl (zp (by omega)) (anx rfl (zb (srx (mvx rfl (mvx rfl (za rfl (zk rfl (za rfl (ze Tryz.underlying206 rfl sz3 (by decide) rfl (za rfl (yl Tryz.underlying3 rfl rfl (HF.on E).here.2 (za rfl (yb (z := (-1022)) rfl rfl (by kernel_rfl) (za rfl (yp rfl rfl (rnx ?_)))))))))))))))))))
        replace HF := HF.on E;replace M1 := M1.step E XM1;replace M3 := M3.step E XM3;replace E := erx (Mut [(some ga)]) w17
        refine qk (ι := Dec × Int) (fun (t3, e3) => [(0, .pointer (some ⟨ga, 0, none⟩)), (1, .pointer (some ⟨8, 0, none⟩)), (4, .int .u64 0), (5, .bool false), (6, .int .i64 e3), (7, .int .u64 0)]) (fun (t3, e3) w' => Ext (Mut [(some ga)]) w17 w' ∧ Blk w' ga 193 (yy t3) ∧ (oa t = (if 1024 ≤ e3 then (0, 2047, true) else yvz (vp t3 53) e3) ∧ DecI t3 ∧ 0 < t3.nd ∧ (-11000000 ≤ t3.dp ∧ t3.dp ≤ 1000000) ∧ (-1022 ≤ e3 ∧ e3 ≤ 90000) ∧ t3.neg = t.neg)) ?_ ?_
        ·
         have M29 := erx (Mut [(some ga)]) w17;have XM29 := grx (Mut [(some ga)]) w17;refine yh rfl (fun h4 => ?_) (fun h4 => ?_)
         ·
          have h4 := of_decide_eq_true h4;have hSh : ShI ⟨s.t, (-1022 - (s.e - 1)).toNat⟩ := ⟨hL1.dec, hsp, by show 1 ≤ (-1022 - (s.e - 1)).toNat ∧ (-1022 - (s.e - 1)).toNat ≤ 300000; omega, by show -10000000 + 15 * (((-1022 - (s.e - 1)).toNat : Nat) : Int) ≤ s.t.dp ∧ s.t.dp ≤ 1000000; omega⟩;obtain ⟨hq1, hq2, hq3, hq4⟩ := shrD_keeps hSh
          have hq5 : (shrD s.t (-1022 - (s.e - 1)).toNat).neg = t.neg := by rw [shrD_neg hSh]; exact hng0
          have hfe : oa t = yvz (vp (shrD s.t (-1022 - (s.e - 1)).toNat) 53) (-1022) := by rw [hfb0]; unfold fbMid; rw [if_pos (by omega)]
          refine srx (mvx rfl (za rfl (zk rfl (za rfl (ze Tryz.underlying206 rfl sz3 (by decide) rfl (za rfl (yl Tryz.underlying3 rfl rfl (HF.on E).here.2 (za rfl (yb (z := (-1022)) rfl rfl (by kernel_rfl) (mvx rfl (za rfl (yd rfl rfl (zp (by omega)) (anx rfl (srx (mvx rfl (mvx rfl (za rfl (xi rfl (zp (by omega)) (zv 121 (.int .i64 (-(((-1022 - (s.e - 1)).toNat : Nat) : Int))) rfl ((by congr 1; omega : (.int .i64 (0 - ((-1022) - (s.e - 1))) : Value) = _)) (za rfl (zg en162 rfl ((shiftR_any _ ga (-1022 - (s.e - 1)).toNat s.t hSh Ba).mono ?_))))))))))))))))))))))
          rintro e w31 ⟨rfl, hB, hE⟩;refine ⟨_, rfl, ?_⟩;replace Ba := hB;clear hB;replace E := E.step1 hE Mut.head;clear hE;refine rnx (zh (mvx rfl (mvx rfl (za rfl (yb rfl rfl (zp (by omega)) (avx rfl (yg (yw 6 (.int .i64 (-1022)) rfl ((by congr 1; omega : (.int .i64 ((s.e - 1) + ((-1022) - (s.e - 1))) : Value) = _)) ?_))))))))
          exact yq (shrD s.t (-1022 - (s.e - 1)).toNat, -1022) ⟨rfl, rfl, rfl, rfl, rfl, rfl, trivial⟩ ⟨M29.step E XM29, (by exact Ba), by rw [if_neg (by decide)]; exact hfe, hq1, hq2, ⟨hq3, hq4⟩, by decide, hq5⟩
         ·
          have h4 := of_decide_eq_false h4;have hfe : oa t = (if 1024 ≤ s.e - 1 then (0, 2047, true) else yvz (vp s.t 53) (s.e - 1)) := by rw [hfb0]; unfold fbMid; rw [if_neg (by omega)]
          refine zf ?_;exact yq (s.t, s.e - 1) ⟨rfl, rfl, rfl, rfl, rfl, rfl, trivial⟩ ⟨M29.step E XM29, (by exact Ba), hfe, hL1.dec, hsp, by omega, by omega, hng0⟩
        ·
         have LTa := (yf Ba.lt);clear Ba;rintro ⟨t3, e3⟩ w30 ⟨M29, Ba, ⟨hfb, ht3, hp3, hd3, he3, hn3⟩⟩;replace E := E.trans M29;replace HF := HF.on E;replace M1 := M1.step E XM1;replace M3 := M3.step E XM3;replace E := erx (Mut [(some ga)]) w30;have hl3 := ht3.len;refine zb (zb ?_);replace HF := HF.on E;replace M1 := M1.step E XM1;replace M3 := M3.step E XM3
         replace E := erx (Mut [(some ga)]) w30;refine qk (ι := Bool) (fun g => [(0, .pointer (some ⟨ga, 0, none⟩)), (1, .pointer (some ⟨8, 0, none⟩)), (4, .int .u64 0), (5, .bool false), (6, .int .i64 e3), (7, .int .u64 0), (138, .bool g)]) (fun g w' => Ext (Mut [(some ga)]) w30 w' ∧ Blk w' ga 193 (yy t3) ∧ (g = decide (1024 ≤ e3))) ?_ ?_
         ·
          have M32 := erx (Mut [(some ga)]) w30;have XM32 := grx (Mut [(some ga)]) w30;have OY : ∀ q9, (Mut (gy [])) q9 → q9 < (World.drew w30).heap.size → (Mut [(some ga)]) q9 := fun k h _ => (Mut.none_) k h;refine qo (Mut [(some ga)]) (Mut.grow Mut.none_ (yf Ba.lt)) [] [] (kq [Fx.of (.int .i64 e3),
           Fx.of (.pointer (some ⟨8, 0, none⟩)),
           Fx.of (.pointer (some ⟨8, 0, none⟩)),
           Fx.of (.pointer (some ⟨8, 2, none⟩)),
           Fx.of (.int .i64 (-1023)),
           Fx.of (.int .i64 (e3 - (-1023))),
           Fx.of (.pointer (some ⟨8, 0, none⟩)),
           Fx.of (.pointer (some ⟨8, 0, none⟩)),
           Fx.of (.pointer (some ⟨8, 1, none⟩)),
           Fx.of (.int .u64 11),
           Fx.of (.int .i64 2048),
           Fx.of (.int .i64 2047),
           Fx.of (.bool (decide (1024 ≤ e3)))]) mixed rfl trivial (fun _ h => by cases h) ?_ ?_
          · refine ⟨?_, ?_, ?_, ?_, ?_, ?_, ?_, ?_, ?_, ?_, ?_, ?_, ?_, trivial⟩
            · intro vs X wq K;exact zi rfl ⟨Below.refl _ _, Left.of rfl⟩
            · intro vs X wq K;exact zi rfl ⟨Below.refl _ _, Left.of rfl⟩
            · intro vs X wq K;obtain ⟨_, e1, k1⟩ := K.dep 1 rfl rfl rfl;refine zd 127 (.pointer (some ⟨8, 0, none⟩)) rfl e1 ?_;exact zk rfl ⟨Below.refl _ _, Left.of rfl⟩
            · intro vs X wq K;obtain ⟨_, e2, k2⟩ := K.dep 2 rfl rfl rfl;refine zd 128 (.pointer (some ⟨8, 0, none⟩)) rfl e2 ?_;exact ze Tryz.underlying206 rfl sz3 (by decide) rfl ⟨Below.refl _ _, Left.of rfl⟩
            · intro vs X wq K;have LE := K.1;obtain ⟨_, e3, k3⟩ := K.dep 3 rfl rfl rfl;refine zd 129 (.pointer (some ⟨8, 2, none⟩)) rfl e3 ?_;exact yl Tryz.underlying3 rfl rfl (HF.on (E.drew.trans (LE.mono OY))).here.2 ⟨Below.refl _ _, Left.of rfl⟩
            · intro vs X wq K;obtain ⟨_, e0, k0⟩ := K.dep 0 rfl rfl rfl;refine zd 126 (.int .i64 e3) rfl e0 ?_;obtain ⟨_, e4, k4⟩ := K.dep 4 rfl rfl rfl;refine zd 130 (.int .i64 (-1023)) rfl e4 ?_;exact yd rfl rfl (zp (by omega)) ⟨Below.refl _ _, Left.of rfl⟩
            · intro vs X wq K;exact zi rfl ⟨Below.refl _ _, Left.of rfl⟩
            · intro vs X wq K;obtain ⟨_, e6, k6⟩ := K.dep 6 rfl rfl rfl;refine zd 132 (.pointer (some ⟨8, 0, none⟩)) rfl e6 ?_;exact zk rfl ⟨Below.refl _ _, Left.of rfl⟩
            · intro vs X wq K;obtain ⟨_, e7, k7⟩ := K.dep 7 rfl rfl rfl;refine zd 133 (.pointer (some ⟨8, 0, none⟩)) rfl e7 ?_;exact ze Tryz.underlying206 rfl od (by decide) rfl ⟨Below.refl _ _, Left.of rfl⟩
            · intro vs X wq K;have LE := K.1;obtain ⟨_, e8, k8⟩ := K.dep 8 rfl rfl rfl;refine zd 134 (.pointer (some ⟨8, 1, none⟩)) rfl e8 ?_;exact yl Tryz.underlying144 rfl rfl (HF.on (E.drew.trans (LE.mono OY))).here.1.2 ⟨Below.refl _ _, Left.of rfl⟩
            · intro vs X wq K;obtain ⟨_, e9, k9⟩ := K.dep 9 rfl rfl rfl;refine zd 135 (.int .u64 11) rfl e9 ?_;exact qm (z := 2048) rfl rfl (by decide) (by kernel_rfl) ⟨Below.refl _ _, Left.of rfl⟩
            · intro vs X wq K;obtain ⟨_, e10, k10⟩ := K.dep 10 rfl rfl rfl;refine zd 136 (.int .i64 2048) rfl e10 ?_;exact yd (z := 2047) rfl rfl (by kernel_rfl) ⟨Below.refl _ _, Left.of rfl⟩
            · intro vs X wq K;obtain ⟨_, e5, k5⟩ := K.dep 5 rfl rfl rfl;refine zd 131 (.int .i64 (e3 - (-1023))) rfl e5 ?_;obtain ⟨_, e11, k11⟩ := K.dep 11 rfl rfl rfl;refine zd 137 (.int .i64 2047) rfl e11 ?_;exact qz rfl rfl ⟨Below.refl _ _, Left.of (kg (by omega))⟩
          intro vs w34 LE AO AL AF AA;have LBa := Ba;replace Ba := Ba.drew.extN LE NotIn.nil;replace E := E.drew.trans (LE.mono OY);obtain ⟨_, e12, k12⟩ := AL.2.2.2.2.2.2.2.2.2.2.2.2.1;refine vj (τ := [(0, _), (1, _), (4, _), (5, _), (6, _), (7, _), (138, .bool (decide (1024 ≤ e3)))]) ⟨rfl, rfl, rfl, rfl, rfl, rfl, congrArg some e12, trivial⟩ ?_;clear AL AF AA LE AO OY e12 k12 LBa
          exact yq (decide (1024 ≤ e3)) ⟨rfl, rfl, rfl, rfl, rfl, rfl, rfl, trivial⟩ ⟨M32.step E XM32, (by exact Ba), rfl⟩
         ·
          have LTa := (yf Ba.lt);clear Ba;rintro g w33 ⟨M32, Ba, hgg⟩;replace E := E.trans M32;replace HF := HF.on E;replace M1 := M1.step E XM1;replace M3 := M3.step E XM3;replace E := erx (Mut [(some ga)]) w33;refine yh rfl (fun h4 => ?_) (fun h4 => ?_)
          ·
           rw [hgg] at h4;have h4 := of_decide_eq_true h4;rw [if_pos h4] at hfb;refine ziv (go ?_);exact zik rfl TLM3 t3 ⟨rfl, rfl, trivial⟩ ⟨M3.step E XM3, (by exact Ba), hfb, hl3, hn3⟩
          ·
           rw [hgg] at h4;have h4 := of_decide_eq_false h4;rw [if_neg h4] at hfb;obtain ⟨hq1, hq2, hq3, hq4, _, hq5⟩ := zoz ht3 hp3 (.inr (.inr (.inr (.inr (.inr (.inr (.inr (.inr (.inr (.inr rfl))))))))) : Shl 53);have hl5 := hq1.len;have hn5 : (vp t3 53).neg = t.neg := hq5.trans hn3;obtain ⟨M, hM⟩ : ∃ M, M = xh (vp t3 53) := ⟨_, rfl⟩
           have hM64 : M < 18446744073709551616 := by rw [hM]; exact roundD_lt _
           unfold yvz at hfb;rw [← hM] at hfb
           refine zf (zc (srx (mvx rfl (mvx rfl (za rfl (zk rfl (za rfl (ze Tryz.underlying206 rfl od (by decide) rfl (za rfl (yl Tryz.underlying144 rfl rfl (HF.on E).here.1.1.2 (za rfl (yb (z := 53) rfl rfl (by kernel_rfl) (za rfl (yx (z := 53) Tryz.underlying3 Tryz.underlying144 rfl (by kernel_rfl) (za rfl (zg en162 rfl ((shiftL_any _ ga 53 t3 (.inr (.inr (.inr (.inr (.inr (.inr (.inr (.inr (.inr (.inr rfl)))))))))) ht3 hp3 (by omega) Ba (HF.on E).here.1.1.1.2 hg).mono ?_)))))))))))))))))
           rintro e w35 ⟨rfl, hB, hE⟩;refine ⟨_, rfl, ?_⟩;replace Ba := hB;clear hB;replace E := E.step1 hE Mut.head;clear hE;refine rnx (srx (mvx rfl (za rfl (zg en216 rfl ((rinteger_any _ ga (vp t3 53) hq1 (by omega) Ba).mono ?_)))));rintro e w36 ⟨rfl, hb⟩;refine ⟨_, rfl, ?_⟩;have Ec := Ext.of_below hb No;replace Ba := Ba.extN Ec NotIn.nil;replace E := E.trans Ec.no
           refine zv 148 (.int .u64 ((M : Nat) : Int)) rfl ((by rw [hM] : (.int .u64 ((xh (vp t3 53) : Nat) : Int) : Value) = _)) (anx rfl (zb (srx (mvx rfl (mvx rfl (za rfl (zk rfl (za rfl (ze Tryz.underlying206 rfl od (by decide) rfl (za rfl (yl Tryz.underlying144 rfl rfl (HF.on E).here.1.1.2 (za rfl (qm (z := 9007199254740992) rfl rfl (by decide) (by kernel_rfl) (za rfl (zx rfl rfl (rnx (yh rfl (fun h5 => ?_) (fun h5 => ?_))))))))))))))))))
           ·
            have h5 : M = 9007199254740992 := by have h5 := eq_of_beq h5; omega
            rw [if_pos h5] at hfb;refine yc 7 (.int .u64 9007199254740992) rfl ((by rw [h5]; rfl : (.int .u64 ((M : Nat) : Int) : Value) = _)) (srx (mvx rfl (za rfl (qd (z := 4503599627370496) rfl rfl (by decide) (by kernel_rfl) (anx rfl (srx (mvx rfl (za rfl (yb rfl rfl (zp (by omega)) (anx rfl (zb ?_)))))))))));replace HF := HF.on E
            replace M1 := M1.step E XM1;replace M3 := M3.step E XM3;replace E := erx (Mut [(some ga)]) w36
            refine qk (ι := Bool) (fun g => [(0, .pointer (some ⟨ga, 0, none⟩)), (1, .pointer (some ⟨8, 0, none⟩)), (4, .int .u64 0), (5, .bool false), (6, .int .i64 (e3 + 1)), (7, .int .u64 4503599627370496), (172, .bool g)]) (fun g w' => Ext (Mut [(some ga)]) w36 w' ∧ Blk w' ga 193 (yy (vp t3 53)) ∧ (g = decide (1023 ≤ e3))) ?_ ?_
            ·
             have M37 := erx (Mut [(some ga)]) w36;have XM37 := grx (Mut [(some ga)]) w36;have OY : ∀ q9, (Mut (gy [])) q9 → q9 < (World.drew w36).heap.size → (Mut [(some ga)]) q9 := fun k h _ => (Mut.none_) k h;refine qo (Mut [(some ga)]) (Mut.grow Mut.none_ (yf Ba.lt)) [] [] (kq [Fx.of (.int .i64 (e3 + 1)),
              Fx.of (.pointer (some ⟨8, 0, none⟩)),
              Fx.of (.pointer (some ⟨8, 0, none⟩)),
              Fx.of (.pointer (some ⟨8, 2, none⟩)),
              Fx.of (.int .i64 (-1023)),
              Fx.of (.int .i64 ((e3 + 1) - (-1023))),
              Fx.of (.pointer (some ⟨8, 0, none⟩)),
              Fx.of (.pointer (some ⟨8, 0, none⟩)),
              Fx.of (.pointer (some ⟨8, 1, none⟩)),
              Fx.of (.int .u64 11),
              Fx.of (.int .i64 2048),
              Fx.of (.int .i64 2047),
              Fx.of (.bool (decide (1023 ≤ e3)))]) mixed rfl trivial (fun _ h => by cases h) ?_ ?_
             · refine ⟨?_, ?_, ?_, ?_, ?_, ?_, ?_, ?_, ?_, ?_, ?_, ?_, ?_, trivial⟩
               · intro vs X wq K;exact zi rfl ⟨Below.refl _ _, Left.of rfl⟩
               · intro vs X wq K;exact zi rfl ⟨Below.refl _ _, Left.of rfl⟩
               · intro vs X wq K;obtain ⟨_, e1, k1⟩ := K.dep 1 rfl rfl rfl;refine zd 161 (.pointer (some ⟨8, 0, none⟩)) rfl e1 ?_;exact zk rfl ⟨Below.refl _ _, Left.of rfl⟩
               · intro vs X wq K;obtain ⟨_, e2, k2⟩ := K.dep 2 rfl rfl rfl;refine zd 162 (.pointer (some ⟨8, 0, none⟩)) rfl e2 ?_;exact ze Tryz.underlying206 rfl sz3 (by decide) rfl ⟨Below.refl _ _, Left.of rfl⟩
               · intro vs X wq K;have LE := K.1;obtain ⟨_, e3, k3⟩ := K.dep 3 rfl rfl rfl;refine zd 163 (.pointer (some ⟨8, 2, none⟩)) rfl e3 ?_;exact yl Tryz.underlying3 rfl rfl (HF.on (E.drew.trans (LE.mono OY))).here.2 ⟨Below.refl _ _, Left.of rfl⟩
               · intro vs X wq K;obtain ⟨_, e0, k0⟩ := K.dep 0 rfl rfl rfl;refine zd 160 (.int .i64 (e3 + 1)) rfl e0 ?_;obtain ⟨_, e4, k4⟩ := K.dep 4 rfl rfl rfl;refine zd 164 (.int .i64 (-1023)) rfl e4 ?_;exact yd rfl rfl (zp (by omega)) ⟨Below.refl _ _, Left.of rfl⟩
               · intro vs X wq K;exact zi rfl ⟨Below.refl _ _, Left.of rfl⟩
               · intro vs X wq K;obtain ⟨_, e6, k6⟩ := K.dep 6 rfl rfl rfl;refine zd 166 (.pointer (some ⟨8, 0, none⟩)) rfl e6 ?_;exact zk rfl ⟨Below.refl _ _, Left.of rfl⟩
               · intro vs X wq K;obtain ⟨_, e7, k7⟩ := K.dep 7 rfl rfl rfl;refine zd 167 (.pointer (some ⟨8, 0, none⟩)) rfl e7 ?_;exact ze Tryz.underlying206 rfl od (by decide) rfl ⟨Below.refl _ _, Left.of rfl⟩
               · intro vs X wq K;have LE := K.1;obtain ⟨_, e8, k8⟩ := K.dep 8 rfl rfl rfl;refine zd 168 (.pointer (some ⟨8, 1, none⟩)) rfl e8 ?_;exact yl Tryz.underlying144 rfl rfl (HF.on (E.drew.trans (LE.mono OY))).here.1.2 ⟨Below.refl _ _, Left.of rfl⟩
               · intro vs X wq K;obtain ⟨_, e9, k9⟩ := K.dep 9 rfl rfl rfl;refine zd 169 (.int .u64 11) rfl e9 ?_;exact qm (z := 2048) rfl rfl (by decide) (by kernel_rfl) ⟨Below.refl _ _, Left.of rfl⟩
               · intro vs X wq K;obtain ⟨_, e10, k10⟩ := K.dep 10 rfl rfl rfl;refine zd 170 (.int .i64 2048) rfl e10 ?_;exact yd (z := 2047) rfl rfl (by kernel_rfl) ⟨Below.refl _ _, Left.of rfl⟩
               · intro vs X wq K;obtain ⟨_, e5, k5⟩ := K.dep 5 rfl rfl rfl;refine zd 165 (.int .i64 ((e3 + 1) - (-1023))) rfl e5 ?_;obtain ⟨_, e11, k11⟩ := K.dep 11 rfl rfl rfl;refine zd 171 (.int .i64 2047) rfl e11 ?_;exact qz rfl rfl ⟨Below.refl _ _, Left.of (kg (by omega))⟩
             intro vs w39 LE AO AL AF AA;have LBa := Ba;replace Ba := Ba.drew.extN LE NotIn.nil;replace E := E.drew.trans (LE.mono OY);obtain ⟨_, e12, k12⟩ := AL.2.2.2.2.2.2.2.2.2.2.2.2.1;refine vj (τ := [(0, _), (1, _), (4, _), (5, _), (6, _), (7, _), (172, .bool (decide (1023 ≤ e3)))]) ⟨rfl, rfl, rfl, rfl, rfl, rfl, congrArg some e12, trivial⟩ ?_
             clear AL AF AA LE AO OY e12 k12 LBa;exact yq (decide (1023 ≤ e3)) ⟨rfl, rfl, rfl, rfl, rfl, rfl, rfl, trivial⟩ ⟨M37.step E XM37, (by exact Ba), rfl⟩
            ·
             have LTa := (yf Ba.lt);clear Ba;rintro g w38 ⟨M37, Ba, hg3⟩;replace E := E.trans M37;replace HF := HF.on E;replace M1 := M1.step E XM1;replace M3 := M3.step E XM3;replace E := erx (Mut [(some ga)]) w38;refine yh rfl (fun h6 => ?_) (fun h6 => ?_)
             ·
              rw [hg3] at h6;have h6 := of_decide_eq_true h6;rw [if_pos h6] at hfb;refine ziv (go ?_);exact zik rfl TLM3 (vp t3 53) ⟨rfl, rfl, trivial⟩ ⟨M3.step E XM3, (by exact Ba), hfb, hl5, hn5⟩
             ·
              rw [hg3] at h6;have h6 := of_decide_eq_false h6;rw [if_neg h6] at hfb;obtain ⟨Kx, hK⟩ : ∃ Kx, Kx = (e3 + 1 + 1023).toNat := ⟨_, rfl⟩;rw [← hK] at hfb
              refine zf (zc (zb (zb (yc 7 (.int .u64 ((4503599627370496 : Nat) : Int)) rfl (rfl) (zh (mvx rfl (mvx rfl (za rfl (zk rfl (za rfl (ze Tryz.underlying206 rfl od (by decide) rfl (za rfl (yl Tryz.underlying144 rfl rfl (HF.on E).here.1.1.2 (za rfl (qm (z := 4503599627370496) rfl rfl (by decide) (by kernel_rfl) (za rfl (vd rfl rfl (and_hi (m := 4503599627370496) (by decide)) (za rfl (zx rfl rfl (rnx (yc 180 (.bool false) rfl ((by rw [jq (by decide +kernel)] : (.bool (((4503599627370496 &&& 4503599627370496 : Nat) : Int) == 0) : Value) = _)) (zj rfl (zf (zc (zb (ziv (go (yw 6 (.int .i64 (((Kx : Nat) : Int) - 1023)) rfl ((by congr 1; omega : (.int .i64 (e3 + 1) : Value) = _)) ?_))))))))))))))))))))))))))))
              exact zik rfl TLM1 (4503599627370496, Kx, false, vp t3 53) ⟨rfl, rfl, rfl, rfl, rfl, trivial⟩ ⟨M1.step E XM1, (by exact Ba), hfb, by decide, by omega, hl5, hn5⟩
           ·
            have h5 : ¬ M = 9007199254740992 := fun e => absurd h5 (by rw [e]; decide);rw [if_neg h5] at hfb
            refine zf (zc (zb (srx (mvx rfl (mvx rfl (za rfl (zk rfl (za rfl (ze Tryz.underlying206 rfl od (by decide) rfl (za rfl (yl Tryz.underlying144 rfl rfl (HF.on E).here.1.1.2 (za rfl (qm (z := 4503599627370496) rfl rfl (by decide) (by kernel_rfl) (za rfl (vd rfl rfl (and_hi hM64) (za rfl (zx rfl rfl (rnx (yh rfl (fun h6 => ?_) (fun h6 => ?_))))))))))))))))))))
            ·
             have h6 : M &&& 4503599627370496 = 0 := by have h6 := eq_of_beq h6; omega
             rw [if_pos h6] at hfb;obtain ⟨Kx, hK⟩ : ∃ Kx : Nat, Kx = 0 := ⟨_, rfl⟩;rw [← hK] at hfb
             refine zh (mvx rfl (za rfl (zk rfl (za rfl (ze Tryz.underlying206 rfl sz3 (by decide) rfl (za rfl (yl Tryz.underlying3 rfl rfl (HF.on E).here.2 (anx rfl (zb (ziv (go (yw 6 (.int .i64 (((Kx : Nat) : Int) - 1023)) rfl ((by rw [hK]; rfl : (.int .i64 (-1023) : Value) = _)) ?_))))))))))))
             exact zik rfl TLM1 (M, Kx, false, vp t3 53) ⟨rfl, rfl, rfl, rfl, rfl, trivial⟩ ⟨M1.step E XM1, (by exact Ba), hfb, hM64, by omega, hl5, hn5⟩
            ·
             have h6 : ¬ M &&& 4503599627370496 = 0 := fun e => absurd h6 (by rw [e]; decide);rw [if_neg h6] at hfb;obtain ⟨Kx, hK⟩ : ∃ Kx, Kx = (e3 + 1023).toNat := ⟨_, rfl⟩;rw [← hK] at hfb;refine zf (zc (zb (ziv (go (yw 6 (.int .i64 (((Kx : Nat) : Int) - 1023)) rfl ((by congr 1; omega : (.int .i64 e3 : Value) = _)) ?_)))))
             exact zik rfl TLM1 (M, Kx, false, vp t3 53) ⟨rfl, rfl, rfl, rfl, rfl, trivial⟩ ⟨M1.step E XM1, (by exact Ba), hfb, hM64, by omega, hl5, hn5⟩
  ·
   have LTa := (yf Ba.lt);clear Ba;rintro u w4 ⟨M3, Ba, ⟨hfb, hl5, hn5⟩⟩;replace E := E.trans M3;replace HF := HF.on E;replace LW := LW.step E XLW;replace E := erx (Mut [(some ga)]) w4;refine zb (zf (zc (srx (anx rfl (zb ?_)))));have OY : ∀ q9, (Mut (gy [])) q9 → q9 < (World.drew w4).heap.size → (Mut [(some ga)]) q9 := fun k h _ => (Mut.none_) k h
   refine qo (Mut [(some ga)]) (Mut.grow Mut.none_ (yf Ba.lt)) [] [] (kq [Fx.of (.pointer (some ⟨8, 0, none⟩)),
    Fx.of (.pointer (some ⟨8, 0, none⟩)),
    Fx.of (.pointer (some ⟨8, 1, none⟩)),
    Fx.of (.int .u64 11),
    Fx.of (.int .i64 2048),
    Fx.of (.int .i64 2047),
    Fx.of (.pointer (some ⟨8, 0, none⟩)),
    Fx.of (.pointer (some ⟨8, 0, none⟩)),
    Fx.of (.pointer (some ⟨8, 2, none⟩)),
    Fx.of (.int .i64 (-1023)),
    Fx.of (.int .i64 1024),
    Fx.of (.int .i64 1024)]) mixed rfl trivial (fun _ h => by cases h) ?_ ?_
   · refine ⟨?_, ?_, ?_, ?_, ?_, ?_, ?_, ?_, ?_, ?_, ?_, ?_, trivial⟩
     · intro vs X wq K;exact zi rfl ⟨Below.refl _ _, Left.of rfl⟩
     · intro vs X wq K;obtain ⟨_, e0, k0⟩ := K.dep 0 rfl rfl rfl;refine zd 185 (.pointer (some ⟨8, 0, none⟩)) rfl e0 ?_;exact zk rfl ⟨Below.refl _ _, Left.of rfl⟩
     · intro vs X wq K;obtain ⟨_, e1, k1⟩ := K.dep 1 rfl rfl rfl;refine zd 186 (.pointer (some ⟨8, 0, none⟩)) rfl e1 ?_;exact ze Tryz.underlying206 rfl od (by decide) rfl ⟨Below.refl _ _, Left.of rfl⟩
     · intro vs X wq K;have LE := K.1;obtain ⟨_, e2, k2⟩ := K.dep 2 rfl rfl rfl;refine zd 187 (.pointer (some ⟨8, 1, none⟩)) rfl e2 ?_;exact yl Tryz.underlying144 rfl rfl (HF.on (E.drew.trans (LE.mono OY))).here.1.2 ⟨Below.refl _ _, Left.of rfl⟩
     · intro vs X wq K;obtain ⟨_, e3, k3⟩ := K.dep 3 rfl rfl rfl;refine zd 188 (.int .u64 11) rfl e3 ?_;exact qm (z := 2048) rfl rfl (by decide) (by kernel_rfl) ⟨Below.refl _ _, Left.of rfl⟩
     · intro vs X wq K;obtain ⟨_, e4, k4⟩ := K.dep 4 rfl rfl rfl;refine zd 189 (.int .i64 2048) rfl e4 ?_;exact yd (z := 2047) rfl rfl (by kernel_rfl) ⟨Below.refl _ _, Left.of rfl⟩
     · intro vs X wq K;exact zi rfl ⟨Below.refl _ _, Left.of rfl⟩
     · intro vs X wq K;obtain ⟨_, e6, k6⟩ := K.dep 6 rfl rfl rfl;refine zd 191 (.pointer (some ⟨8, 0, none⟩)) rfl e6 ?_;exact zk rfl ⟨Below.refl _ _, Left.of rfl⟩
     · intro vs X wq K;obtain ⟨_, e7, k7⟩ := K.dep 7 rfl rfl rfl;refine zd 192 (.pointer (some ⟨8, 0, none⟩)) rfl e7 ?_;exact ze Tryz.underlying206 rfl sz3 (by decide) rfl ⟨Below.refl _ _, Left.of rfl⟩
     · intro vs X wq K;have LE := K.1;obtain ⟨_, e8, k8⟩ := K.dep 8 rfl rfl rfl;refine zd 193 (.pointer (some ⟨8, 2, none⟩)) rfl e8 ?_;exact yl Tryz.underlying3 rfl rfl (HF.on (E.drew.trans (LE.mono OY))).here.2 ⟨Below.refl _ _, Left.of rfl⟩
     · intro vs X wq K;obtain ⟨_, e5, k5⟩ := K.dep 5 rfl rfl rfl;refine zd 190 (.int .i64 2047) rfl e5 ?_;obtain ⟨_, e9, k9⟩ := K.dep 9 rfl rfl rfl;refine zd 194 (.int .i64 (-1023)) rfl e9 ?_;exact yb (z := 1024) rfl rfl (by kernel_rfl) ⟨Below.refl _ _, Left.of rfl⟩
     · intro vs X wq K;obtain ⟨_, e10, k10⟩ := K.dep 10 rfl rfl rfl;refine zd 195 (.int .i64 1024) rfl e10 ?_;exact vc rfl ⟨Below.refl _ _, Left.of rfl⟩
   intro vs w40 LE AO AL AF AA;have LBa := Ba;replace Ba := Ba.drew.extN LE NotIn.nil;replace E := E.drew.trans (LE.mono OY);obtain ⟨_, e11, k11⟩ := AL.2.2.2.2.2.2.2.2.2.2.2.1;refine vj (τ := [(0, _), (1, _), (6, .int .i64 1024), (7, _)]) ⟨rfl, rfl, congrArg some e11, rfl, trivial⟩ ?_;clear AL AF AA LE AO OY e11 k11 LBa
   refine zc (srx (anx rfl (zb (cw_label (zc (srx (mvx rfl (mvx rfl (za rfl (zk rfl (za rfl (ze Tryz.underlying206 rfl od (by decide) rfl (za rfl (yl Tryz.underlying144 rfl rfl (HF.on E).here.1.1.2 (za rfl (qm (z := 4503599627370496) rfl rfl (by decide) (by kernel_rfl) (za rfl (yd (z := 4503599627370495) rfl rfl (by kernel_rfl) (za rfl (vd (z := 0) rfl rfl (by kernel_rfl) (anx rfl (zb ?_))))))))))))))))))))))
   have OY : ∀ q9, (Mut (gy [])) q9 → q9 < (World.drew w40).heap.size → (Mut [(some ga)]) q9 := fun k h _ => (Mut.none_) k h;refine qo (Mut [(some ga)]) (Mut.grow Mut.none_ (yf Ba.lt)) [] [] (kq [Fx.of (.int .u64 0),
    Fx.of (.int .i64 1024),
    Fx.of (.pointer (some ⟨8, 0, none⟩)),
    Fx.of (.pointer (some ⟨8, 0, none⟩)),
    Fx.of (.pointer (some ⟨8, 2, none⟩)),
    Fx.of (.int .i64 (-1023)),
    Fx.of (.int .i64 2047),
    Fx.of (.pointer (some ⟨8, 0, none⟩)),
    Fx.of (.pointer (some ⟨8, 0, none⟩)),
    Fx.of (.pointer (some ⟨8, 1, none⟩)),
    Fx.of (.int .u64 11),
    Fx.of (.int .i64 2048),
    Fx.of (.int .i64 2047),
    Fx.of (.int .i64 2047),
    Fx.of (.int .u64 2047),
    Fx.of (.pointer (some ⟨8, 0, none⟩)),
    Fx.of (.pointer (some ⟨8, 0, none⟩)),
    Fx.of (.pointer (some ⟨8, 0, none⟩)),
    Fx.of (.int .u64 52),
    Fx.of (.int .u64 9218868437227405312),
    Fx.of (.int .u64 9218868437227405312),
    Fx.of (.int .u64 9218868437227405312)]) mixed rfl trivial (fun _ h => by cases h) ?_ ?_
   · refine ⟨?_, ?_, ?_, ?_, ?_, ?_, ?_, ?_, ?_, ?_, ?_, ?_, ?_, ?_, ?_, ?_, ?_, ?_, ?_, ?_, ?_, ?_, trivial⟩
     · intro vs X wq K;exact zi rfl ⟨Below.refl _ _, Left.of rfl⟩
     · intro vs X wq K;exact zi rfl ⟨Below.refl _ _, Left.of rfl⟩
     · intro vs X wq K;exact zi rfl ⟨Below.refl _ _, Left.of rfl⟩
     · intro vs X wq K;obtain ⟨_, e2, k2⟩ := K.dep 2 rfl rfl rfl;refine zd 206 (.pointer (some ⟨8, 0, none⟩)) rfl e2 ?_;exact zk rfl ⟨Below.refl _ _, Left.of rfl⟩
     · intro vs X wq K;obtain ⟨_, e3, k3⟩ := K.dep 3 rfl rfl rfl;refine zd 207 (.pointer (some ⟨8, 0, none⟩)) rfl e3 ?_;exact ze Tryz.underlying206 rfl sz3 (by decide) rfl ⟨Below.refl _ _, Left.of rfl⟩
     · intro vs X wq K;have LE := K.1;obtain ⟨_, e4, k4⟩ := K.dep 4 rfl rfl rfl;refine zd 208 (.pointer (some ⟨8, 2, none⟩)) rfl e4 ?_;exact yl Tryz.underlying3 rfl rfl (HF.on (E.drew.trans (LE.mono OY))).here.2 ⟨Below.refl _ _, Left.of rfl⟩
     · intro vs X wq K;obtain ⟨_, e1, k1⟩ := K.dep 1 rfl rfl rfl;refine zd 205 (.int .i64 1024) rfl e1 ?_;obtain ⟨_, e5, k5⟩ := K.dep 5 rfl rfl rfl;refine zd 209 (.int .i64 (-1023)) rfl e5 ?_;exact yd (z := 2047) rfl rfl (by kernel_rfl) ⟨Below.refl _ _, Left.of rfl⟩
     · intro vs X wq K;exact zi rfl ⟨Below.refl _ _, Left.of rfl⟩
     · intro vs X wq K;obtain ⟨_, e7, k7⟩ := K.dep 7 rfl rfl rfl;refine zd 211 (.pointer (some ⟨8, 0, none⟩)) rfl e7 ?_;exact zk rfl ⟨Below.refl _ _, Left.of rfl⟩
     · intro vs X wq K;obtain ⟨_, e8, k8⟩ := K.dep 8 rfl rfl rfl;refine zd 212 (.pointer (some ⟨8, 0, none⟩)) rfl e8 ?_;exact ze Tryz.underlying206 rfl od (by decide) rfl ⟨Below.refl _ _, Left.of rfl⟩
     · intro vs X wq K;have LE := K.1;obtain ⟨_, e9, k9⟩ := K.dep 9 rfl rfl rfl;refine zd 213 (.pointer (some ⟨8, 1, none⟩)) rfl e9 ?_;exact yl Tryz.underlying144 rfl rfl (HF.on (E.drew.trans (LE.mono OY))).here.1.2 ⟨Below.refl _ _, Left.of rfl⟩
     · intro vs X wq K;obtain ⟨_, e10, k10⟩ := K.dep 10 rfl rfl rfl;refine zd 214 (.int .u64 11) rfl e10 ?_;exact qm (z := 2048) rfl rfl (by decide) (by kernel_rfl) ⟨Below.refl _ _, Left.of rfl⟩
     · intro vs X wq K;obtain ⟨_, e11, k11⟩ := K.dep 11 rfl rfl rfl;refine zd 215 (.int .i64 2048) rfl e11 ?_;exact yd (z := 2047) rfl rfl (by kernel_rfl) ⟨Below.refl _ _, Left.of rfl⟩
     · intro vs X wq K;obtain ⟨_, e6, k6⟩ := K.dep 6 rfl rfl rfl;refine zd 210 (.int .i64 2047) rfl e6 ?_;obtain ⟨_, e12, k12⟩ := K.dep 12 rfl rfl rfl;refine zd 216 (.int .i64 2047) rfl e12 ?_;exact vd (z := 2047) rfl rfl (by kernel_rfl) ⟨Below.refl _ _, Left.of rfl⟩
     · intro vs X wq K;obtain ⟨_, e13, k13⟩ := K.dep 13 rfl rfl rfl;refine zd 217 (.int .i64 2047) rfl e13 ?_;exact yx (z := 2047) Tryz.underlying32 Tryz.underlying3 rfl (by kernel_rfl) ⟨Below.refl _ _, Left.of rfl⟩
     · intro vs X wq K;exact zi rfl ⟨Below.refl _ _, Left.of rfl⟩
     · intro vs X wq K;obtain ⟨_, e15, k15⟩ := K.dep 15 rfl rfl rfl;refine zd 219 (.pointer (some ⟨8, 0, none⟩)) rfl e15 ?_;exact zk rfl ⟨Below.refl _ _, Left.of rfl⟩
     · intro vs X wq K;obtain ⟨_, e16, k16⟩ := K.dep 16 rfl rfl rfl;refine zd 220 (.pointer (some ⟨8, 0, none⟩)) rfl e16 ?_;exact ze Tryz.underlying206 rfl od (by decide) rfl ⟨Below.refl _ _, Left.of rfl⟩
     · intro vs X wq K;have LE := K.1;obtain ⟨_, e17, k17⟩ := K.dep 17 rfl rfl rfl;refine zd 221 (.pointer (some ⟨8, 0, none⟩)) rfl e17 ?_;exact yl Tryz.underlying144 rfl rfl (HF.on (E.drew.trans (LE.mono OY))).here.1.1.2 ⟨Below.refl _ _, Left.of rfl⟩
     · intro vs X wq K;obtain ⟨_, e14, k14⟩ := K.dep 14 rfl rfl rfl;refine zd 218 (.int .u64 2047) rfl e14 ?_;obtain ⟨_, e18, k18⟩ := K.dep 18 rfl rfl rfl;refine zd 222 (.int .u64 52) rfl e18 ?_;exact qm (z := 9218868437227405312) rfl rfl (by decide) (by kernel_rfl) ⟨Below.refl _ _, Left.of rfl⟩
     · intro vs X wq K;obtain ⟨_, e0, k0⟩ := K.dep 0 rfl rfl rfl;refine zd 204 (.int .u64 0) rfl e0 ?_;obtain ⟨_, e19, k19⟩ := K.dep 19 rfl rfl rfl;refine zd 223 (.int .u64 9218868437227405312) rfl e19 ?_;exact kh (z := 9218868437227405312) rfl rfl (by kernel_rfl) ⟨Below.refl _ _, Left.of rfl⟩
     · intro vs X wq K;obtain ⟨_, e20, k20⟩ := K.dep 20 rfl rfl rfl;refine zd 224 (.int .u64 9218868437227405312) rfl e20 ?_;exact vc rfl ⟨Below.refl _ _, Left.of rfl⟩
   intro vs w41 LE AO AL AF AA;have LBa := Ba;replace Ba := Ba.drew.extN LE NotIn.nil;replace E := E.drew.trans (LE.mono OY);obtain ⟨_, e21, k21⟩ := AL.2.2.2.2.2.2.2.2.2.2.2.2.2.2.2.2.2.2.2.2.2.1;refine vj (τ := [(0, _), (1, _), (5, _), (11, .int .u64 9218868437227405312)]) ⟨rfl, rfl, rfl, congrArg some e21, trivial⟩ ?_;clear AL AF AA LE AO OY e21 k21 LBa
   refine zc (zb (srx (mvx rfl (za rfl (zk rfl (za rfl (ze Tryz.underlying193 rfl sz4 (by decide) rfl (za rfl (zy Tryz.underlying4 rfl rfl Ba (ngAt hl5 t.neg hn5) (rnx (yh rfl (fun hng => ?_) (fun hng => ?_))))))))))))
   ·
    have OY : ∀ q9, (Mut (gy [])) q9 → q9 < (World.drew w41).heap.size → (Mut [(some ga)]) q9 := fun k h _ => (Mut.none_) k h;refine qo (Mut [(some ga)]) (Mut.grow Mut.none_ (yf Ba.lt)) [] [] (kq [Fx.of (.int .u64 9218868437227405312),
     Fx.of (.pointer (some ⟨8, 0, none⟩)),
     Fx.of (.pointer (some ⟨8, 0, none⟩)),
     Fx.of (.pointer (some ⟨8, 0, none⟩)),
     Fx.of (.int .u64 52),
     Fx.of (.int .u64 4503599627370496),
     Fx.of (.pointer (some ⟨8, 0, none⟩)),
     Fx.of (.pointer (some ⟨8, 0, none⟩)),
     Fx.of (.pointer (some ⟨8, 1, none⟩)),
     Fx.of (.int .u64 11),
     Fx.of (.int .u64 9223372036854775808),
     Fx.of (.int .u64 18442240474082181120),
     Fx.of (.int .u64 18442240474082181120)]) mixed rfl trivial (fun _ h => by cases h) ?_ ?_
    · refine ⟨?_, ?_, ?_, ?_, ?_, ?_, ?_, ?_, ?_, ?_, ?_, ?_, ?_, trivial⟩
      · intro vs X wq K;exact zi rfl ⟨Below.refl _ _, Left.of rfl⟩
      · intro vs X wq K;exact zi rfl ⟨Below.refl _ _, Left.of rfl⟩
      · intro vs X wq K;obtain ⟨_, e1, k1⟩ := K.dep 1 rfl rfl rfl;refine zd 230 (.pointer (some ⟨8, 0, none⟩)) rfl e1 ?_;exact zk rfl ⟨Below.refl _ _, Left.of rfl⟩
      · intro vs X wq K;obtain ⟨_, e2, k2⟩ := K.dep 2 rfl rfl rfl;refine zd 231 (.pointer (some ⟨8, 0, none⟩)) rfl e2 ?_;exact ze Tryz.underlying206 rfl od (by decide) rfl ⟨Below.refl _ _, Left.of rfl⟩
      · intro vs X wq K;have LE := K.1;obtain ⟨_, e3, k3⟩ := K.dep 3 rfl rfl rfl;refine zd 232 (.pointer (some ⟨8, 0, none⟩)) rfl e3 ?_;exact yl Tryz.underlying144 rfl rfl (HF.on (E.drew.trans (LE.mono OY))).here.1.1.2 ⟨Below.refl _ _, Left.of rfl⟩
      · intro vs X wq K;obtain ⟨_, e4, k4⟩ := K.dep 4 rfl rfl rfl;refine zd 233 (.int .u64 52) rfl e4 ?_;exact qm (z := 4503599627370496) rfl rfl (by decide) (by kernel_rfl) ⟨Below.refl _ _, Left.of rfl⟩
      · intro vs X wq K;exact zi rfl ⟨Below.refl _ _, Left.of rfl⟩
      · intro vs X wq K;obtain ⟨_, e6, k6⟩ := K.dep 6 rfl rfl rfl;refine zd 235 (.pointer (some ⟨8, 0, none⟩)) rfl e6 ?_;exact zk rfl ⟨Below.refl _ _, Left.of rfl⟩
      · intro vs X wq K;obtain ⟨_, e7, k7⟩ := K.dep 7 rfl rfl rfl;refine zd 236 (.pointer (some ⟨8, 0, none⟩)) rfl e7 ?_;exact ze Tryz.underlying206 rfl od (by decide) rfl ⟨Below.refl _ _, Left.of rfl⟩
      · intro vs X wq K;have LE := K.1;obtain ⟨_, e8, k8⟩ := K.dep 8 rfl rfl rfl;refine zd 237 (.pointer (some ⟨8, 1, none⟩)) rfl e8 ?_;exact yl Tryz.underlying144 rfl rfl (HF.on (E.drew.trans (LE.mono OY))).here.1.2 ⟨Below.refl _ _, Left.of rfl⟩
      · intro vs X wq K;obtain ⟨_, e5, k5⟩ := K.dep 5 rfl rfl rfl;refine zd 234 (.int .u64 4503599627370496) rfl e5 ?_;obtain ⟨_, e9, k9⟩ := K.dep 9 rfl rfl rfl;refine zd 238 (.int .u64 11) rfl e9 ?_;exact qm (z := 9223372036854775808) rfl rfl (by decide) (by kernel_rfl) ⟨Below.refl _ _, Left.of rfl⟩
      · intro vs X wq K;obtain ⟨_, e0, k0⟩ := K.dep 0 rfl rfl rfl;refine zd 229 (.int .u64 9218868437227405312) rfl e0 ?_;obtain ⟨_, e10, k10⟩ := K.dep 10 rfl rfl rfl;refine zd 239 (.int .u64 9223372036854775808) rfl e10 ?_;exact kh (z := 18442240474082181120) rfl rfl (by kernel_rfl) ⟨Below.refl _ _, Left.of rfl⟩
      · intro vs X wq K;obtain ⟨_, e11, k11⟩ := K.dep 11 rfl rfl rfl;refine zd 240 (.int .u64 18442240474082181120) rfl e11 ?_;exact vc rfl ⟨Below.refl _ _, Left.of rfl⟩
    intro vs w42 LE AO AL AF AA;have LBa := Ba;replace Ba := Ba.drew.extN LE NotIn.nil;replace E := E.drew.trans (LE.mono OY);obtain ⟨_, e12, k12⟩ := AL.2.2.2.2.2.2.2.2.2.2.2.2.1;refine vj (τ := [(5, _), (11, .int .u64 18442240474082181120)]) ⟨rfl, congrArg some e12, trivial⟩ ?_;clear AL AF AA LE AO OY e12 k12 LBa
    refine zc (srx (mvx rfl (mvx rfl (avx rfl (anx rfl (zt (gq ?_)))))));have e : zgz t = 18442240474082181120 := by unfold zgz; rw [hfb, hng]; decide +kernel
    refine zr (rs := [.tmp 4, .tmp 5]) (vs := [_, _]) rfl ⟨rfl, rfl, trivial⟩ ?_;exact ⟨by rw [e, hfb]; rfl, ⟨_, Ba⟩, (LW.step E XLW)⟩
   ·
    refine zf (zc (srx (mvx rfl (mvx rfl (avx rfl (anx rfl (zt (gq ?_))))))));have e : zgz t = 9218868437227405312 := by unfold zgz; rw [hfb, hng]; decide +kernel
    refine zr (rs := [.tmp 4, .tmp 5]) (vs := [_, _]) rfl ⟨rfl, rfl, trivial⟩ ?_;exact ⟨by rw [e, hfb]; rfl, ⟨_, Ba⟩, (LW.step E XLW)⟩
 ·
  have LTa := (yf Ba.lt);clear Ba;rintro ⟨m, k, ov, u⟩ w2 ⟨M1, Ba, ⟨hfb, hmm, hee, hl5, hn5⟩⟩;replace E := E.trans M1;replace HF := HF.on E;replace LW := LW.step E XLW;replace E := erx (Mut [(some ga)]) w2
  refine zb (zf (zc (srx (mvx rfl (mvx rfl (za rfl (zk rfl (za rfl (ze Tryz.underlying206 rfl od (by decide) rfl (za rfl (yl Tryz.underlying144 rfl rfl (HF.on E).here.1.1.2 (za rfl (qm (z := 4503599627370496) rfl rfl (by decide) (by kernel_rfl) (za rfl (yd (z := 4503599627370495) rfl rfl (by kernel_rfl) (za rfl (vd rfl rfl (and_lo hmm) (anx rfl (zb ?_)))))))))))))))))))
  have OY : ∀ q9, (Mut (gy [])) q9 → q9 < (World.drew w2).heap.size → (Mut [(some ga)]) q9 := fun k h _ => (Mut.none_) k h;refine qo (Mut [(some ga)]) (Mut.grow Mut.none_ (yf Ba.lt)) [] [] (kq [Fx.of (.int .u64 ((m &&& 4503599627370495 : Nat) : Int)),
   Fx.of (.int .i64 (((k : Nat) : Int) - 1023)),
   Fx.of (.pointer (some ⟨8, 0, none⟩)),
   Fx.of (.pointer (some ⟨8, 0, none⟩)),
   Fx.of (.pointer (some ⟨8, 2, none⟩)),
   Fx.of (.int .i64 (-1023)),
   Fx.of (.int .i64 ((k : Nat) : Int)),
   Fx.of (.pointer (some ⟨8, 0, none⟩)),
   Fx.of (.pointer (some ⟨8, 0, none⟩)),
   Fx.of (.pointer (some ⟨8, 1, none⟩)),
   Fx.of (.int .u64 11),
   Fx.of (.int .i64 2048),
   Fx.of (.int .i64 2047),
   Fx.of (.int .i64 ((k : Nat) : Int)),
   Fx.of (.int .u64 ((k : Nat) : Int)),
   Fx.of (.pointer (some ⟨8, 0, none⟩)),
   Fx.of (.pointer (some ⟨8, 0, none⟩)),
   Fx.of (.pointer (some ⟨8, 0, none⟩)),
   Fx.of (.int .u64 52),
   Fx.of (.int .u64 ((k * 4503599627370496 : Nat) : Int)),
   Fx.of (.int .u64 ((oe m k : Nat) : Int)),
   Fx.of (.int .u64 ((oe m k : Nat) : Int))]) mixed rfl trivial (fun _ h => by cases h) ?_ ?_
  · refine ⟨?_, ?_, ?_, ?_, ?_, ?_, ?_, ?_, ?_, ?_, ?_, ?_, ?_, ?_, ?_, ?_, ?_, ?_, ?_, ?_, ?_, ?_, trivial⟩
    · intro vs X wq K;exact zi rfl ⟨Below.refl _ _, Left.of rfl⟩
    · intro vs X wq K;exact zi rfl ⟨Below.refl _ _, Left.of rfl⟩
    · intro vs X wq K;exact zi rfl ⟨Below.refl _ _, Left.of rfl⟩
    · intro vs X wq K;obtain ⟨_, e2, k2⟩ := K.dep 2 rfl rfl rfl;refine zd 206 (.pointer (some ⟨8, 0, none⟩)) rfl e2 ?_;exact zk rfl ⟨Below.refl _ _, Left.of rfl⟩
    · intro vs X wq K;obtain ⟨_, e3, k3⟩ := K.dep 3 rfl rfl rfl;refine zd 207 (.pointer (some ⟨8, 0, none⟩)) rfl e3 ?_;exact ze Tryz.underlying206 rfl sz3 (by decide) rfl ⟨Below.refl _ _, Left.of rfl⟩
    · intro vs X wq K;have LE := K.1;obtain ⟨_, e4, k4⟩ := K.dep 4 rfl rfl rfl;refine zd 208 (.pointer (some ⟨8, 2, none⟩)) rfl e4 ?_;exact yl Tryz.underlying3 rfl rfl (HF.on (E.drew.trans (LE.mono OY))).here.2 ⟨Below.refl _ _, Left.of rfl⟩
    · intro vs X wq K;obtain ⟨_, e1, k1⟩ := K.dep 1 rfl rfl rfl;refine zd 205 (.int .i64 (((k : Nat) : Int) - 1023)) rfl e1 ?_;obtain ⟨_, e5, k5⟩ := K.dep 5 rfl rfl rfl;refine zd 209 (.int .i64 (-1023)) rfl e5 ?_;exact yd rfl rfl (zp (by omega)) ⟨Below.refl _ _, Left.of ((by congr 1; omega : (.int .i64 ((((k : Nat) : Int) - 1023) - (-1023)) : Value) = _))⟩
    · intro vs X wq K;exact zi rfl ⟨Below.refl _ _, Left.of rfl⟩
    · intro vs X wq K;obtain ⟨_, e7, k7⟩ := K.dep 7 rfl rfl rfl;refine zd 211 (.pointer (some ⟨8, 0, none⟩)) rfl e7 ?_;exact zk rfl ⟨Below.refl _ _, Left.of rfl⟩
    · intro vs X wq K;obtain ⟨_, e8, k8⟩ := K.dep 8 rfl rfl rfl;refine zd 212 (.pointer (some ⟨8, 0, none⟩)) rfl e8 ?_;exact ze Tryz.underlying206 rfl od (by decide) rfl ⟨Below.refl _ _, Left.of rfl⟩
    · intro vs X wq K;have LE := K.1;obtain ⟨_, e9, k9⟩ := K.dep 9 rfl rfl rfl;refine zd 213 (.pointer (some ⟨8, 1, none⟩)) rfl e9 ?_;exact yl Tryz.underlying144 rfl rfl (HF.on (E.drew.trans (LE.mono OY))).here.1.2 ⟨Below.refl _ _, Left.of rfl⟩
    · intro vs X wq K;obtain ⟨_, e10, k10⟩ := K.dep 10 rfl rfl rfl;refine zd 214 (.int .u64 11) rfl e10 ?_;exact qm (z := 2048) rfl rfl (by decide) (by kernel_rfl) ⟨Below.refl _ _, Left.of rfl⟩
    · intro vs X wq K;obtain ⟨_, e11, k11⟩ := K.dep 11 rfl rfl rfl;refine zd 215 (.int .i64 2048) rfl e11 ?_;exact yd (z := 2047) rfl rfl (by kernel_rfl) ⟨Below.refl _ _, Left.of rfl⟩
    · intro vs X wq K;obtain ⟨_, e6, k6⟩ := K.dep 6 rfl rfl rfl;refine zd 210 (.int .i64 ((k : Nat) : Int)) rfl e6 ?_;obtain ⟨_, e12, k12⟩ := K.dep 12 rfl rfl rfl;refine zd 216 (.int .i64 2047) rfl e12 ?_;exact vd rfl rfl (and_i2047 hee) ⟨Below.refl _ _, Left.of rfl⟩
    · intro vs X wq K;obtain ⟨_, e13, k13⟩ := K.dep 13 rfl rfl rfl;refine zd 217 (.int .i64 ((k : Nat) : Int)) rfl e13 ?_;exact yx Tryz.underlying32 Tryz.underlying3 rfl (wrap_u64 (by omega)) ⟨Below.refl _ _, Left.of rfl⟩
    · intro vs X wq K;exact zi rfl ⟨Below.refl _ _, Left.of rfl⟩
    · intro vs X wq K;obtain ⟨_, e15, k15⟩ := K.dep 15 rfl rfl rfl;refine zd 219 (.pointer (some ⟨8, 0, none⟩)) rfl e15 ?_;exact zk rfl ⟨Below.refl _ _, Left.of rfl⟩
    · intro vs X wq K;obtain ⟨_, e16, k16⟩ := K.dep 16 rfl rfl rfl;refine zd 220 (.pointer (some ⟨8, 0, none⟩)) rfl e16 ?_;exact ze Tryz.underlying206 rfl od (by decide) rfl ⟨Below.refl _ _, Left.of rfl⟩
    · intro vs X wq K;have LE := K.1;obtain ⟨_, e17, k17⟩ := K.dep 17 rfl rfl rfl;refine zd 221 (.pointer (some ⟨8, 0, none⟩)) rfl e17 ?_;exact yl Tryz.underlying144 rfl rfl (HF.on (E.drew.trans (LE.mono OY))).here.1.1.2 ⟨Below.refl _ _, Left.of rfl⟩
    · intro vs X wq K;obtain ⟨_, e14, k14⟩ := K.dep 14 rfl rfl rfl;refine zd 218 (.int .u64 ((k : Nat) : Int)) rfl e14 ?_;obtain ⟨_, e18, k18⟩ := K.dep 18 rfl rfl rfl;refine zd 222 (.int .u64 52) rfl e18 ?_;exact qm rfl rfl (by decide) (shl_52 hee) ⟨Below.refl _ _, Left.of rfl⟩
    · intro vs X wq K;obtain ⟨_, e0, k0⟩ := K.dep 0 rfl rfl rfl;refine zd 204 (.int .u64 ((m &&& 4503599627370495 : Nat) : Int)) rfl e0 ?_;obtain ⟨_, e19, k19⟩ := K.dep 19 rfl rfl rfl;refine zd 223 (.int .u64 ((k * 4503599627370496 : Nat) : Int)) rfl e19 ?_;exact kh rfl rfl (slowC_or hee) ⟨Below.refl _ _, Left.of rfl⟩
    · intro vs X wq K;obtain ⟨_, e20, k20⟩ := K.dep 20 rfl rfl rfl;refine zd 224 (.int .u64 ((oe m k : Nat) : Int)) rfl e20 ?_;exact vc rfl ⟨Below.refl _ _, Left.of rfl⟩
  intro vs w43 LE AO AL AF AA;have LBa := Ba;replace Ba := Ba.drew.extN LE NotIn.nil;replace E := E.drew.trans (LE.mono OY);obtain ⟨_, e21, k21⟩ := AL.2.2.2.2.2.2.2.2.2.2.2.2.2.2.2.2.2.2.2.2.2.1;refine vj (τ := [(0, _), (1, _), (5, _), (11, .int .u64 ((oe m k : Nat) : Int))]) ⟨rfl, rfl, rfl, congrArg some e21, trivial⟩ ?_;clear AL AF AA LE AO OY e21 k21 LBa
  refine zc (zb (srx (mvx rfl (za rfl (zk rfl (za rfl (ze Tryz.underlying193 rfl sz4 (by decide) rfl (za rfl (zy Tryz.underlying4 rfl rfl Ba (ngAt hl5 t.neg hn5) (rnx (yh rfl (fun hng => ?_) (fun hng => ?_))))))))))))
  ·
   have OY : ∀ q9, (Mut (gy [])) q9 → q9 < (World.drew w43).heap.size → (Mut [(some ga)]) q9 := fun k h _ => (Mut.none_) k h;refine qo (Mut [(some ga)]) (Mut.grow Mut.none_ (yf Ba.lt)) [] [] (kq [Fx.of (.int .u64 ((oe m k : Nat) : Int)),
    Fx.of (.pointer (some ⟨8, 0, none⟩)),
    Fx.of (.pointer (some ⟨8, 0, none⟩)),
    Fx.of (.pointer (some ⟨8, 0, none⟩)),
    Fx.of (.int .u64 52),
    Fx.of (.int .u64 4503599627370496),
    Fx.of (.pointer (some ⟨8, 0, none⟩)),
    Fx.of (.pointer (some ⟨8, 0, none⟩)),
    Fx.of (.pointer (some ⟨8, 1, none⟩)),
    Fx.of (.int .u64 11),
    Fx.of (.int .u64 9223372036854775808),
    Fx.of (.int .u64 ((oe m k ||| 9223372036854775808 : Nat) : Int)),
    Fx.of (.int .u64 ((oe m k ||| 9223372036854775808 : Nat) : Int))]) mixed rfl trivial (fun _ h => by cases h) ?_ ?_
   · refine ⟨?_, ?_, ?_, ?_, ?_, ?_, ?_, ?_, ?_, ?_, ?_, ?_, ?_, trivial⟩
     · intro vs X wq K;exact zi rfl ⟨Below.refl _ _, Left.of rfl⟩
     · intro vs X wq K;exact zi rfl ⟨Below.refl _ _, Left.of rfl⟩
     · intro vs X wq K;obtain ⟨_, e1, k1⟩ := K.dep 1 rfl rfl rfl;refine zd 230 (.pointer (some ⟨8, 0, none⟩)) rfl e1 ?_;exact zk rfl ⟨Below.refl _ _, Left.of rfl⟩
     · intro vs X wq K;obtain ⟨_, e2, k2⟩ := K.dep 2 rfl rfl rfl;refine zd 231 (.pointer (some ⟨8, 0, none⟩)) rfl e2 ?_;exact ze Tryz.underlying206 rfl od (by decide) rfl ⟨Below.refl _ _, Left.of rfl⟩
     · intro vs X wq K;have LE := K.1;obtain ⟨_, e3, k3⟩ := K.dep 3 rfl rfl rfl;refine zd 232 (.pointer (some ⟨8, 0, none⟩)) rfl e3 ?_;exact yl Tryz.underlying144 rfl rfl (HF.on (E.drew.trans (LE.mono OY))).here.1.1.2 ⟨Below.refl _ _, Left.of rfl⟩
     · intro vs X wq K;obtain ⟨_, e4, k4⟩ := K.dep 4 rfl rfl rfl;refine zd 233 (.int .u64 52) rfl e4 ?_;exact qm (z := 4503599627370496) rfl rfl (by decide) (by kernel_rfl) ⟨Below.refl _ _, Left.of rfl⟩
     · intro vs X wq K;exact zi rfl ⟨Below.refl _ _, Left.of rfl⟩
     · intro vs X wq K;obtain ⟨_, e6, k6⟩ := K.dep 6 rfl rfl rfl;refine zd 235 (.pointer (some ⟨8, 0, none⟩)) rfl e6 ?_;exact zk rfl ⟨Below.refl _ _, Left.of rfl⟩
     · intro vs X wq K;obtain ⟨_, e7, k7⟩ := K.dep 7 rfl rfl rfl;refine zd 236 (.pointer (some ⟨8, 0, none⟩)) rfl e7 ?_;exact ze Tryz.underlying206 rfl od (by decide) rfl ⟨Below.refl _ _, Left.of rfl⟩
     · intro vs X wq K;have LE := K.1;obtain ⟨_, e8, k8⟩ := K.dep 8 rfl rfl rfl;refine zd 237 (.pointer (some ⟨8, 1, none⟩)) rfl e8 ?_;exact yl Tryz.underlying144 rfl rfl (HF.on (E.drew.trans (LE.mono OY))).here.1.2 ⟨Below.refl _ _, Left.of rfl⟩
     · intro vs X wq K;obtain ⟨_, e5, k5⟩ := K.dep 5 rfl rfl rfl;refine zd 234 (.int .u64 4503599627370496) rfl e5 ?_;obtain ⟨_, e9, k9⟩ := K.dep 9 rfl rfl rfl;refine zd 238 (.int .u64 11) rfl e9 ?_;exact qm (z := 9223372036854775808) rfl rfl (by decide) (by kernel_rfl) ⟨Below.refl _ _, Left.of rfl⟩
     · intro vs X wq K;obtain ⟨_, e0, k0⟩ := K.dep 0 rfl rfl rfl;refine zd 229 (.int .u64 ((oe m k : Nat) : Int)) rfl e0 ?_;obtain ⟨_, e10, k10⟩ := K.dep 10 rfl rfl rfl;refine zd 239 (.int .u64 9223372036854775808) rfl e10 ?_;exact kh rfl rfl (slowC_neg hee) ⟨Below.refl _ _, Left.of rfl⟩
     · intro vs X wq K;obtain ⟨_, e11, k11⟩ := K.dep 11 rfl rfl rfl;refine zd 240 (.int .u64 ((oe m k ||| 9223372036854775808 : Nat) : Int)) rfl e11 ?_;exact vc rfl ⟨Below.refl _ _, Left.of rfl⟩
   intro vs w44 LE AO AL AF AA;have LBa := Ba;replace Ba := Ba.drew.extN LE NotIn.nil;replace E := E.drew.trans (LE.mono OY);obtain ⟨_, e12, k12⟩ := AL.2.2.2.2.2.2.2.2.2.2.2.2.1;refine vj (τ := [(5, _), (11, .int .u64 ((oe m k ||| 9223372036854775808 : Nat) : Int))]) ⟨rfl, congrArg some e12, trivial⟩ ?_;clear AL AF AA LE AO OY e12 k12 LBa
   refine zc (srx (mvx rfl (mvx rfl (avx rfl (anx rfl (zt (gq ?_)))))));have e : zgz t = oe m k ||| 9223372036854775808 := by unfold zgz slowB oe; rw [hfb, if_pos hng]
   refine zr (rs := [.tmp 4, .tmp 5]) (vs := [_, _]) rfl ⟨rfl, rfl, trivial⟩ ?_;exact ⟨by rw [e, hfb]; rfl, ⟨_, Ba⟩, (LW.step E XLW)⟩
  ·
   refine zf (zc (srx (mvx rfl (mvx rfl (avx rfl (anx rfl (zt (gq ?_))))))));have e : zgz t = oe m k := by unfold zgz slowB oe; rw [hfb, if_neg (by rw [hng]; decide)]
   refine zr (rs := [.tmp 4, .tmp 5]) (vs := [_, _]) rfl ⟨rfl, rfl, trivial⟩ ?_;exact ⟨by rw [e, hfb]; rfl, ⟨_, Ba⟩, (LW.step E XLW)⟩
end
end Go.Proofs.YtjdcjdohghkcgaaGreatDoor
namespace Go.Proofs.YtjdcjdohghkcgaaGreatDoor
open Go.RowKit
set_option maxRecDepth 100000
attribute [local irreducible] OW RS
theorem putIn {s : ByteArray} {a : StS} (h1 : bAt s a.i ≠ 46) (h2 : ¬ (bAt s a.i = 48 ∧ a.t.nd = 0)) (h3 : a.t.nd < 800) : ki s a = { a with i := a.i + 1, dig := true, t := { a.t with d := a.t.d.set a.t.nd (bAt s a.i), nd := a.t.nd + 1 } } := by
 unfold ki; rw [if_neg h1, if_neg h2, if_pos h3]
theorem putOut {s : ByteArray} {a : StS} (h1 : bAt s a.i ≠ 46) (h2 : ¬ (bAt s a.i = 48 ∧ a.t.nd = 0)) (h3 : ¬ a.t.nd < 800) : ki s a = { a with i := a.i + 1, dig := true, t := { a.t with tr := if bAt s a.i ≠ 48 then true else a.t.tr } } := by
 unfold ki; rw [if_neg h1, if_neg h2, if_neg h3]
theorem pt190_1 : Gives 190 #[.int .u8 101] (.int .u8 101) := by
 intro w;refine zo Tryz.func190 rfl Tryz.ntmps190 rfl ?_;have LW := erx (No) w;have XLW := grx (No) w;have E := erx (No) w;refine srx (anx rfl (srx (mvx rfl (za rfl (kh (z := 101) rfl rfl (by kernel_rfl) (anx rfl (zt (zr (rs := [.tmp 2]) (vs := [.int .u8 101]) rfl ⟨rfl, trivial⟩ ?_))))))));exact ⟨rfl, (LW.step E XLW).toBelow⟩
section
variable (w : World)
theorem set_any (ga : Nat) (s : ByteArray) (f : Nat) (neg : Bool) {p Z q : Nat} (hsg : SgnAt s f neg) (hs : Nm s f p Z q) (hl : s.size < 100000) (hB : Blk w ga 193 (yy (zpk false))) :
 Calls Tryz.prog 179 #[.pointer (some ⟨ga, 0, none⟩), .string s] w fun e w' => e = .returned (.bool true) ∧ Blk w' ga 193 (yy (setD s f neg)) ∧ Ext (Mut [some ga]) w w' := by
 have hfs : f < s.size := hs.size;have hfd := hs.first;have hl0 : (zpk false).d.length = 800 := (dec0_ok false).len;refine zo Tryz.func179 rfl Tryz.ntmps179 rfl ?_;have Ba := hB;have LW := erx (Mut [(some ga)]) w;have XLW := grx (Mut [(some ga)]) w;have E := erx (Mut [(some ga)]) w
 refine srx (anx rfl (srx (anx rfl (srx (mvx rfl (za rfl (zk rfl (za rfl (ze Tryz.underlying193 rfl sz4 (by decide) rfl (qf (qq sz4 rfl rfl Ba rfl rfl (in_ hl0 (by decide : 802 < 804)) (set_neg hl0 false) ?_)))))))))));intro w1 Bx Ea;replace Ba : Blk w1 ga 193 (yy (zpk false)) := Bx;replace E := E.step1 Ea Mut.head
 refine rnx (srx (mvx rfl (za rfl (zk rfl (za rfl (ze Tryz.underlying193 rfl sz4 (by decide) rfl (qf (qq sz4 rfl rfl Ba rfl rfl (in_ hl0 (by decide : 803 < 804)) (ynk hl0 false) ?_))))))));intro w2 Bx Ea;replace Ba : Blk w2 ga 193 (yy (zpk false)) := Bx;replace E := E.step1 Ea Mut.head
 refine rnx (zb (srx (mvx rfl (mvx rfl (za rfl (qr Tryz.underlying9 rfl (za rfl (qz rfl rfl (rnx (yc 19 (.bool false) rfl ((by rw [decide_eq_false (by omega)] : (.bool (decide (((s.size : Nat) : Int) ≤ 0)) : Value) = _)) (zj rfl (zf (zc (zb (srx (mvx rfl (mvx rfl (za rfl (yj (j := 0) (b := bAt s 0) Tryz.underlying9 rfl rfl rfl (qc (by omega)) (rnx ?_))))))))))))))))))))
 replace LW := LW.step E XLW;replace E := erx (Mut [(some ga)]) w2;refine qk (ι := Unit) (fun _ => [(0, .pointer (some ⟨ga, 0, none⟩)), (1, .string s), (4, .bool false), (5, .int .i64 ((f : Nat) : Int))]) (fun _ w' => Ext (Mut [(some ga)]) w2 w' ∧ Blk w' ga 193 (yy (zpk neg)) ∧ (True)) ?_ ?_
 ·
  have M3 := erx (Mut [(some ga)]) w2;have XM3 := grx (Mut [(some ga)]) w2;refine zw (srx (za rfl (zx rfl rfl (anx rfl ?_))));by_cases hneg : neg = true
  ·
   obtain ⟨hf1, h45⟩ := hsg.neg hneg
   refine yc 23 (.bool false) rfl ((by rw [h45]; rfl : (.bool (((bAt s 0 : Nat) : Int) == 43) : Value) = _)) (zj rfl (srx (za rfl (zx rfl rfl (anx rfl (yc 27 (.bool true) rfl ((by rw [h45]; rfl : (.bool (((bAt s 0 : Nat) : Int) == 45) : Value) = _)) (zz rfl (srx (mvx rfl (za rfl (yb (z := 1) rfl rfl (by kernel_rfl) (anx rfl (zh (mvx rfl (za rfl (zk rfl (za rfl (ze Tryz.underlying193 rfl sz4 (by decide) rfl (qf (qq sz4 rfl rfl Ba rfl rfl (in_ hl0 (by decide : 802 < 804)) (set_neg hl0 true) ?_))))))))))))))))))))
   intro w5 Bx Ea;replace Ba : Blk w5 ga 193 (yy (zpk true)) := Bx;replace E := E.step1 Ea Mut.head;refine yg (zl (yw 5 (.int .i64 ((f : Nat) : Int)) rfl ((by rw [hf1]; rfl : (.int .i64 1 : Value) = _)) ?_));replace Ba : Blk w5 ga 193 (yy (zpk neg)) := by rw [hneg]; exact Ba
   exact yq () ⟨rfl, rfl, rfl, rfl, trivial⟩ ⟨M3.step E XM3, (by exact Ba), trivial⟩
  ·
   have hf0 := hsg.pos hneg;rw [hf0] at hfd
   refine yc 23 (.bool false) rfl ((by rw [jq (by omega)] : (.bool (((bAt s 0 : Nat) : Int) == 43) : Value) = _)) (zj rfl (srx (za rfl (zx rfl rfl (anx rfl (yc 27 (.bool false) rfl ((by rw [jq (by omega)] : (.bool (((bAt s 0 : Nat) : Int) == 45) : Value) = _)) (zj rfl (zf (zl (yw 5 (.int .i64 ((f : Nat) : Int)) rfl ((by rw [hf0]; rfl : (.int .i64 0 : Value) = _)) ?_))))))))))
   replace Ba : Blk w2 ga 193 (yy (zpk neg)) := by rw [Bool.eq_false_iff.2 hneg]; exact Ba
   exact yq () ⟨rfl, rfl, rfl, rfl, trivial⟩ ⟨M3.step E XM3, (by exact Ba), trivial⟩
 ·
  have LTa := (yf Ba.lt);clear Ba;rintro _ w4 ⟨M3, Ba, _⟩;replace E := E.trans M3;replace LW := LW.step E XLW;replace E := erx (Mut [(some ga)]) w4;refine srx (anx rfl (srx (anx rfl (zb ?_))));replace LW := LW.step E XLW;replace E := erx (Mut [(some ga)]) w4
  refine qk (ι := StS) (fun x => [(0, .pointer (some ⟨ga, 0, none⟩)), (1, .string s), (4, .bool false), (5, .int .i64 ((x.i : Nat) : Int)), (6, .bool x.dot), (7, .bool x.dig)]) (fun x w' => Ext (Mut [(some ga)]) w4 w' ∧ Blk w' ga 193 (yy x.t) ∧ (x = stA s f neg)) ?_ ?_
  ·
   have M6 := erx (Mut [(some ga)]) w4;have XM6 := grx (Mut [(some ga)]) w4;refine zw ?_;replace M6 := M6.step E XM6;replace E := erx (Mut [(some ga)]) w4
   refine jo (ι := StS) (fun x => [(0, .pointer (some ⟨ga, 0, none⟩)), (1, .string s), (4, .bool false), (5, .int .i64 ((x.i : Nat) : Int)), (6, .bool x.dot), (7, .bool x.dig)]) (fun x w' => Ext (Mut [(some ga)]) w4 w' ∧ Blk w' ga 193 (yy x.t) ∧ (StN s f p Z q x ∧ vb (og s) (ki s) x = stA s f neg)) (fun x => Z - x.i) (⟨f, false, false, zpk neg⟩) ⟨rfl, rfl, rfl, rfl, rfl, rfl, trivial⟩ ⟨Ext.refl _ _, (by exact Ba), ynx neg hs, rfl⟩ ?_
   have LTa := (yf Ba.lt);clear Ba;rintro x w9 ⟨M8, Ba, ⟨hI, hu⟩⟩;have XM8 : Gro (Mut [(some ga)]) (Mut [(some ga)]) w4 := (Mut.grow Mut.none_ (fun k e => Or.inl (Mut.head k e)));replace E := E.trans M8;replace M6 := M6.step E XM6;replace E := erx (Mut [(some ga)]) w9;have hlx := hI.dec.len;have hnx := hI.dec.hn;have hsE := hs.hE;have hiE := hI.iE;have hfi := hI.fi;have hpp := hI.hp
   refine zb (srx (mvx rfl (mvx rfl (za rfl (qr Tryz.underlying9 rfl (za rfl (yp rfl rfl (rnx (yh rfl (fun h1 => ?_) (fun h1 => ?_))))))))))
   ·
    have h1 : x.i < s.size := by have h1 := of_decide_eq_true h1; omega
    refine zf (zc (zb (zw (zb (zw (srx (mvx rfl (mvx rfl (za rfl (yj (j := x.i) (b := bAt s (x.i)) Tryz.underlying9 rfl rfl rfl (qc (by omega)) ?_))))))))));by_cases hE2 : x.i < Z
    ·
     have hdone := stN_cont hs hI hE2;have hkeep := (ynz hs hI hdone).1;have hu2 := hu;rw [vk hdone] at hu2;have hc := hs.at_ hfi hE2;have hb := bAt_lt s x.i
     refine za rfl (zx rfl rfl (anx rfl (yc 40 (.bool false) rfl ((by rw [jq (by omega)] : (.bool (((bAt s (x.i) : Nat) : Int) == 95) : Value) = _)) (zj rfl (srx (mvx rfl (mvx rfl (za rfl (yj (j := x.i) (b := bAt s (x.i)) Tryz.underlying9 rfl rfl rfl (qc (by omega)) (za rfl (zx rfl rfl (anx rfl ?_))))))))))));by_cases hdot : bAt s x.i = 46
     ·
      have hstep : ki s x = { x with i := x.i + 1, dot := true, t := { x.t with dp := ((x.t.nd : Nat) : Int) } } := by unfold ki; rw [if_pos hdot]
      have hnodot : x.dot = false := by
       rcases hc with ⟨_, h3⟩ | ⟨h3, _⟩
       · omega
       · cases h4 : x.dot with
         | false => rfl
         | true => have := hI.dt h4; omega
      rw [hstep] at hkeep hu2
      refine yc 45 (.bool true) rfl ((by rw [hdot]; rfl : (.bool (((bAt s (x.i) : Nat) : Int) == 46) : Value) = _)) (zz rfl (zb (srx (mvx rfl (rnx (yc 50 (.bool false) rfl ((by rw [hnodot] : (.bool x.dot : Value) = _)) (zj rfl (zf (zc (srx (anx rfl (srx (mvx rfl (mvx rfl (za rfl (zk rfl (za rfl (ze Tryz.underlying193 rfl sz3 (by decide) rfl (za rfl (zy Tryz.underlying3 rfl rfl Ba (oi hlx (x.t.nd) rfl) (za rfl (zk rfl (za rfl (ze Tryz.underlying193 rfl sz3 (by decide) rfl (qf (qq sz3 rfl rfl Ba rfl rfl (in_ hlx (by decide : 801 < 804)) (ydx hlx ((x.t.nd : Nat) : Int)) ?_))))))))))))))))))))))))))
      intro w10 Bx Ea;replace Ba : Blk w10 ga 193 (yy { x.t with dp := ((x.t.nd : Nat) : Int) }) := Bx;replace E := E.step1 Ea Mut.head;refine rnx (yr (yu rfl (zn (ya (zc (zh (mvx rfl (za rfl (yb rfl rfl (zp (by omega)) (avx rfl (yg (yw 5 (.int .i64 ((x.i + 1 : Nat) : Int)) rfl (rfl) ?_))))))))))))
      exact yt ({ x with i := x.i + 1, dot := true, t := { x.t with dp := ((x.t.nd : Nat) : Int) } }) (by show Z - (x.i + 1) < Z - x.i; omega) ⟨rfl, rfl, rfl, rfl, rfl, rfl, trivial⟩ ⟨M8.step E XM8, (by exact Ba), hkeep, hu2⟩
     ·
      have hc : 48 ≤ bAt s x.i ∧ bAt s x.i ≤ 57 := by omega
      refine yc 45 (.bool false) rfl ((by rw [jq (by omega)] : (.bool (((bAt s (x.i) : Nat) : Int) == 46) : Value) = _)) (zj rfl (srx (mvx rfl (mvx rfl (za rfl (yj (j := x.i) (b := bAt s (x.i)) Tryz.underlying9 rfl rfl rfl (qc (by omega)) (za rfl (kw rfl rfl (mvx rfl (zv 63 (.bool true) rfl ((by rw [decide_eq_true (by omega)] : (.bool (decide (48 ≤ ((bAt s (x.i) : Nat) : Int))) : Value) = _)) (onx rfl (zi rfl (onx rfl (zi rfl (onx rfl (yj (j := x.i) (b := bAt s (x.i)) Tryz.underlying9 rfl rfl rfl (qc (by omega)) (onx rfl (kw rfl rfl (za rfl (yk rfl rfl (anx rfl (yc 58 (.bool true) rfl ((by rw [decide_eq_true (by omega)] : (.bool (decide (((bAt s (x.i) : Nat) : Int) ≤ 57)) : Value) = _)) (zz rfl (srx (anx rfl (zb (srx (mvx rfl (mvx rfl (za rfl (yj (j := x.i) (b := bAt s (x.i)) Tryz.underlying9 rfl rfl rfl (qc (by omega)) (za rfl (zx rfl rfl (mvx rfl (gk 73 rfl (fun h3 => ?_) (fun h3 => ?_))))))))))))))))))))))))))))))))))))
      ·
       have h3 : bAt s x.i = 48 := by have h3 := eq_of_beq h3; omega
       refine onx rfl (zi rfl (onx rfl (zk rfl (onx rfl (ze Tryz.underlying193 rfl sz3 (by decide) rfl (onx rfl (zy Tryz.underlying3 rfl rfl Ba (oi hlx (x.t.nd) rfl) (onx rfl (zx rfl rfl (za rfl (yk rfl rfl (rnx (yh rfl (fun h4 => ?_) (fun h4 => ?_))))))))))))))
       ·
        have h4 : x.t.nd = 0 := by have h4 := eq_of_beq h4; omega
        have hstep : ki s x = { x with i := x.i + 1, dig := true, t := { x.t with dp := x.t.dp - 1 } } := by unfold ki; rw [if_neg hdot, if_pos ⟨h3, h4⟩]
        rw [hstep] at hkeep hu2
        refine srx (mvx rfl (za rfl (zk rfl (za rfl (ze Tryz.underlying193 rfl sz3 (by decide) rfl (za rfl (zy Tryz.underlying3 rfl rfl Ba (zvx hlx x.t.dp rfl) (za rfl (yd rfl rfl (zp (by omega)) (za rfl (zk rfl (za rfl (ze Tryz.underlying193 rfl sz3 (by decide) rfl (qf (qq sz3 rfl rfl Ba rfl rfl (in_ hlx (by decide : 801 < 804)) (ydx hlx (x.t.dp - 1)) ?_)))))))))))))))
        intro w11 Bx Ea;replace Ba : Blk w11 ga 193 (yy { x.t with dp := x.t.dp - 1 }) := Bx;replace E := E.step1 Ea Mut.head;refine rnx (yr (zn (yu rfl (zn (ya (zc (zh (mvx rfl (za rfl (yb rfl rfl (zp (by omega)) (avx rfl (yg (yw 5 (.int .i64 ((x.i + 1 : Nat) : Int)) rfl (rfl) ?_)))))))))))))
        exact yt ({ x with i := x.i + 1, dig := true, t := { x.t with dp := x.t.dp - 1 } }) (by show Z - (x.i + 1) < Z - x.i; omega) ⟨rfl, rfl, rfl, rfl, rfl, rfl, trivial⟩ ⟨M8.step E XM8, (by exact Ba), hkeep, hu2⟩
       ·
        have hnz : ¬ (bAt s x.i = 48 ∧ x.t.nd = 0) := fun h => absurd h4 (by rw [h.2]; decide)
        refine zf (zc (zb (srx (mvx rfl (za rfl (zk rfl (za rfl (ze Tryz.underlying193 rfl sz3 (by decide) rfl (za rfl (zy Tryz.underlying3 rfl rfl Ba (oi hlx (x.t.nd) rfl) (za rfl (yp rfl rfl (rnx (yh rfl (fun h5 => ?_) (fun h5 => ?_)))))))))))))))
        ·
         have h5 : x.t.nd < 800 := by have h5 := of_decide_eq_true h5; omega
         have hst := putIn hdot hnz h5;have hst2 : (x.t.d.set x.t.nd (bAt s x.i)).length = 800 := by rw [List.length_set]; exact hlx
         have hly : ({ x.t with d := x.t.d.set x.t.nd (bAt s x.i) } : Dec).d.length = 800 := hst2;rw [hst] at hkeep hu2;refine zb ?_;have OY : ∀ q9, (Mut (gy [])) q9 → q9 < (World.drew w9).heap.size → (Mut [(some ga)]) q9 := fun k h _ => (Mut.none_) k h;refine cw_any mixed (ak_cut 11 rfl ?_)
         refine ykk (Mut [(some ga)]) (Mut.grow Mut.none_ (yf Ba.lt)) [] [] (kq [Fx.of (.pointer (some ⟨ga, 0, none⟩)),
          Fx.of (.pointer (some ⟨ga, 0, none⟩)),
          Fx.of (.pointer (some ⟨ga, 0, none⟩)),
          Fx.of (.pointer (some ⟨ga, 800, none⟩)),
          Fx.of (.int .i64 ((x.t.nd : Nat) : Int)),
          Fx.of (.string s),
          Fx.of (.int .i64 ((x.i : Nat) : Int)),
          Fx.of (.int .u8 ((bAt s x.i : Nat) : Int)),
          Fx.of (.pointer (some ⟨ga, 0, none⟩)),
          Fx.of (.pointer (some ⟨ga, 0, none⟩)),
          Fx.of (.pointer (some ⟨ga, x.t.nd, none⟩))]) rfl trivial (fun _ h => by cases h) ?_ ?_
         · refine ⟨?_, ?_, ?_, ?_, ?_, ?_, ?_, ?_, ?_, ?_, ?_, trivial⟩
           · intro vs X wq K;exact zi rfl ⟨Below.refl _ _, Left.of rfl⟩
           · intro vs X wq K;exact zi rfl ⟨Below.refl _ _, Left.of rfl⟩
           · intro vs X wq K;obtain ⟨_, e1, k1⟩ := K.dep 1 rfl rfl rfl;refine zd 93 (.pointer (some ⟨ga, 0, none⟩)) rfl e1 ?_;exact zk rfl ⟨Below.refl _ _, Left.of rfl⟩
           · intro vs X wq K;obtain ⟨_, e2, k2⟩ := K.dep 2 rfl rfl rfl;refine zd 94 (.pointer (some ⟨ga, 0, none⟩)) rfl e2 ?_;exact ze Tryz.underlying193 rfl sz3 (by decide) rfl ⟨Below.refl _ _, Left.of rfl⟩
           · intro vs X wq K;have LE := K.1;obtain ⟨_, e3, k3⟩ := K.dep 3 rfl rfl rfl;refine zd 95 (.pointer (some ⟨ga, 800, none⟩)) rfl e3 ?_;exact zy Tryz.underlying3 rfl rfl (Ba.drew.extN LE NotIn.nil) (oi hlx x.t.nd rfl) ⟨Below.refl _ _, Left.of rfl⟩
           · intro vs X wq K;exact zi rfl ⟨Below.refl _ _, Left.of rfl⟩
           · intro vs X wq K;exact zi rfl ⟨Below.refl _ _, Left.of rfl⟩
           · intro vs X wq K;obtain ⟨_, e5, k5⟩ := K.dep 5 rfl rfl rfl;refine zd 97 (.string s) rfl e5 ?_;obtain ⟨_, e6, k6⟩ := K.dep 6 rfl rfl rfl;refine zd 98 (.int .i64 ((x.i : Nat) : Int)) rfl e6 ?_;exact yj (j := x.i) (b := bAt s x.i) Tryz.underlying9 rfl rfl rfl (qc (by omega)) ⟨Below.refl _ _, Left.of rfl⟩
           · intro vs X wq K;obtain ⟨_, e0, k0⟩ := K.dep 0 rfl rfl rfl;refine zd 92 (.pointer (some ⟨ga, 0, none⟩)) rfl e0 ?_;exact zk rfl ⟨Below.refl _ _, Left.of rfl⟩
           · intro vs X wq K;obtain ⟨_, e8, k8⟩ := K.dep 8 rfl rfl rfl;refine zd 100 (.pointer (some ⟨ga, 0, none⟩)) rfl e8 ?_;exact ze Tryz.underlying193 rfl zax (by decide) rfl ⟨Below.refl _ _, Left.of rfl⟩
           · intro vs X wq K;obtain ⟨_, e9, k9⟩ := K.dep 9 rfl rfl rfl;refine zd 101 (.pointer (some ⟨ga, 0, none⟩)) rfl e9 ?_;obtain ⟨_, e4, k4⟩ := K.dep 4 rfl rfl rfl;refine zd 96 (.int .i64 ((x.t.nd : Nat) : Int)) rfl e4 ?_;exact qx (j := x.t.nd) Tryz.underlying191 sz5 rfl rfl rfl (by omega) ⟨Below.refl _ _, Left.of rfl⟩
         intro vs w12 LE AO AL AF AA;have LBa := Ba;replace Ba := Ba.drew.extN LE NotIn.nil;replace E := E.drew.trans (LE.mono OY);obtain ⟨_, e7, k7⟩ := AL.2.2.2.2.2.2.2.1;obtain ⟨_, e10, k10⟩ := AL.2.2.2.2.2.2.2.2.2.2.1
         refine vj (τ := [(0, _), (1, _), (4, _), (5, _), (6, _), (7, _), (99, .int .u8 ((bAt s x.i : Nat) : Int)), (102, .pointer (some ⟨ga, x.t.nd, none⟩))]) ⟨rfl, rfl, rfl, rfl, rfl, rfl, congrArg some e7, congrArg some e10, trivial⟩ ?_;clear AL AF AA LE AO OY e7 e10 k7 k10 LBa
         refine ew_ak (ylx (by kernel_rfl) (fun _ _ d_ _ _ h => by cases d_ <;> exact h) (qf (qq sz5 rfl rfl Ba rfl rfl (in_ hlx (by omega)) (set_d hlx (by omega)) ?_)));intro w13 Bx Ea;replace Ba : Blk w13 ga 193 (yy { x.t with d := x.t.d.set x.t.nd (bAt s x.i) }) := Bx;replace E := E.step1 Ea Mut.head
         refine rnx (zh (mvx rfl (za rfl (zk rfl (za rfl (ze Tryz.underlying193 rfl sz3 (by decide) rfl (za rfl (zy Tryz.underlying3 rfl rfl Ba (oi hly (x.t.nd) rfl) (za rfl (yb rfl rfl (zp (by omega)) (za rfl (zk rfl (za rfl (ze Tryz.underlying193 rfl sz3 (by decide) rfl (zv 107 (.int .i64 ((x.t.nd + 1 : Nat) : Int)) rfl (rfl) (qf (qq sz3 rfl rfl Ba rfl rfl (in_ hly (by decide : 800 < 804)) (ynv hly (x.t.nd + 1)) ?_)))))))))))))))))
         intro w14 Bx Ea;replace Ba : Blk w14 ga 193 (yy { x.t with d := x.t.d.set x.t.nd (bAt s x.i), nd := x.t.nd + 1 }) := Bx;replace E := E.step1 Ea Mut.head
         refine rnx (yr (yu rfl (zn (ya (zc (zh (mvx rfl (za rfl (yb rfl rfl (zp (by omega)) (avx rfl (yg (yw 5 (.int .i64 ((x.i + 1 : Nat) : Int)) rfl (rfl) ?_))))))))))))
         exact yt ({ x with i := x.i + 1, dig := true, t := { x.t with d := x.t.d.set x.t.nd (bAt s x.i), nd := x.t.nd + 1 } }) (by show Z - (x.i + 1) < Z - x.i; omega) ⟨rfl, rfl, rfl, rfl, rfl, rfl, trivial⟩ ⟨M8.step E XM8, (by exact Ba), hkeep, hu2⟩
        ·
         have h5 : ¬ x.t.nd < 800 := by have h5 := of_decide_eq_false h5; omega
         have hst := putOut hdot hnz h5;refine srx (mvx rfl (mvx rfl (za rfl (yj (j := x.i) (b := bAt s (x.i)) Tryz.underlying9 rfl rfl rfl (qc (by omega)) (za rfl (vw rfl rfl (rnx (yh rfl (fun h6 => ?_) (fun h6 => ?_)))))))))
         ·
          have h6 : bAt s x.i ≠ 48 := fun e => absurd h6 (by rw [e]; decide);rw [if_pos h6] at hst;rw [hst] at hkeep hu2;refine zh (mvx rfl (za rfl (zk rfl (za rfl (ze Tryz.underlying193 rfl sz4 (by decide) rfl (qf (qq sz4 rfl rfl Ba rfl rfl (in_ hlx (by decide : 803 < 804)) (ynk hlx true) ?_)))))));intro w15 Bx Ea
          replace Ba : Blk w15 ga 193 (yy { x.t with tr := true }) := Bx;replace E := E.step1 Ea Mut.head;refine rnx (yr (yu rfl (zn (ya (zc (zh (mvx rfl (za rfl (yb rfl rfl (zp (by omega)) (avx rfl (yg (yw 5 (.int .i64 ((x.i + 1 : Nat) : Int)) rfl (rfl) ?_))))))))))))
          exact yt ({ x with i := x.i + 1, dig := true, t := { x.t with tr := true } }) (by show Z - (x.i + 1) < Z - x.i; omega) ⟨rfl, rfl, rfl, rfl, rfl, rfl, trivial⟩ ⟨M8.step E XM8, (by exact Ba), hkeep, hu2⟩
         ·
          have h6 : bAt s x.i = 48 := by
           rcases Nat.decEq (bAt s x.i) 48 with h7 | h7
           · rw [bne_iff_ne.2 (by omega)] at h6; cases h6
           · exact h7
          rw [if_neg (fun h => h h6)] at hst;rw [hst] at hkeep hu2;refine zf (zc (yr (yu rfl (zn (ya (zc (zh (mvx rfl (za rfl (yb rfl rfl (zp (by omega)) (avx rfl (yg (yw 5 (.int .i64 ((x.i + 1 : Nat) : Int)) rfl (rfl) ?_)))))))))))))
          exact yt ({ x with i := x.i + 1, dig := true, t := { x.t with tr := x.t.tr } }) (by show Z - (x.i + 1) < Z - x.i; omega) ⟨rfl, rfl, rfl, rfl, rfl, rfl, trivial⟩ ⟨M8.step E XM8, (by exact Ba), hkeep, hu2⟩
      ·
       have hnz : ¬ (bAt s x.i = 48 ∧ x.t.nd = 0) := fun h => absurd h3 (by rw [h.1]; decide)
       refine za rfl (zu rfl (za rfl (zu rfl (za rfl (zu rfl (za rfl (zu rfl (za rfl (zu rfl (za rfl (yi rfl rfl (rnx (zj rfl (zf (zc (zb (srx (mvx rfl (za rfl (zk rfl (za rfl (ze Tryz.underlying193 rfl sz3 (by decide) rfl (za rfl (zy Tryz.underlying3 rfl rfl Ba (oi hlx (x.t.nd) rfl) (za rfl (yp rfl rfl (rnx (yh rfl (fun h5 => ?_) (fun h5 => ?_)))))))))))))))))))))))))))))
       ·
        have h5 : x.t.nd < 800 := by have h5 := of_decide_eq_true h5; omega
        have hst := putIn hdot hnz h5;have hst2 : (x.t.d.set x.t.nd (bAt s x.i)).length = 800 := by rw [List.length_set]; exact hlx
        have hly : ({ x.t with d := x.t.d.set x.t.nd (bAt s x.i) } : Dec).d.length = 800 := hst2;rw [hst] at hkeep hu2;refine zb ?_;have OY : ∀ q9, (Mut (gy [])) q9 → q9 < (World.drew w9).heap.size → (Mut [(some ga)]) q9 := fun k h _ => (Mut.none_) k h;refine cw_any mixed (ak_cut 11 rfl ?_)
        refine ykk (Mut [(some ga)]) (Mut.grow Mut.none_ (yf Ba.lt)) [] [] (kq [Fx.of (.pointer (some ⟨ga, 0, none⟩)),
         Fx.of (.pointer (some ⟨ga, 0, none⟩)),
         Fx.of (.pointer (some ⟨ga, 0, none⟩)),
         Fx.of (.pointer (some ⟨ga, 800, none⟩)),
         Fx.of (.int .i64 ((x.t.nd : Nat) : Int)),
         Fx.of (.string s),
         Fx.of (.int .i64 ((x.i : Nat) : Int)),
         Fx.of (.int .u8 ((bAt s x.i : Nat) : Int)),
         Fx.of (.pointer (some ⟨ga, 0, none⟩)),
         Fx.of (.pointer (some ⟨ga, 0, none⟩)),
         Fx.of (.pointer (some ⟨ga, x.t.nd, none⟩))]) rfl trivial (fun _ h => by cases h) ?_ ?_
        · refine ⟨?_, ?_, ?_, ?_, ?_, ?_, ?_, ?_, ?_, ?_, ?_, trivial⟩
          · intro vs X wq K;exact zi rfl ⟨Below.refl _ _, Left.of rfl⟩
          · intro vs X wq K;exact zi rfl ⟨Below.refl _ _, Left.of rfl⟩
          · intro vs X wq K;obtain ⟨_, e1, k1⟩ := K.dep 1 rfl rfl rfl;refine zd 93 (.pointer (some ⟨ga, 0, none⟩)) rfl e1 ?_;exact zk rfl ⟨Below.refl _ _, Left.of rfl⟩
          · intro vs X wq K;obtain ⟨_, e2, k2⟩ := K.dep 2 rfl rfl rfl;refine zd 94 (.pointer (some ⟨ga, 0, none⟩)) rfl e2 ?_;exact ze Tryz.underlying193 rfl sz3 (by decide) rfl ⟨Below.refl _ _, Left.of rfl⟩
          · intro vs X wq K;have LE := K.1;obtain ⟨_, e3, k3⟩ := K.dep 3 rfl rfl rfl;refine zd 95 (.pointer (some ⟨ga, 800, none⟩)) rfl e3 ?_;exact zy Tryz.underlying3 rfl rfl (Ba.drew.extN LE NotIn.nil) (oi hlx x.t.nd rfl) ⟨Below.refl _ _, Left.of rfl⟩
          · intro vs X wq K;exact zi rfl ⟨Below.refl _ _, Left.of rfl⟩
          · intro vs X wq K;exact zi rfl ⟨Below.refl _ _, Left.of rfl⟩
          · intro vs X wq K;obtain ⟨_, e5, k5⟩ := K.dep 5 rfl rfl rfl;refine zd 97 (.string s) rfl e5 ?_;obtain ⟨_, e6, k6⟩ := K.dep 6 rfl rfl rfl;refine zd 98 (.int .i64 ((x.i : Nat) : Int)) rfl e6 ?_;exact yj (j := x.i) (b := bAt s x.i) Tryz.underlying9 rfl rfl rfl (qc (by omega)) ⟨Below.refl _ _, Left.of rfl⟩
          · intro vs X wq K;obtain ⟨_, e0, k0⟩ := K.dep 0 rfl rfl rfl;refine zd 92 (.pointer (some ⟨ga, 0, none⟩)) rfl e0 ?_;exact zk rfl ⟨Below.refl _ _, Left.of rfl⟩
          · intro vs X wq K;obtain ⟨_, e8, k8⟩ := K.dep 8 rfl rfl rfl;refine zd 100 (.pointer (some ⟨ga, 0, none⟩)) rfl e8 ?_;exact ze Tryz.underlying193 rfl zax (by decide) rfl ⟨Below.refl _ _, Left.of rfl⟩
          · intro vs X wq K;obtain ⟨_, e9, k9⟩ := K.dep 9 rfl rfl rfl;refine zd 101 (.pointer (some ⟨ga, 0, none⟩)) rfl e9 ?_;obtain ⟨_, e4, k4⟩ := K.dep 4 rfl rfl rfl;refine zd 96 (.int .i64 ((x.t.nd : Nat) : Int)) rfl e4 ?_;exact qx (j := x.t.nd) Tryz.underlying191 sz5 rfl rfl rfl (by omega) ⟨Below.refl _ _, Left.of rfl⟩
        intro vs w16 LE AO AL AF AA;have LBa := Ba;replace Ba := Ba.drew.extN LE NotIn.nil;replace E := E.drew.trans (LE.mono OY);obtain ⟨_, e7, k7⟩ := AL.2.2.2.2.2.2.2.1;obtain ⟨_, e10, k10⟩ := AL.2.2.2.2.2.2.2.2.2.2.1
        refine vj (τ := [(0, _), (1, _), (4, _), (5, _), (6, _), (7, _), (99, .int .u8 ((bAt s x.i : Nat) : Int)), (102, .pointer (some ⟨ga, x.t.nd, none⟩))]) ⟨rfl, rfl, rfl, rfl, rfl, rfl, congrArg some e7, congrArg some e10, trivial⟩ ?_;clear AL AF AA LE AO OY e7 e10 k7 k10 LBa
        refine ew_ak (ylx (by kernel_rfl) (fun _ _ d_ _ _ h => by cases d_ <;> exact h) (qf (qq sz5 rfl rfl Ba rfl rfl (in_ hlx (by omega)) (set_d hlx (by omega)) ?_)));intro w17 Bx Ea;replace Ba : Blk w17 ga 193 (yy { x.t with d := x.t.d.set x.t.nd (bAt s x.i) }) := Bx;replace E := E.step1 Ea Mut.head
        refine rnx (zh (mvx rfl (za rfl (zk rfl (za rfl (ze Tryz.underlying193 rfl sz3 (by decide) rfl (za rfl (zy Tryz.underlying3 rfl rfl Ba (oi hly (x.t.nd) rfl) (za rfl (yb rfl rfl (zp (by omega)) (za rfl (zk rfl (za rfl (ze Tryz.underlying193 rfl sz3 (by decide) rfl (zv 107 (.int .i64 ((x.t.nd + 1 : Nat) : Int)) rfl (rfl) (qf (qq sz3 rfl rfl Ba rfl rfl (in_ hly (by decide : 800 < 804)) (ynv hly (x.t.nd + 1)) ?_)))))))))))))))))
        intro w18 Bx Ea;replace Ba : Blk w18 ga 193 (yy { x.t with d := x.t.d.set x.t.nd (bAt s x.i), nd := x.t.nd + 1 }) := Bx;replace E := E.step1 Ea Mut.head
        refine rnx (yr (yu rfl (zn (ya (zc (zh (mvx rfl (za rfl (yb rfl rfl (zp (by omega)) (avx rfl (yg (yw 5 (.int .i64 ((x.i + 1 : Nat) : Int)) rfl (rfl) ?_))))))))))))
        exact yt ({ x with i := x.i + 1, dig := true, t := { x.t with d := x.t.d.set x.t.nd (bAt s x.i), nd := x.t.nd + 1 } }) (by show Z - (x.i + 1) < Z - x.i; omega) ⟨rfl, rfl, rfl, rfl, rfl, rfl, trivial⟩ ⟨M8.step E XM8, (by exact Ba), hkeep, hu2⟩
       ·
        have h5 : ¬ x.t.nd < 800 := by have h5 := of_decide_eq_false h5; omega
        have hst := putOut hdot hnz h5;refine srx (mvx rfl (mvx rfl (za rfl (yj (j := x.i) (b := bAt s (x.i)) Tryz.underlying9 rfl rfl rfl (qc (by omega)) (za rfl (vw rfl rfl (rnx (yh rfl (fun h6 => ?_) (fun h6 => ?_)))))))))
        ·
         have h6 : bAt s x.i ≠ 48 := fun e => absurd h6 (by rw [e]; decide);rw [if_pos h6] at hst;rw [hst] at hkeep hu2;refine zh (mvx rfl (za rfl (zk rfl (za rfl (ze Tryz.underlying193 rfl sz4 (by decide) rfl (qf (qq sz4 rfl rfl Ba rfl rfl (in_ hlx (by decide : 803 < 804)) (ynk hlx true) ?_)))))));intro w19 Bx Ea
         replace Ba : Blk w19 ga 193 (yy { x.t with tr := true }) := Bx;replace E := E.step1 Ea Mut.head;refine rnx (yr (yu rfl (zn (ya (zc (zh (mvx rfl (za rfl (yb rfl rfl (zp (by omega)) (avx rfl (yg (yw 5 (.int .i64 ((x.i + 1 : Nat) : Int)) rfl (rfl) ?_))))))))))))
         exact yt ({ x with i := x.i + 1, dig := true, t := { x.t with tr := true } }) (by show Z - (x.i + 1) < Z - x.i; omega) ⟨rfl, rfl, rfl, rfl, rfl, rfl, trivial⟩ ⟨M8.step E XM8, (by exact Ba), hkeep, hu2⟩
        ·
         have h6 : bAt s x.i = 48 := by
          rcases Nat.decEq (bAt s x.i) 48 with h7 | h7
          · rw [bne_iff_ne.2 (by omega)] at h6; cases h6
          · exact h7
         rw [if_neg (fun h => h h6)] at hst;rw [hst] at hkeep hu2;refine zf (zc (yr (yu rfl (zn (ya (zc (zh (mvx rfl (za rfl (yb rfl rfl (zp (by omega)) (avx rfl (yg (yw 5 (.int .i64 ((x.i + 1 : Nat) : Int)) rfl (rfl) ?_)))))))))))))
         exact yt ({ x with i := x.i + 1, dig := true, t := { x.t with tr := x.t.tr } }) (by show Z - (x.i + 1) < Z - x.i; omega) ⟨rfl, rfl, rfl, rfl, rfl, rfl, trivial⟩ ⟨M8.step E XM8, (by exact Ba), hkeep, hu2⟩
    ·
     have e : x.i = Z := by omega
     have hb : bAt s x.i = 101 := by rw [e]; exact (hs.exp (by omega)).1
     have hdone : og s x = true := by
      unfold og;rw [Bool.or_eq_true];right
      rw [hb];rfl
     rw [qn hdone] at hu
     refine za rfl (zx rfl rfl (anx rfl (yc 40 (.bool false) rfl ((by rw [hb]; rfl : (.bool (((bAt s (x.i) : Nat) : Int) == 95) : Value) = _)) (zj rfl (srx (mvx rfl (mvx rfl (za rfl (yj (j := x.i) (b := bAt s (x.i)) Tryz.underlying9 rfl rfl rfl (qc (by omega)) (za rfl (zx rfl rfl (anx rfl (yc 45 (.bool false) rfl ((by rw [hb]; rfl : (.bool (((bAt s (x.i) : Nat) : Int) == 46) : Value) = _)) (zj rfl (srx (mvx rfl (mvx rfl (za rfl (yj (j := x.i) (b := bAt s (x.i)) Tryz.underlying9 rfl rfl rfl (qc (by omega)) (za rfl (kw rfl rfl (mvx rfl (zv 63 (.bool true) rfl ((by rw [hb]; rfl : (.bool (decide (48 ≤ ((bAt s (x.i) : Nat) : Int))) : Value) = _)) (onx rfl (zi rfl (onx rfl (zi rfl (onx rfl (yj (j := x.i) (b := bAt s (x.i)) Tryz.underlying9 rfl rfl rfl (qc (by omega)) (onx rfl (kw rfl rfl (za rfl (yk rfl rfl (anx rfl (yc 58 (.bool false) rfl ((by rw [hb]; rfl : (.bool (decide (((bAt s (x.i) : Nat) : Int) ≤ 57)) : Value) = _)) (zj rfl (zf (zl (zc (yr (yu rfl ?_)))))))))))))))))))))))))))))))))))))))))
     refine zn (zn (ya ?_));exact yq x ⟨rfl, rfl, rfl, rfl, rfl, rfl, trivial⟩ ⟨M6.step E XM6, (by exact Ba), hu⟩
   ·
    have h1 : ¬ x.i < s.size := by have h1 := of_decide_eq_false h1; omega
    have hdone : og s x = true := by
     unfold og;rw [decide_eq_true (by omega)]; rfl
    rw [qn hdone] at hu;refine yr (zn (zn (ya ?_)));exact yq x ⟨rfl, rfl, rfl, rfl, rfl, rfl, trivial⟩ ⟨M6.step E XM6, (by exact Ba), hu⟩
  ·
   have LTa := (yf Ba.lt);clear Ba;rintro x w7 ⟨M6, Ba, hx⟩;replace E := E.trans M6;replace LW := LW.step E XLW;replace E := erx (Mut [(some ga)]) w7;obtain ⟨hR, hRi⟩ := stA_ends neg hs;rw [← hx] at hR hRi;have hfp := hs.fp;have hpE := hs.pE;have hsE := hs.hE;have hdig : x.dig = true := hR.dg (by omega);have hlx := hR.dec.len;have hnx := hR.dec.hn;have hpp := hR.hp;have hti := hR.iE
   refine zb (srx (mvx rfl (za rfl (jj rfl (rnx (yc 118 (.bool false) rfl ((by rw [hdig]; rfl : (.bool (!x.dig) : Value) = _)) (zj rfl (zf (zc (zb (srx (mvx rfl (za rfl (jj rfl (rnx ?_)))))))))))))));replace LW := LW.step E XLW;replace E := erx (Mut [(some ga)]) w7
   refine qk (ι := Int) (fun d2 => [(0, .pointer (some ⟨ga, 0, none⟩)), (1, .string s), (4, .bool false), (5, .int .i64 ((x.i : Nat) : Int))]) (fun d2 w' => Ext (Mut [(some ga)]) w7 w' ∧ Blk w' ga 193 (yy { x.t with dp := d2 }) ∧ (d2 = (if x.dot then x.t.dp else ((x.t.nd : Nat) : Int)))) ?_ ?_
   ·
    have M20 := erx (Mut [(some ga)]) w7;have XM20 := grx (Mut [(some ga)]) w7;by_cases hdd : x.dot = true
    ·
     refine yc 120 (.bool false) rfl ((by rw [hdd]; rfl : (.bool (!x.dot) : Value) = _)) (zj rfl (zf ?_));replace Ba : Blk w7 ga 193 (yy { x.t with dp := x.t.dp }) := Ba;exact yq x.t.dp ⟨rfl, rfl, rfl, rfl, trivial⟩ ⟨M20.step E XM20, (by exact Ba), by rw [hdd, if_pos rfl]⟩
    ·
     refine yc 120 (.bool true) rfl ((by rw [Bool.eq_false_iff.2 hdd]; rfl : (.bool (!x.dot) : Value) = _)) (zz rfl (zh (mvx rfl (mvx rfl (za rfl (zk rfl (za rfl (ze Tryz.underlying193 rfl sz3 (by decide) rfl (za rfl (zy Tryz.underlying3 rfl rfl Ba (oi hlx (x.t.nd) rfl) (za rfl (zk rfl (za rfl (ze Tryz.underlying193 rfl sz3 (by decide) rfl (qf (qq sz3 rfl rfl Ba rfl rfl (in_ hlx (by decide : 801 < 804)) (ydx hlx ((x.t.nd : Nat) : Int)) ?_))))))))))))))))
     intro w22 Bx Ea;replace Ba : Blk w22 ga 193 (yy { x.t with dp := ((x.t.nd : Nat) : Int) }) := Bx;replace E := E.step1 Ea Mut.head;refine yg ?_;exact yq ((x.t.nd : Nat) : Int) ⟨rfl, rfl, rfl, rfl, trivial⟩ ⟨M20.step E XM20, (by exact Ba), by rw [if_neg hdd]⟩
   ·
    have LTa := (yf Ba.lt);clear Ba;rintro d2 w21 ⟨M20, Ba, hd2⟩;replace E := E.trans M20;replace LW := LW.step E XLW;replace E := erx (Mut [(some ga)]) w21;have hb2 : -100000 ≤ d2 ∧ d2 ≤ 100000 := by rw [hd2]; split <;> omega
    have hl2 : ({ x.t with dp := d2 } : Dec).d.length = 800 := hlx;have hP0 : setD s f neg = { x.t with dp := d2 + zgx s Z } := by unfold setD; rw [← hx, hRi, hd2]
    by_cases he : Z < s.size
    ·
     obtain ⟨hx1, hx2, hx3, hx4⟩ := hs.exp he;have hb : bAt s x.i = 101 := by rw [hRi]; exact hx1
     refine zb (srx (mvx rfl (mvx rfl (za rfl (qr Tryz.underlying9 rfl (za rfl (yp rfl rfl (mvx rfl (zv 132 (.bool true) rfl ((by rw [decide_eq_true (by omega)] : (.bool (decide (((x.i : Nat) : Int) < ((s.size : Nat) : Int))) : Value) = _)) (onx rfl (zi rfl (onx rfl (zi rfl (onx rfl (yj (j := x.i) (b := bAt s (x.i)) Tryz.underlying9 rfl rfl rfl (qc (by omega)) (zv 135 (.int .u8 101) rfl ((by rw [hb]; rfl : (.int .u8 ((bAt s (x.i) : Nat) : Int) : Value) = _)) (onx rfl (zg en190 rfl ((pt190_1 _).mono ?_)))))))))))))))))))
     rintro e w23 ⟨rfl, hb⟩;refine ⟨_, rfl, ?_⟩;have Ec := Ext.of_below hb No;replace Ba := Ba.extN Ec NotIn.nil;replace E := E.trans Ec.no
     refine onx rfl (zx rfl rfl (za rfl (yk rfl rfl (rnx (zz rfl (srx (mvx rfl (za rfl (yb rfl rfl (zp (by omega)) (anx rfl (zb (srx (mvx rfl (mvx rfl (za rfl (qr Tryz.underlying9 rfl (za rfl (qz rfl rfl (rnx (yc 144 (.bool false) rfl ((by rw [decide_eq_false (by omega)] : (.bool (decide (((s.size : Nat) : Int) ≤ (((x.i : Nat) : Int) + 1))) : Value) = _)) (zj rfl (zf (zc (srx (anx rfl (zb (srx (mvx rfl (mvx rfl (za rfl (yj (j := x.i + 1) (b := bAt s (x.i + 1)) Tryz.underlying9 rfl rfl rfl (qc (by omega)) ?_)))))))))))))))))))))))))))))))
     rw [← hRi] at hx2;refine rnx ?_;replace LW := LW.step E XLW;replace E := erx (Mut [(some ga)]) w23
     refine qk (ι := Nat × Int) (fun (k, g) => [(0, .pointer (some ⟨ga, 0, none⟩)), (1, .string s), (4, .bool false), (5, .int .i64 ((k : Nat) : Int)), (8, .int .i64 g)]) (fun (k, g) w' => Ext (Mut [(some ga)]) w23 w' ∧ Blk w' ga 193 (yy { x.t with dp := d2 }) ∧ (k = q ∧ g = (if bAt s (x.i + 1) = 45 then -1 else 1))) ?_ ?_
     ·
      have M24 := erx (Mut [(some ga)]) w23;have XM24 := grx (Mut [(some ga)]) w23;refine zw (srx (za rfl (zx rfl rfl (anx rfl ?_))));by_cases c43 : bAt s (x.i + 1) = 43
      ·
       refine yc 148 (.bool true) rfl ((by rw [c43]; rfl : (.bool (((bAt s (x.i + 1) : Nat) : Int) == 43) : Value) = _)) (zz rfl (zh (mvx rfl (za rfl (yb rfl rfl (zp (by omega)) (avx rfl (yg (zl ?_))))))));exact yq (x.i + 2, 1) ⟨rfl, rfl, rfl, rfl, rfl, trivial⟩ ⟨M24.step E XM24, (by exact Ba), by omega, by rw [if_neg (by omega)]⟩
      ·
       refine yc 148 (.bool false) rfl ((by rw [jq (by omega)] : (.bool (((bAt s (x.i + 1) : Nat) : Int) == 43) : Value) = _)) (zj rfl (srx (za rfl (zx rfl rfl (anx rfl ?_)))));by_cases c45 : bAt s (x.i + 1) = 45
       ·
        refine yc 152 (.bool true) rfl ((by rw [c45]; rfl : (.bool (((bAt s (x.i + 1) : Nat) : Int) == 45) : Value) = _)) (zz rfl (srx (mvx rfl (za rfl (yb rfl rfl (zp (by omega)) (anx rfl (zh (avx rfl (yg (zl ?_))))))))))
        exact yq (x.i + 2, -1) ⟨rfl, rfl, rfl, rfl, rfl, trivial⟩ ⟨M24.step E XM24, (by exact Ba), by omega, by rw [if_pos c45]⟩
       ·
        refine yc 152 (.bool false) rfl ((by rw [jq (by omega)] : (.bool (((bAt s (x.i + 1) : Nat) : Int) == 45) : Value) = _)) (zj rfl (zf (zl ?_)));exact yq (x.i + 1, 1) ⟨rfl, rfl, rfl, rfl, rfl, trivial⟩ ⟨M24.step E XM24, (by exact Ba), by omega, by rw [if_neg c45]⟩
     ·
      have LTa := (yf Ba.lt);clear Ba;rintro ⟨k, g⟩ w25 ⟨M24, Ba, ⟨hk, hg⟩⟩;replace E := E.trans M24;replace LW := LW.step E XLW;replace E := erx (Mut [(some ga)]) w25;subst hk;have hdq := hx4 k (Nat.le_refl _) hx3
      refine zb (srx (mvx rfl (mvx rfl (za rfl (qr Tryz.underlying9 rfl (za rfl (qz rfl rfl (mvx rfl (zv 160 (.bool false) rfl ((by rw [decide_eq_false (by omega)] : (.bool (decide (((s.size : Nat) : Int) ≤ ((k : Nat) : Int))) : Value) = _)) (onx rfl (zi rfl (onx rfl (zi rfl (onx rfl (yj (j := k) (b := bAt s (k)) Tryz.underlying9 rfl rfl rfl (qc (by omega)) (onx rfl (yp rfl rfl (za rfl (yi rfl rfl (mvx rfl (zv 166 (.bool false) rfl ((by rw [decide_eq_false (by omega)] : (.bool (decide (((bAt s (k) : Nat) : Int) < 48)) : Value) = _)) (onx rfl (zi rfl (onx rfl (zi rfl (onx rfl (yj (j := k) (b := bAt s (k)) Tryz.underlying9 rfl rfl rfl (qc (by omega)) (onx rfl (qh rfl rfl (za rfl (yi rfl rfl (rnx (yc 171 (.bool false) rfl ((by rw [decide_eq_false (by omega)] : (.bool (decide (57 < ((bAt s (k) : Nat) : Int))) : Value) = _)) (zj rfl (zf (zc (srx (anx rfl (zb ?_)))))))))))))))))))))))))))))))))))))))
      replace LW := LW.step E XLW;replace E := erx (Mut [(some ga)]) w25;refine qk (ι := ExS) (fun y => [(0, .pointer (some ⟨ga, 0, none⟩)), (1, .string s), (4, .bool false), (5, .int .i64 ((y.i : Nat) : Int)), (8, .int .i64 g), (9, .int .i64 ((y.e : Nat) : Int))]) (fun y w' => Ext (Mut [(some ga)]) w25 w' ∧ Blk w' ga 193 (yy { x.t with dp := d2 }) ∧ (y = exA s k)) ?_ ?_
      ·
       have M26 := erx (Mut [(some ga)]) w25;have XM26 := grx (Mut [(some ga)]) w25;refine zw ?_;replace M26 := M26.step E XM26;replace E := erx (Mut [(some ga)]) w25
       refine jo (ι := ExS) (fun y => [(0, .pointer (some ⟨ga, 0, none⟩)), (1, .string s), (4, .bool false), (5, .int .i64 ((y.i : Nat) : Int)), (8, .int .i64 g), (9, .int .i64 ((y.e : Nat) : Int))]) (fun y w' => Ext (Mut [(some ga)]) w25 w' ∧ Blk w' ga 193 (yy { x.t with dp := d2 }) ∧ (ExI s k y ∧ vb (xg s) (zcx s) y = exA s k)) (fun y => s.size - y.i) (⟨k, 0⟩) ⟨rfl, rfl, rfl, rfl, rfl, rfl, trivial⟩ ⟨Ext.refl _ _, (by exact Ba), ⟨⟨Nat.le_refl _, Nat.le_of_lt hx3⟩, by show 0 < 100000; decide⟩, rfl⟩ ?_
       have LTa := (yf Ba.lt);clear Ba;rintro y w29 ⟨M28, Ba, ⟨hI, hu⟩⟩;have XM28 : Gro (Mut [(some ga)]) (Mut [(some ga)]) w25 := (Mut.grow Mut.none_ (fun k e => Or.inl (Mut.head k e)));replace E := E.trans M28;replace M26 := M26.step E XM26;replace E := erx (Mut [(some ga)]) w29;have hhi := hI.hi;have hhe := hI.he
       refine zb (srx (mvx rfl (mvx rfl (za rfl (qr Tryz.underlying9 rfl (za rfl (yp rfl rfl (mvx rfl (gk 176 rfl (fun h7 => ?_) (fun h7 => ?_))))))))))
       ·
        have h7 : y.i < s.size := by have h7 := of_decide_eq_true h7; omega
        have hc := hx4 y.i hhi.1 h7;have hdone : xg s y = false := by unfold xg; rw [decide_eq_false (by omega), yik hc]; rfl
        have hkeep := (ex_keeps hI hdone).1;rw [vk hdone] at hu
        refine onx rfl (zi rfl (onx rfl (zi rfl (onx rfl (yj (j := y.i) (b := bAt s (y.i)) Tryz.underlying9 rfl rfl rfl (qc (by omega)) (onx rfl (kw rfl rfl (onx rfl (zi rfl (zv 181 (.bool true) rfl ((by rw [decide_eq_true (by omega)] : (.bool (decide (48 ≤ ((bAt s (y.i) : Nat) : Int))) : Value) = _)) (onx rfl (zi rfl (onx rfl (zi rfl (onx rfl (yj (j := y.i) (b := bAt s (y.i)) Tryz.underlying9 rfl rfl rfl (qc (by omega)) (onx rfl (kw rfl rfl (onx rfl (yk rfl rfl (onx rfl (zi rfl (zv 187 (.bool true) rfl ((by rw [decide_eq_true (by omega)] : (.bool (decide (((bAt s (y.i) : Nat) : Int) ≤ 57)) : Value) = _)) (za rfl (zu rfl (za rfl (zu rfl (za rfl (zu rfl (za rfl (zu rfl (onx rfl (yk rfl rfl (za rfl (yk rfl rfl (rnx (zz rfl (zf (zc (zb (zw (zb (srx (mvx rfl (mvx rfl (za rfl (yj (j := y.i) (b := bAt s (y.i)) Tryz.underlying9 rfl rfl rfl (qc (by omega)) (za rfl (zx rfl rfl (rnx (yc 199 (.bool false) rfl ((by rw [jq (by omega)] : (.bool (((bAt s (y.i) : Nat) : Int) == 95) : Value) = _)) (zj rfl (zf (zc (zb ?_)))))))))))))))))))))))))))))))))))))))))))))))))))))))
        refine zh (mvx rfl (za rfl (yp rfl rfl (rnx (yh rfl (fun h8 => ?_) (fun h8 => ?_))))))
        ·
         have h8 : y.e < 10000 := by have h8 := of_decide_eq_true h8; omega
         have hstep : zcx s y = ⟨y.i + 1, y.e * 10 + (bAt s y.i - 48)⟩ := by unfold zcx; rw [if_pos h8]
         rw [hstep] at hkeep hu
         refine zh (mvx rfl (za rfl (qg rfl rfl (zp (by omega)) (mvx rfl (mvx rfl (za rfl (yj (j := y.i) (b := bAt s (y.i)) Tryz.underlying9 rfl rfl rfl (qc (by omega)) (za rfl (yx Tryz.underlying3 Tryz.underlying5 rfl (zp (by omega)) (za rfl (yb rfl rfl (zp (by omega)) (za rfl (yd rfl rfl (zp (by omega)) (avx rfl (yg (zl (zc (zh (mvx rfl (za rfl (yb rfl rfl (zp (by omega)) (avx rfl (yg (yw 9 (.int .i64 ((y.e * 10 + (bAt s y.i - 48) : Nat) : Int)) rfl ((by congr 1; omega : (.int .i64 (((((y.e : Nat) : Int) * 10) + ((bAt s (y.i) : Nat) : Int)) - 48) : Value) = _)) ?_))))))))))))))))))))))))
         exact yt (⟨y.i + 1, y.e * 10 + (bAt s y.i - 48)⟩) (by show s.size - (y.i + 1) < s.size - y.i; omega) ⟨rfl, rfl, rfl, rfl, rfl, rfl, trivial⟩ ⟨M28.step E XM28, (by exact Ba), hkeep, hu⟩
        ·
         have h8 : ¬ y.e < 10000 := by have h8 := of_decide_eq_false h8; omega
         have hstep : zcx s y = ⟨y.i + 1, y.e⟩ := by unfold zcx; rw [if_neg h8]
         rw [hstep] at hkeep hu;refine zf (zl (zc (zh (mvx rfl (za rfl (yb rfl rfl (zp (by omega)) (avx rfl (yg ?_))))))));exact yt (⟨y.i + 1, y.e⟩) (by show s.size - (y.i + 1) < s.size - y.i; omega) ⟨rfl, rfl, rfl, rfl, rfl, rfl, trivial⟩ ⟨M28.step E XM28, (by exact Ba), hkeep, hu⟩
       ·
        have h7 : ¬ y.i < s.size := by have h7 := of_decide_eq_false h7; omega
        have hdone : xg s y = true := by unfold xg; rw [decide_eq_true (by omega)]; rfl
        rw [qn hdone] at hu
        refine za rfl (zu rfl (za rfl (zu rfl (za rfl (zu rfl (za rfl (zu rfl (za rfl (zu rfl (za rfl (vq rfl rfl (za rfl (vq rfl rfl (za rfl (vq rfl rfl (za rfl (vq rfl rfl (za rfl (zu rfl (za rfl (zu rfl (za rfl (vq rfl rfl (za rfl (vq rfl rfl (za rfl (vq rfl rfl (za rfl (vq rfl rfl (za rfl (zu rfl (za rfl (yi rfl rfl (rnx (zj rfl (yr (zn (zn (ya ?_)))))))))))))))))))))))))))))))))))))))
        exact yq y ⟨rfl, rfl, rfl, rfl, rfl, rfl, trivial⟩ ⟨M26.step E XM26, (by exact Ba), hu⟩
      ·
       have LTa := (yf Ba.lt);clear Ba;rintro y w27 ⟨M26, Ba, hy⟩;replace E := E.trans M26;replace LW := LW.step E XLW;replace E := erx (Mut [(some ga)]) w27;obtain ⟨hI, hdx⟩ := zuk (s := s) (q := k) (by omega);rw [← hy] at hI hdx;have hxi := ex_out hx4 hI hdx;have hxe := hI.he;have hX : IntKind.i64.wrap (((y.e : Nat) : Int) * g) = zgx s Z := by
        have e9 : zgx s Z = ((y.e : Nat) : Int) * g := by
         unfold zgx;rw [if_neg (by omega), ← hRi, hg, hy];rcases hx2 with ⟨h9, h10, h11⟩ | ⟨h9, h10⟩
         · rw [if_neg h11, if_neg h10, if_neg h11, ← h9, Int.mul_one]
         · rcases h10 with h10 | h10
           · rw [if_neg (by omega), if_pos h10, if_neg (by omega), ← h9, Int.mul_one]
           · rw [if_pos h10, if_pos h10, ← h9, Int.mul_neg, Int.mul_one]
        have h12 := yjq hs;rw [← e9];exact zp (by omega)
       have h12 := yjq hs
       refine zh (mvx rfl (za rfl (zk rfl (za rfl (ze Tryz.underlying193 rfl sz3 (by decide) rfl (za rfl (zy Tryz.underlying3 rfl rfl Ba (zvx hl2 d2 rfl) (mvx rfl (mvx rfl (za rfl (qg rfl rfl hX (za rfl (yb rfl rfl (zp (by omega)) (za rfl (zk rfl (za rfl (ze Tryz.underlying193 rfl sz3 (by decide) rfl (qf (qq sz3 rfl rfl Ba rfl rfl (in_ hl2 (by decide : 801 < 804)) (ydx hl2 (d2 + zgx s Z)) ?_)))))))))))))))))))
       intro w30 Bx Ea;replace Ba : Blk w30 ga 193 (yy { x.t with dp := d2 + zgx s Z }) := Bx;replace E := E.step1 Ea Mut.head
       refine rnx (zb (srx (mvx rfl (mvx rfl (za rfl (qr Tryz.underlying9 rfl (za rfl (vw rfl rfl (rnx (yc 223 (.bool false) rfl ((by rw [hxi]; simp : (.bool (((y.i : Nat) : Int) != ((s.size : Nat) : Int)) : Value) = _)) (zj rfl (zf (zc (srx (anx rfl (zt (zr (rs := [.tmp 4]) (vs := [_]) rfl ⟨rfl, trivial⟩ ?_)))))))))))))))))
       exact ⟨rfl, by rw [hP0]; exact Ba, (LW.step E XLW)⟩
    ·
     have hz : zgx s Z = 0 := by unfold zgx; rw [if_pos (by omega)]
     refine zb (srx (mvx rfl (mvx rfl (za rfl (qr Tryz.underlying9 rfl (za rfl (yp rfl rfl (mvx rfl (zv 132 (.bool false) rfl ((by rw [decide_eq_false (by omega)] : (.bool (decide (((x.i : Nat) : Int) < ((s.size : Nat) : Int))) : Value) = _)) (za rfl (zu rfl (za rfl (zu rfl (za rfl (zu rfl (za rfl (zu rfl (za rfl (zu rfl (za rfl (yi rfl rfl (rnx (zj rfl (zf (zc (zb (srx (mvx rfl (mvx rfl (za rfl (qr Tryz.underlying9 rfl (za rfl (vw rfl rfl (rnx (yc 223 (.bool false) rfl ((by rw [show x.i = s.size by omega]; simp : (.bool (((x.i : Nat) : Int) != ((s.size : Nat) : Int)) : Value) = _)) (zj rfl (zf (zc (srx (anx rfl (zt (zr (rs := [.tmp 4]) (vs := [_]) rfl ⟨rfl, trivial⟩ ?_))))))))))))))))))))))))))))))))))))))))))
     exact ⟨rfl, by rw [hP0, hz, Int.add_zero]; exact Ba, (LW.step E XLW)⟩
end
end Go.Proofs.YtjdcjdohghkcgaaGreatDoor
namespace Go.Proofs.YtjdcjdohghkcgaaGreatDoor
open Go.RowKit
set_option maxRecDepth 100000
theorem run_equalIN {P : Program} {w : World} {T U : TypeId} {v : Value} {ms : Array (String × TypeId)} (hd : P.underlying T = some (.interface ms)) : (Op.equal T (.iface U v) .nilIface).run P w = .ok false w := by
 have e : Op.maxDepth = 9999 + 1 := rfl;have key : ∀ d : Nat, (Op.equalIn (d + 1) T (.iface U v) .nilIface).run P w = .ok false w := by
  intro d;rw [Op.equalIn];simp only [Sem.run_bind, run_underlying hd, Result.andThen_ok]
  rfl
 unfold Op.equal;rw [e];exact key 9999
theorem ow_neqI {P : Program} {N : Nat} {ops : Array Oper} {Q : Exit → Act → World → Prop} {σ : Env} {w : World} {ty : TypeId} {pos : String} {af : Array Edge} {dst : Option Nat} {Post : Value → World → Prop} {T U D : TypeId} {v : Value} {x : Operand} {ms : Array (String × TypeId)} (hd : P.underlying T = some (.interface ms)) (hx : ev σ x = some (.iface D v)) (k : Post (.bool true) w) : OW P N ops Q ⟨dst, .binOp .neq T x (.const .nilIface) U, ty, pos, af, none⟩ σ w Post :=
 yv (fun ρ ha => by
  have e := run_equalIN (P := P) (w := w) (U := D) (v := v) hd;have hc : ρ (.const .nilIface) = .nilIface := ha rfl;simp only [execOp, ha hx, hc, eqGuard, binOp]
  simp only [Bool.not_true, Bool.false_eq_true, if_false, Sem.run_bind, e, Result.andThen_ok, Sem.run_pure]
  rfl) k
theorem range_err (fn s : ByteArray) (base bits : Int) (w : World) (hl : s.size < 100000) (hv : ∃ te pe, w.cell? ⟨4, 0, none⟩ = some (.iface te pe)) :
 Calls Tryz.prog 86 #[.string fn, .string s, .int .i64 base, .int .i64 bits, rangeE] w fun e w' => (∃ er, e = .returned er) ∧ Below w.heap.size w w' := by
 obtain ⟨te, pe, hv⟩ := hv;refine (AnyPu.strconv_toError_range (ρ := Tryz.laysPu14_ren) { Tryz.laysPu14 with } fn s base bits (.iface te pe) w (by omega) hv (.inr ⟨te, pe, rfl⟩)).mono ?_;rintro e w' ⟨N, rfl, _, _, hb⟩;exact ⟨⟨_, rfl⟩, hb⟩
theorem zrDec : ow Tryz.prog 193 (.agg (yy (zpk false))) := by
 unfold yy decL;exact (by kernel_rfl : (Tryz.prog.info? 193).map (·.zero) = some (some (.agg ((zpk false).d.map (fun b => (.int .u8 ((b : Nat) : Int) : Value)) ++ ([.int .i64 (((zpk false).nd : Nat) : Int), .int .i64 (zpk false).dp, .bool (zpk false).neg, .bool (zpk false).tr] : List Value)).toArray)))
theorem bAt_extract {s : ByteArray} {k i : Nat} : bAt (s.extract k s.size) i = bAt s (k + i) := by
 unfold bAt;rw [ByteArray.data_extract, Array.getElem?_extract];by_cases h : i < s.size - k
 · rw [if_pos (by show i < min s.size s.data.size - k; rw [show s.data.size = s.size from rfl, Nat.min_self]; exact h)]
 · rw [if_neg (by show ¬ i < min s.size s.data.size - k; rw [show s.data.size = s.size from rfl, Nat.min_self]; exact h)];have : s.data[k + i]? = none := Array.getElem?_eq_none (by show s.size ≤ k + i; omega);rw [this]
theorem extract_all (s : ByteArray) : s.extract 0 s.size = s := by
 apply ByteArray.ext
 rw [ByteArray.data_extract];exact Array.extract_eq_self_of_le (Nat.le_refl _)
theorem setD_dp {s : ByteArray} {f p Z q : Nat} (neg : Bool) (hs : Nm s f p Z q) (hl : s.size < 100000) : -20000000 ≤ (setD s f neg).dp ∧ (setD s f neg).dp ≤ 20000000 := by
 obtain ⟨h, hi⟩ := stA_ends neg hs;have h1 := h.hp;have h2 := h.dec.hn;have h3 := h.iE;have h4 := hs.hE;have h5 := yjq hs;rw [← hi] at h5;unfold setD
 show -20000000 ≤ (if (stA s f neg).dot = true then (stA s f neg).t.dp else (((stA s f neg).t.nd : Nat) : Int)) + zgx s (stA s f neg).i ∧ (if (stA s f neg).dot = true then (stA s f neg).t.dp else (((stA s f neg).t.nd : Nat) : Int)) + zgx s (stA s f neg).i ≤ 20000000
 split <;> omega
theorem fits_out (neg : Bool) (A : Option Addr) (c : Nat) (xs : List Nat) (w : World) (hx : Nums w A xs) (hs : small B18 xs) (hl : xs.length ≤ 1048576) :
 Calls Tryz.prog 103 #[.bool neg, .slice A xs.length c] w (vo w (outV true (sgn neg (val B18 xs))) (outE true (sgn neg (val B18 xs)))) := by
 rcases Nat.lt_or_ge (val B18 xs) (B18 ^ 30) with h | h
 · rw [zxk (by rw [gu]; exact h), zxv (by rw [gu]; exact h)]; exact fits_yes neg A c xs w hx hs hl h
 · rw [outV_big (by rw [gu]; exact h), outE_big (by rw [gu]; exact h)]; exact fits_no neg A c xs w hx hs hl h
theorem mul_step {ys zs : List Nat} {k j u t C X : Nat} (hz : k + j < zs.length) (h : val B18 zs + B18 ^ (k + j) * u = C + B18 ^ k * (X * val B18 (ys.take j))) (ht : t = X * ys.getD j 0 + zs.getD (k + j) 0 + u) :
 val B18 (zs.set (k + j) (t % B18)) + B18 ^ (k + (j + 1)) * (t / B18) = C + B18 ^ k * (X * val B18 (ys.take (j + 1))) := by
 have h1 := zmk (b := B18) zs (k + j) (t % B18) hz;have h2 : B18 ^ (k + (j + 1)) * (t / B18) = B18 ^ (k + j) * (B18 * (t / B18)) := by rw [← Nat.add_assoc, Nat.pow_succ, Nat.mul_assoc]
 have h3 : B18 ^ (k + j) * (t % B18) + B18 ^ (k + j) * (B18 * (t / B18)) = B18 ^ (k + j) * t := by rw [← Nat.mul_add, Nat.mod_add_div]
 have h4 : B18 ^ (k + j) * t = B18 ^ (k + j) * (X * ys.getD j 0) + B18 ^ (k + j) * zs.getD (k + j) 0 + B18 ^ (k + j) * u := by rw [ht, Nat.mul_add, Nat.mul_add]
 have h5 : B18 ^ k * (X * val B18 (ys.take (j + 1))) = B18 ^ k * (X * val B18 (ys.take j)) + B18 ^ (k + j) * (X * ys.getD j 0) := by
  rw [qa, Nat.mul_add, Nat.mul_add, Nat.pow_add, Nat.mul_left_comm X, Nat.mul_assoc (B18 ^ k)]
 omega
theorem mul_close {xs ys zs : List Nat} {k u : Nat} (hz : k + ys.length < zs.length) (h0 : zs.getD (k + ys.length) 0 = 0)
 (h : val B18 zs + B18 ^ (k + ys.length) * u = val B18 (xs.take k) * val B18 ys + B18 ^ k * (xs.getD k 0 * val B18 (ys.take ys.length))) :
 val B18 (zs.set (k + ys.length) u) = val B18 (xs.take (k + 1)) * val B18 ys := by
 have h1 := zmk (b := B18) zs (k + ys.length) u hz;rw [h0, Nat.mul_zero, Nat.add_zero] at h1;rw [h1, h, List.take_length, qa, Nat.add_mul, Nat.mul_assoc]
def ThreeB (w : World) (n1 n2 : Bool) (A B : Option Addr) (c d : Nat) (xs ys : List Nat) (b : World) : Prop :=
 Two w n1 n2 A B c d xs ys b ∧ (b.cell? ⟨w.heap.size + 1 + 1, 0, none⟩ = some (.bool false) ∧ b.cell? ⟨w.heap.size + 1 + 1, 1, none⟩ = some (.slice none 0 0) ∧ b.frozen? ⟨w.heap.size + 1 + 1, 0, none⟩ = false ∧ b.frozen? ⟨w.heap.size + 1 + 1, 1, none⟩ = false)
def zex (w : World) (n1 n2 : Bool) (A B : Option Addr) (c d : Nat) (xs ys : List Nat) : World := (two w n1 n2 A B c d xs ys).alloc (.cells #[.bool false, .slice none 0 0] 42)
theorem yfz (w : World) (n1 n2 : Bool) (A B : Option Addr) (c d : Nat) (xs ys : List Nat) : Below w.heap.size w (zex w n1 n2 A B c d xs ys) :=
 (zwq w n1 n2 A B c d xs ys).alloc (zwq w n1 n2 A B c d xs ys).size _
theorem ysq (w : World) (n1 n2 : Bool) (A B : Option Addr) (c d : Nat) (xs ys : List Nat) : (zex w n1 n2 A B c d xs ys).heap.size = w.heap.size + 3 := by simp [zex, two]
theorem yfx {w b : World} {n1 n2 : Bool} {A B : Option Addr} {c d : Nat} {xs ys : List Nat} (hx : Nums w A xs) (hy : Nums w B ys) (hb : Below (zex w n1 n2 A B c d xs ys).heap.size (zex w n1 n2 A B c d xs ys) b) : ThreeB w n1 n2 A B c d xs ys b := by
 have k : Below (two w n1 n2 A B c d xs ys).heap.size (two w n1 n2 A B c d xs ys) (zex w n1 n2 A B c d xs ys) := (Below.refl _ _).alloc (Nat.le_refl _) _;have Z : Blk (zex w n1 n2 A B c d xs ys) (w.heap.size + 1 + 1) 42 #[.bool false, .slice none 0 0] := Blk.newAt (by simp [two]);exact ⟨two_since hx hy (zfq k hb), (Z.below hb Z.lt).two⟩
section
variable (n1 n2 : Bool) (A B : Option Addr) (c d : Nat) (xs ys : List Nat) (w : World)
set_option maxRecDepth 100000
set_option maxHeartbeats 1000000 in
theorem mul_bad (hx : Nums w A xs) (hy : Nums w B ys) (hl : xs.length ≤ 9223372036854775807) (hl' : ys.length ≤ 9223372036854775807) (hok : (va n1 xs && va n2 ys) = false) :
 Calls Tryz.prog 64 #[.agg #[.bool n1, .slice A xs.length c], .agg #[.bool n2, .slice B ys.length d]] w (vo w 0 3) := by
 obtain ⟨W0, hW0⟩ : ∃ W0, W0 = zex w n1 n2 A B c d xs ys := ⟨_, rfl⟩;have LW : Below w.heap.size w W0 := by rw [hW0]; exact yfz ..
 have HWs : Hid (W0.heap.size = w.heap.size + 3) := by rw [hW0]; exact ysq ..
 have HF : Hid (∀ b1, Below W0.heap.size W0 b1 → ThreeB w n1 n2 A B c d xs ys b1) := fun b1 hb => by rw [hW0] at hb; exact yfx hx hy hb
 have hg1 := fun w hx => vr n1 c w A xs hl hx;have hg2 := fun w hy => vr n2 d w B ys hl' hy;clear hx hy;unfold zex two at hW0;have L : Below W0.heap.size W0 W0 := Below.refl _ _;obtain ⟨⟨⟨x0, x1, y0, y1⟩, hx, hy⟩, r0, r1, r2, r3⟩ := HF.out _ L;go_enter Tryz.func64, Tryz.ntmps64
 cases h1 : va n1 xs
 · rw [h1] at hg1;clear hok h1;go_upto_region 1 with fail
   rw [← hW0];clear hW0;go_wp2_with (go_at_call 54; refine (hg1 _ hx).mono ?_; rintro e w1 ⟨rfl, hb⟩; have L := zfq L hb; clear x0 x1 y0 y1 hx hy r0 r1 r2 r3 hb; obtain ⟨⟨⟨x0, x1, y0, y1⟩, hx, hy⟩, r0, r1, r2, r3⟩ := HF.out _ L)
   refine bodyPost_ret (v := .tuple #[.agg #[.bool false, .slice none 0 0], .int .i64 3]) (by simp [results, Tryz.results64, go_sem, r0, r1]) rfl ?_;exact fin_zero (LW.trans (L.mono LW.size)) (by omega) _ _
 · rw [h1, Bool.true_and] at hok;rw [h1] at hg1;rw [hok] at hg2;clear hok h1;go_upto_region 1 with fail
   rw [← hW0];clear hW0;go_wp2_with (go_at_call 54; refine (hg1 _ hx).mono ?_; rintro e w1 ⟨rfl, hb⟩; have L := zfq L hb; clear x0 x1 y0 y1 hx hy r0 r1 r2 r3 hb; obtain ⟨⟨⟨x0, x1, y0, y1⟩, hx, hy⟩, r0, r1, r2, r3⟩ := HF.out _ L; refine Hid.out ?_)
   refine Lib.hid ?_;go_wp2_with (go_at_call 54; refine (hg2 _ hy).mono ?_; rintro e w1 ⟨rfl, hb⟩; have L := zfq L hb; clear x0 x1 y0 y1 hx hy r0 r1 r2 r3 hb; obtain ⟨⟨⟨x0, x1, y0, y1⟩, hx, hy⟩, r0, r1, r2, r3⟩ := HF.out _ L)
   refine bodyPost_ret (v := .tuple #[.agg #[.bool false, .slice none 0 0], .int .i64 3]) (by simp [results, Tryz.results64, go_sem, r0, r1]) rfl ?_;exact fin_zero (LW.trans (L.mono LW.size)) (by omega) _ _
theorem mul_bound {p z u : Int} (p0 : 0 ≤ p) (p1 : p ≤ 999999999999999999 * 999999999999999999) (z0 : 0 ≤ z) (z1 : z < 1000000000000000000) (u0 : 0 ≤ u) (u1 : u < 1000000000000000000) :
 0 ≤ p / 18446744073709551616 ∧ p / 18446744073709551616 < 1000000000000000000 ∧
 (p / 18446744073709551616 + (p % 18446744073709551616 + z) / 18446744073709551616 + ((p % 18446744073709551616 + z) % 18446744073709551616 + u) / 18446744073709551616) * 18446744073709551616 + ((p % 18446744073709551616 + z) % 18446744073709551616 + u) % 18446744073709551616 = p + z + u ∧
 (p + z + u) / 1000000000000000000 < 1000000000000000000 ∧
 p / 18446744073709551616 + (p % 18446744073709551616 + z) / 18446744073709551616 + ((p % 18446744073709551616 + z) % 18446744073709551616 + u) / 18446744073709551616 < 1000000000000000000 := by
 refine ⟨by omega, by omega, by omega, by omega, by omega⟩
theorem val_rep (b n : Nat) : val b (List.replicate n 0) = 0 := by
 induction n with
 | zero => rfl
 | succ n ih => rw [List.replicate_succ, val, ih]; simp
theorem mul64_int (x y : Int) (h0 : 0 ≤ x) (h1 : x < 18446744073709551616) (k0 : 0 ≤ y) (k1 : y < 18446744073709551616) (w : World) :
 Calls Tryz.prog 70 #[.int .u64 x, .int .u64 y] w fun e w' => e = .returned (.tuple #[.int .u64 (x * y / 18446744073709551616), .int .u64 (x * y % 18446744073709551616)]) ∧ w' = w := by
 obtain ⟨a, rfl⟩ := Int.eq_ofNat_of_zero_le h0;obtain ⟨b, rfl⟩ := Int.eq_ofNat_of_zero_le k0;refine (mul64_any a b (by omega) (by omega) w).mono fun e w' h => ?_;obtain ⟨rfl, rfl⟩ := h;rw [← Int.natCast_mul];exact ⟨by congr 1, rfl⟩
theorem nth_mul_le {xs ys : List Nat} (hs : small B18 xs) (ht : small B18 ys) (k j : Nat) : 0 ≤ nth xs k * nth ys j ∧ nth xs k * nth ys j ≤ 999999999999999999 * 999999999999999999 := by
 have a0 := qe xs k; have b0 := qe ys j;have a1 := ja (by unfold B18; omega) hs k; have b1 := ja (by unfold B18; omega) ht j;rw [B18_eq] at a1 b1;refine ⟨Int.mul_nonneg a0 b0, Int.mul_le_mul (by omega) (by omega) b0 (by omega)⟩
set_option maxHeartbeats 2000000 in
theorem mul_good (hx : Nums w A xs) (hy : Nums w B ys) (hg : va n1 xs = true) (hk : va n2 ys = true) :
 Calls Tryz.prog 64 #[.agg #[.bool n1, .slice A xs.length c], .agg #[.bool n2, .slice B ys.length d]] w (vo w (outV true (num n1 xs * num n2 ys)) (outE true (num n1 xs * num n2 ys))) := by
 obtain ⟨hs, _, hl, _⟩ := jf hg;obtain ⟨ht, _, hl', _⟩ := jf hk;have hprod : ∀ v, v = val B18 xs * val B18 ys → sgn (n1 != n2) v = num n1 xs * num n2 ys := fun v hv => by
  rw [hv, zbv, zbv]; unfold sgn; cases n1 <;> cases n2 <;> simp [Int.natCast_mul, Int.neg_mul, Int.mul_neg]
 have HP := Lib.hid hprod; have HS := Lib.hid hs; have HT := Lib.hid ht;obtain ⟨q, hq⟩ : ∃ q, q = num n1 xs * num n2 ys := ⟨_, rfl⟩;rw [← hq] at HP ⊢;obtain ⟨W0, hW0⟩ : ∃ W0, W0 = zex w n1 n2 A B c d xs ys := ⟨_, rfl⟩;have LW : Below w.heap.size w W0 := by rw [hW0]; exact yfz ..
 have HWs : Hid (W0.heap.size = w.heap.size + 3) := by rw [hW0]; exact ysq ..
 have HF : Hid (∀ b1, Below W0.heap.size W0 b1 → ThreeB w n1 n2 A B c d xs ys b1) := fun b1 hb => by rw [hW0] at hb; exact yfx hx hy hb
 have hg1 := fun w hx => vr n1 c w A xs (by omega) hx;have hg2 := fun w hy => vr n2 d w B ys (by omega) hy;rw [hg] at hg1;rw [hk] at hg2;clear hx hy hq hprod hs ht hg hk;unfold zex two at hW0;have L : Below W0.heap.size W0 W0 := Below.refl _ _;obtain ⟨⟨⟨x0, x1, y0, y1⟩, hx, hy⟩, r0, r1, r2, r3⟩ := HF.out _ L;go_enter Tryz.func64, Tryz.ntmps64
 go_upto_region 1 with fail
 rw [← hW0];clear hW0;go_wp2_with (go_at_call 54; refine (hg1 _ hx).mono ?_; rintro e w1 ⟨rfl, hb⟩; have L := zfq L hb; clear x0 x1 y0 y1 hx hy r0 r1 r2 r3 hb; obtain ⟨⟨⟨x0, x1, y0, y1⟩, hx, hy⟩, r0, r1, r2, r3⟩ := HF.out _ L; refine Hid.out ?_)
 refine Lib.hid ?_;go_wp2_with (go_at_call 54; refine (hg2 _ hy).mono ?_; rintro e w1 ⟨rfl, hb⟩; have L := zfq L hb; clear x0 x1 y0 y1 hx hy r0 r1 r2 r3 hb; obtain ⟨⟨⟨x0, x1, y0, y1⟩, hx, hy⟩, r0, r1, r2, r3⟩ := HF.out _ L; refine Hid.out ?_)
 refine Lib.hid ?_;clear hg1 hg2;obtain ⟨N, hN⟩ : ∃ N : Nat, N = xs.length + ys.length + 1 := ⟨_, rfl⟩;have hmk := ztk N (by omega);have hNi : ((xs.length : Int) + (ys.length : Int) + 1) = (N : Int) := by omega
 have HN := Lib.hid hN;have hNb : N ≤ 61 := by omega
 clear hN;go_upto_region 4 with fail
 obtain ⟨g, hg⟩ : ∃ g, g = w1.heap.size := ⟨_, rfl⟩;obtain ⟨W1, hW1⟩ : ∃ W1, W1 = w1.alloc (.cells (madeCells #[.int .u64 0] N) 32) := ⟨_, rfl⟩;have k1 : Below w1.heap.size w1 W1 := by rw [hW1]; exact (Below.refl _ _).alloc (Nat.le_refl _) _
 have hrow : Row W1 g N (List.replicate N 0) := by
  have h := (Row.made w1 N).fill;rw [← hW1, ← hg] at h;simpa using h
 have hWg : W1.heap.size = g + 1 := by rw [hW1, hg]; simp
 have hgW : W0.heap.size ≤ g := by rw [hg]; exact L.size
 have L := zfq L k1;rw [← hg, ← hW1];clear x0 x1 y0 y1 hx hy r0 r1 r2 r3 hmk hNi hg hW1 k1;obtain ⟨⟨⟨x0, x1, y0, y1⟩, hx, hy⟩, r0, r1, r2, r3⟩ := HF.out _ L;go_wp2_with fail
 clear x0 x1 y0 y1 hx hy r0 r1 r2 r3;go_loopw [34] (fun iv wr => ∃ (k : Nat) (zs : List Nat), k ≤ xs.length ∧ iv = .int .i64 k ∧ Row wr g N zs ∧ zs.length = N ∧ small B18 zs ∧ Hid (val B18 zs = val B18 (xs.take k) * val B18 ys) ∧ Hid (∀ p, k + ys.length ≤ p → nth zs p = 0) ∧ Below W0.heap.size W0 wr) (fun iv _ => xs.length - (intOf iv).toNat)
 case atStart => exact ⟨0, List.replicate N 0, by omega, rfl, hrow, by simp, by intro x hx; rw [List.eq_of_mem_replicate hx]; unfold B18; omega, by show _ = _; rw [val_rep, List.take_zero]; simp [val], fun p _ => nth_replicate _ _, L⟩
 case round =>
  obtain ⟨k, zs, hk, rfl, hrw, hzl, hzs, HV, HZ, hbel⟩ := hrel;obtain ⟨⟨⟨x0, x1, y0, y1⟩, hx, hy⟩, r0, r1, r2, r3⟩ := HF.out _ hbel;by_cases hkn : k < xs.length
  · obtain ⟨wo, rfl⟩ : ∃ wo : World, wo = wr := ⟨_, rfl⟩;have hm1 : (k : Int) < (xs.length : Int) := by omega
    have HX0 : Hid (val B18 zs + B18 ^ (k + 0) * (0 : Int).toNat = val B18 (xs.take k) * val B18 ys + B18 ^ k * (xs.getD k 0 * val B18 (ys.take 0))) := by
     show _ = _; rw [HV.out]; simp [val]
    go_wp2_with fail
    clear x0 x1 y0 y1 hx hy r0 r1 r2 r3;go_loopw [8, 40] (fun cv jv wi => ∃ (j : Nat) (u : Int) (qs : List Nat), j ≤ ys.length ∧ jv = .int .i64 j ∧ cv = .int .u64 u ∧ 0 ≤ u ∧ u < 1000000000000000000 ∧ Row wi g N qs ∧ qs.length = N ∧ small B18 qs ∧
     Hid (val B18 qs + B18 ^ (k + j) * u.toNat = val B18 (xs.take k) * val B18 ys + B18 ^ k * (xs.getD k 0 * val B18 (ys.take j))) ∧ Hid (∀ p, k + ys.length ≤ p → nth qs p = 0) ∧ Below W0.heap.size W0 wi) (fun _ jv _ => ys.length - (intOf jv).toNat)
    case atStart => exact ⟨0, 0, zs, by omega, rfl, rfl, by omega, by omega, hrw, hzl, hzs, HX0, HZ, hbel⟩
    case round =>
     obtain ⟨j, u, qs, hj, rfl, rfl, hu0, hu1, hrq, hql, hqs, HQ, HZ2, hbel2⟩ := hrel;obtain ⟨⟨⟨x0, x1, y0, y1⟩, hx, hy⟩, r0, r1, r2, r3⟩ := HF.out _ hbel2;by_cases hjn : j < ys.length
     · have hN1 := HN.out;obtain ⟨b, o, rfl, hb, hc⟩ := hx.2 (by omega);obtain ⟨b', o', rfl, hb', hc'⟩ := hy.2 (by omega);have hcx := hc k hkn;have hcy := hc' j hjn;have hcz := hrq.cell (j := k + j) (by omega);have hm2 : (j : Int) < (ys.length : Int) := by omega
       have hk0 : (0 : Int) ≤ (k : Int) := by omega
       have hj0 : (0 : Int) ≤ (j : Int) := by omega
       have hnx := qe xs k; have hny := qe ys j; have hnz := qe qs (k + j);have hlx := ja (by unfold B18; omega) HS.out k; have hly := ja (by unfold B18; omega) HT.out j; have hlz := ja (by unfold B18; omega) hqs (k + j);rw [B18_eq] at hlx hly hlz;obtain ⟨p0, p1⟩ := nth_mul_le HS.out HT.out k j;obtain ⟨P, hP⟩ : ∃ P, P = nth xs k * nth ys j := ⟨_, rfl⟩
       rw [← hP] at p0 p1;obtain ⟨m1, m2, m3, m4, m5⟩ := mul_bound p0 p1 hnz hlz hu0 hu1;have hmul := fun w => mul64_int (nth xs k) (nth ys j) hnx (by omega) hny (by omega) w;rw [← hP] at hmul;obtain ⟨h0, hh0⟩ : ∃ h0, h0 = P / 18446744073709551616 := ⟨_, rfl⟩;obtain ⟨l0, hl0⟩ : ∃ l0, l0 = P % 18446744073709551616 := ⟨_, rfl⟩;rw [← hh0, ← hl0] at hmul
       obtain ⟨l1, hl1⟩ : ∃ l1, l1 = (l0 + nth qs (k + j)) % 18446744073709551616 := ⟨_, rfl⟩;obtain ⟨c1, hc1⟩ : ∃ c1, c1 = (l0 + nth qs (k + j)) / 18446744073709551616 := ⟨_, rfl⟩;obtain ⟨l2, hl2⟩ : ∃ l2, l2 = (l1 + u) % 18446744073709551616 := ⟨_, rfl⟩;obtain ⟨c2, hc2⟩ : ∃ c2, c2 = (l1 + u) / 18446744073709551616 := ⟨_, rfl⟩;have b1 : 0 ≤ l0 := by omega
       have b2 : 0 ≤ l1 := by omega
       have b3 : 0 ≤ l2 ∧ l2 < 18446744073709551616 := by omega
       have b4 : 0 ≤ c1 := by omega
       have b5 : 0 ≤ c2 := by omega
       have ha1 : ∀ w, (callFunc 72 #[.int .u64 l0, .int .u64 (nth qs (k + j)), .int .u64 0]).run Tryz.prog w = .ok (.value (.tuple #[.int .u64 l1, .int .u64 c1])) w := fun w => by rw [add64_run l0 _ b1 hnz, hl1, hc1]
       have ha2 : ∀ w, (callFunc 72 #[.int .u64 l1, .int .u64 u, .int .u64 0]).run Tryz.prog w = .ok (.value (.tuple #[.int .u64 l2, .int .u64 c2])) w := fun w => by rw [add64_run l1 _ b2 hu0, hl2, hc2]
       rw [← hh0, ← hl0, ← hl1, ← hc1, ← hl2, ← hc2] at m3;rw [← hh0, ← hl0, ← hl1, ← hc1, ← hc2] at m5;rw [← hh0] at m1 m2;have hdv := fun w => div64_base (h0 + c1 + c2) l2 (by omega) m5 b3.1 b3.2 w;rw [m3] at hdv;obtain ⟨T, hT⟩ : ∃ T, T = P + nth qs (k + j) + u := ⟨_, rfl⟩;rw [← hT] at hdv m4;obtain ⟨Q, hQ⟩ : ∃ Q, Q = T / 1000000000000000000 := ⟨_, rfl⟩
       obtain ⟨R, hR⟩ : ∃ R, R = T % 1000000000000000000 := ⟨_, rfl⟩;rw [← hQ, ← hR] at hdv;rw [← hQ] at m4;have hQ0 : 0 ≤ Q := by omega
       have hR0 : 0 ≤ R := by omega
       have hR1 : R < 1000000000000000000 := by omega
       have HST : Hid (val B18 (qs.set (k + j) R.toNat) + B18 ^ (k + (j + 1)) * Q.toNat = val B18 (xs.take k) * val B18 ys + B18 ^ k * (xs.getD k 0 * val B18 (ys.take (j + 1)))) := by
        have hTn : T.toNat = xs.getD k 0 * ys.getD j 0 + qs.getD (k + j) 0 + u.toNat := by
         have e1 : P = ((xs.getD k 0 * ys.getD j 0 : Nat) : Int) := by rw [hP]; unfold nth; rw [← Int.natCast_mul]
         have e2 : nth qs (k + j) = ((qs.getD (k + j) 0 : Nat) : Int) := by unfold nth; rfl
         rw [hT, e1, e2]; omega
        have h := mul_step (zs := qs) (k := k) (j := j) (ys := ys) (by omega) HQ.out hTn;have e3 : R.toNat = T.toNat % B18 := by rw [hR]; unfold B18; omega
        have e4 : Q.toNat = T.toNat / B18 := by rw [hQ]; unfold B18; omega
        show _ = _; rw [e3, e4]; exact h
       have hfz := hrq.frozen (k + j);have hkj : (k : Int) + (j : Int) < (N : Int) := by omega
       have hkj0 : (0 : Int) ≤ (k : Int) + (j : Int) := by omega
       have hw64 : IntKind.i64.wrap ((k : Int) + (j : Int)) = (k : Int) + (j : Int) := IntWalk.i64_in _ (by omega);clear hc hc' hP hh0 hl0 hl1 hc1 hl2 hc2 hT hQ hR m3 hN1 p0 p1;go_wp2_with fail
       go_quiet ((go_at_call 70; exact Calls.quiet_of_same (hmul _)))
       go_wp2_with (go_at_call 102; refine (hdv _).mono ?_; rintro e w' ⟨rfl, nd, rfl⟩)
       go_roundw
       case rel => exact ⟨j + 1, Q, qs.set (k + j) R.toNat, by omega, by go_num, rfl, hQ0, m4, by first | exact (hrq.drewN _).setInt R hR0 (by omega) | exact ((hrq.drewN _).drewN _).setInt R hR0 (by omega), by rw [List.length_set]; exact hql, jh hqs _ _ (by unfold B18; omega), HST,
        fun p hp => by rw [nth_set _ _ _ (by omega), if_neg (by omega)]; exact HZ2.out p hp, by first | exact (gr hbel2 _).setCell hgW _ | exact (gr (gr hbel2 _) _).setCell hgW _⟩
       case measure => simp [intOf]; omega
     · obtain rfl : j = ys.length := by omega
       have hN1 := HN.out;have hcz := hrq.cell (j := k + ys.length) (by omega);have hz0 : nth qs (k + ys.length) = 0 := HZ2.out _ (Nat.le_refl _);rw [hz0] at hcz;have hfz := hrq.frozen (k + ys.length);have hm2 : ¬ (ys.length : Int) < (ys.length : Int) := by omega
       have hkj : (k : Int) + (ys.length : Int) < (N : Int) := by omega
       have hkj0 : (0 : Int) ≤ (k : Int) + (ys.length : Int) := by omega
       have hw64 : IntKind.i64.wrap ((k : Int) + (ys.length : Int)) = (k : Int) + (ys.length : Int) := IntWalk.i64_in _ (by omega);have hlq : k + ys.length < qs.length := by omega
       have HCL : Hid (val B18 (qs.set (k + ys.length) u.toNat) = val B18 (xs.take (k + 1)) * val B18 ys) := mul_close hlq (by unfold nth at hz0; omega) HQ.out;clear hz0 hN1;go_wp2_with fail
       go_roundw
       case rel => exact ⟨k + 1, qs.set (k + ys.length) u.toNat, by omega, by go_num, hrq.setInt u hu0 hlq, by rw [List.length_set]; exact hql, jh hqs _ _ (by unfold B18; omega), HCL,
        fun p hp => by rw [nth_set _ _ _ hlq, if_neg (by omega)]; exact HZ2.out p (by omega), hbel2.setCell hgW _⟩
       case measure => simp [intOf]; omega
  · obtain rfl : k = xs.length := by omega
    have hm1 : ¬ (xs.length : Int) < (xs.length : Int) := by omega
    have hnum := hrw.nums hzl (yvv hzs);have hfit := fun w h => fits_out (n1 != n2) (some ⟨g, 0, none⟩) N zs w h hzs (by omega);have hval : sgn (n1 != n2) (val B18 zs) = q := HP.out _ (by rw [HV.out, List.take_length]);rw [hval, hzl] at hfit;clear hval
    go_wp2_with (go_at_call 103; refine (hfit _ hnum).mono ?_; rintro e w4 ⟨A4, c4, rfl, hown4, hb4⟩; have LB := hbel.trans (hb4.mono hbel.size); clear x0 x1 y0 y1 hx hy r0 r1 r2 r3; obtain ⟨⟨⟨x0, x1, y0, y1⟩, hx, hy⟩, r0, r1, r2, r3⟩ := HF.out _ LB)
    refine bodyPost_ret (v := .tuple #[.agg #[.bool (decide (outV true q < 0)), .slice A4 (limbs (outV true q)).length c4], .int .i64 (outE true q)]) (by simp [results, Tryz.results64, go_sem, r0, r1]) rfl ?_;exact fin_big hown4 (LW.trans (LB.mono LW.size)) (by omega) (by have := HWs.out; have := hbel.size; omega) _ _
theorem mul_any (hx : Nums w A xs) (hy : Nums w B ys) (hl : xs.length ≤ 9223372036854775807) (hl' : ys.length ≤ 9223372036854775807) :
 Calls Tryz.prog 64 #[.agg #[.bool n1, .slice A xs.length c], .agg #[.bool n2, .slice B ys.length d]] w
  (vo w (outV (va n1 xs && va n2 ys) (num n1 xs * num n2 ys)) (outE (va n1 xs && va n2 ys) (num n1 xs * num n2 ys))) := by
 cases h : (va n1 xs && va n2 ys)
 · rw [outV_bad, outE_bad]; exact mul_bad n1 n2 A B c d xs ys w hx hy hl hl' h
 · obtain ⟨hg, hk⟩ := Bool.and_eq_true_iff.1 h;exact mul_good n1 n2 A B c d xs ys w hx hy hg hk
end
section
variable {i j : Int} (A B : Option Addr) (c d : Nat) (w : World) (hi : i.natAbs < B18 ^ 30) (hj : j.natAbs < B18 ^ 30) (hx : Nums w A (limbs i)) (hy : Nums w B (limbs j))
include hi
include hx
include hj hy
theorem mulI : Calls Tryz.prog 64 #[.agg #[.bool (decide (i < 0)), .slice A (limbs i).length c], .agg #[.bool (decide (j < 0)), .slice B (limbs j).length d]] w (vo w (outV true (i * j)) (outE true (i * j))) := by
 have h := mul_any (decide (i < 0)) (decide (j < 0)) A B c d (limbs i) (limbs j) w hx hy (by have := gf hi; omega) (by have := gf hj; omega);rwa [xk hi, xk hj, oh, oh] at h
theorem cmpI_ : Calls Tryz.prog 68 #[.agg #[.bool (decide (i < 0)), .slice A (limbs i).length c], .agg #[.bool (decide (j < 0)), .slice B (limbs j).length d]] w fun e w' => e = .returned (.int .i64 (zvv i j)) ∧ Below w.heap.size w w' := by
 have h := cmp_any A B c d (limbs i) (limbs j) w (decide (i < 0)) (decide (j < 0)) hx hy (by have := gf hi; omega) (by have := gf hj; omega);rw [xk hi, xk hj, oh, oh] at h;unfold cmpO at h;exact h
end
theorem outE_zero {i : Int} (h : outE true i = 0) : i.natAbs < B18 ^ 30 := by
 unfold outE at h;rw [if_pos rfl] at h;split at h
 · assumption
 · cases h
theorem retErr_zero {W w' : World} {f : Int} (hb : Below W.heap.size W w') : vo W 0 f (.returned (.tuple #[.agg #[.bool false, .slice none 0 0], .int .i64 f])) w' :=
 ⟨none, 0, by rw [je]; rfl, by rw [je]; exact Own.nil _ _, hb⟩
theorem own_apart {w : World} {base c g : Nat} {A : Option Addr} {xs : List Nat} {t : TypeId} {cs : Array Value} (h : Own w base A c xs) (hb : Blk w g t cs) (ht : 32 ≠ t) : Apart (Value.slice A xs.length c).ownBlock (some g) :=
 fun k e f => own_blk_ne h.1 hb ht (e.trans f.symm)
theorem Per.ownN {l : List (Option Nat)} {w : World} {base c : Nat} {A : Option Addr} {xs : List Nat} (h : Own w base A c xs) (hn : NotIn (Value.slice A xs.length c).ownBlock l) : Per (Mut l) w (fun b => Own b base A c xs) :=
 fun _ hb => ⟨qp h.1 hb hn, h.2⟩
theorem Per.ownX {X : Nat → Prop} {w : World} {base c : Nat} {A : Option Addr} {xs : List Nat} (h : Own w base A c xs) (hx : ∀ k, X k → k < base) : Per X w (fun b => Own b base A c xs) := fun b hb => by
 have hb' : Ext (Mut [none]) w b ∨ True := Or.inr trivial;refine ⟨(⟨h.1.1, ?_⟩), h.2⟩;rcases h.1.2 with h2 | ⟨g, cap, cur, hv, hg, hh, r⟩
 · exact Or.inl h2
 · exact Or.inr ⟨g, cap, cur, hv, hg, (hb.block g (Array.getElem?_eq_some_iff.1 hh).1 (fun e => by have := hx g e; omega)).trans hh, r⟩
theorem cellAt_lt {w : World} {b o : Nat} {v : Value} (h : w.cell? ⟨b, o, none⟩ = some v) : b < w.heap.size := by
 unfold World.cell? at h;simp only [] at h
 split at h
 · rename_i c t fr hh; exact (Array.getElem?_eq_some_iff.1 hh).1
 · cases h
theorem Per.cell0 {w : World} {g o : Nat} {v : Value} (h : w.cell? ⟨g, o, none⟩ = some v) : Per No w (fun b => b.cell? ⟨g, o, none⟩ = some v) := fun b hb => by
 have hlt : g < w.heap.size := cellAt_lt h;show b.cell? ⟨g, o, none⟩ = some v
 rw [hb.cell (p := ⟨g, o, none⟩) hlt (fun e => e.elim)]; exact h
section
variable (n1 n2 : Bool) (A B : Option Addr) (c d : Nat) (xs ys : List Nat) (w : World)
end
section
variable (i j : Int) (A B : Option Addr) (c d : Nat) (w : World) (hi : i.natAbs < B18 ^ 30) (hj : j.natAbs < B18 ^ 30) (hx : Nums w A (limbs i)) (hy : Nums w B (limbs j))
include hi hj hx hy
theorem pow_zero (h0 : j = 0) : Calls Tryz.prog 63 #[.agg #[.bool (decide (i < 0)), .slice A (limbs i).length c], .agg #[.bool (decide (j < 0)), .slice B (limbs j).length d]] w (vo w 1 0) := by
 have hd : decide (j < 0) = false := by rw [h0]; rfl
 have hlen : (limbs j).length = 0 := by rw [h0, je]; rfl
 refine zo Tryz.func63 rfl Tryz.ntmps63 rfl ?_;have HF : Per (No) w (fun _ => True) := Per.true_;have LW := erx (No) w;have XLW := grx (No) w;have E := erx (No) w;replace HF := HF.on E;replace LW := LW.step E XLW;replace E := erx (No) w;replace HF := HF.and (Per.nums0 hx);replace HF := HF.on E;replace LW := LW.step E XLW;replace E := erx (No) w;replace HF := HF.and (Per.nums0 hy)
 refine srx (za rfl (gl rfl ?_));intro gb1 w2 Bb1 Eb1 Gb1;have Gb1 : _ ≤ gb1 := Nat.le_trans E.size Gb1;have GLb1 := Nat.le_trans LW.size Gb1;replace E := E.trans Eb1.no;replace HF := HF.cons (ye Gb1);replace E := E.cons (some gb1);replace XLW := Mut.grow XLW (fun k e => Or.inr (Nat.le_trans LW.size ((ye Gb1) k e)));replace HF := HF.on E;replace LW := LW.step E XLW
 have SB : ∀ q9, No q9 → Mut [(some gb1)] q9 := (Mut.skip Mut.nil_);replace HF := HF.less SB;replace XLW := fun k h => XLW k (SB k h);clear SB;replace E := erx (No) w2;replace HF := HF.and (Per.blkN Bb1 NotIn.nil);refine za rfl (gl rfl ?_);intro gb3 w4 Bb3 Eb3 Gb3;have Gb3 : _ ≤ gb3 := Nat.le_trans E.size Gb3;have GLb3 := Nat.le_trans LW.size Gb3;replace E := E.trans Eb3.no
 replace HF := HF.cons (ye Gb3);replace E := E.cons (some gb3);replace XLW := Mut.grow XLW (fun k e => Or.inr (Nat.le_trans LW.size ((ye Gb3) k e)));replace HF := HF.on E;replace LW := LW.step E XLW;have SB : ∀ q9, No q9 → Mut [(some gb3)] q9 := (Mut.skip Mut.nil_);replace HF := HF.less SB;replace XLW := fun k h => XLW k (SB k h);clear SB;replace E := erx (No) w4
 replace HF := HF.and (Per.blkN Bb3 NotIn.nil);refine za rfl (qu zbk ?_);intro gb5 w6 Bb5 Eb5 Gb5;have Gb5 : _ ≤ gb5 := Nat.le_trans E.size Gb5;have GLb5 := Nat.le_trans LW.size Gb5;replace E := E.trans Eb5.no;replace HF := HF.cons (ye Gb5);replace E := E.cons (some gb5);replace XLW := Mut.grow XLW (fun k e => Or.inr (Nat.le_trans LW.size ((ye Gb5) k e)))
 refine anx rfl (zb (srx (za rfl (qb Tryz.underlying42 rfl vh rfl (HF.on E).here.1.2 rfl (za rfl (zg en54 rfl ((zqk A c _ hi (HF.on E).here.1.1.1.2).mono ?_)))))));rintro e w7 ⟨rfl, hb⟩;refine ⟨_, rfl, ?_⟩;have Ec := Ext.of_below hb No;replace Bb5 := Bb5.extN Ec NotIn.nil;replace E := E.trans Ec.no
 refine za rfl (jj rfl (mvx rfl (onx rfl (qb Tryz.underlying42 rfl vh rfl (HF.on E).here.2 rfl (onx rfl (zg en54 rfl ((zqk B d _ hj (HF.on E).here.1.1.2).mono ?_)))))));rintro e w8 ⟨rfl, hb⟩;refine ⟨_, rfl, ?_⟩;have Ec := Ext.of_below hb No;replace Bb5 := Bb5.extN Ec NotIn.nil;replace E := E.trans Ec.no
 refine onx rfl (jj rfl (za rfl (yi rfl rfl (rnx (zj rfl (zf (zc (zb (srx (za rfl (ze Tryz.underlying42 rfl sz4 (by decide) rfl (za rfl (zy Tryz.underlying4 rfl rfl (HF.on E).here.2 rfl (rnx (yc 19 (.bool false) rfl ((by rw [hd] : (.bool (decide (j < 0)) : Value) = _)) (zj rfl (zf (zc (srx (za rfl (zg en61 rfl ((znk 1 _ (by decide) (by decide)).mono ?_))))))))))))))))))))))
 rintro e w9 ⟨A1, c1, rfl, o1, hb⟩;refine ⟨_, rfl, ?_⟩;have XC : ∀ q9, (Mut [(some gb5)]) q9 → q9 < w8.heap.size := (Mut.grow Mut.none_ (yf Bb5.lt));have SC := Nat.le_trans LW.size E.size;have Ec := Ext.of_below hb No;replace Bb5 := Bb5.extN Ec NotIn.nil;replace E := E.trans Ec.no;have S1 := SC;replace HF := HF.on E;replace LW := LW.step E XLW;replace E := erx (Mut [(some gb5)]) w9
 replace HF := HF.and (Per.ownX o1 XC);refine za rfl (qu zbk ?_);intro gb10 w11 Bb10 Eb10 Gb10;have Db10_b5 : Apart (some gb10) (some gb5) := Apart.of_lt (yf Bb5.lt) Gb10;have Db5_b10 := Db10_b5.symm;have Gb10 : _ ≤ gb10 := Nat.le_trans E.size Gb10;have GLb10 := Nat.le_trans LW.size Gb10;replace Bb5 := Bb5.extN Eb10 NotIn.nil;replace E := E.trans Eb10.no
 replace HF := HF.cons (ye Gb10);replace E := E.cons (some gb10);replace XLW := Mut.grow XLW (fun k e => Or.inr (Nat.le_trans LW.size ((ye Gb10) k e)));refine qf (qj vh rfl rfl Bb10 rfl rfl (Nat.le_of_ble_eq_true rfl) ?_);intro w12 Bx Eb10;replace Bb10 := Bx;replace Bb5 := Bb5.extN Eb10 (NotIn.cons Db5_b10 NotIn.nil);replace E := E.step1 Eb10 Mut.head
 refine rnx (zb (srx (za rfl (ze Tryz.underlying42 rfl zkz (by decide) rfl (za rfl (zy Tryz.underlying40 rfl rfl (HF.on E).here.1.2 rfl (za rfl (gx Tryz.underlying40 rfl (za rfl (zx rfl rfl (rnx (yc 25 (.bool true) rfl ((by rw [hlen]; rfl : (.bool (((((limbs j).length : Nat)) : Int) == 0) : Value) = _)) (zz rfl (srx (za rfl (qb Tryz.underlying42 rfl vh rfl Bb10 rfl (qf (qj vh rfl rfl Bb5 rfl rfl (Nat.le_of_ble_eq_true rfl) ?_))))))))))))))))))
 intro w13 Bx Eb5;replace Bb5 := Bx;replace Bb10 := Bb10.extN Eb5 (NotIn.cons Db10_b5 NotIn.nil);replace E := E.step1 Eb5 (Mut.tail Mut.head);refine anx rfl (zt (zq (zr (rs := [.cell 4 42, .tmp 5]) (vs := [_, _]) rfl ⟨⟨_, rfl, zgk Tryz.underlying42 rfl vh Bb5 rfl⟩, rfl, trivial⟩ ?_)));exact ⟨A1, c1, rfl, ((HF.on E).here.2).mono S1, (LW.step E XLW).toBelow⟩
end
/-! ### what stands in the limbs -/
theorem nth_lim0 {j : Int} (h0 : j ≠ 0) : nth (limbs j) 0 = ((j.natAbs % B18 : Nat) : Int) := by
 unfold nth;rw [vi, oo vf (by omega)];rfl
theorem lim_len1 {j : Int} (h0 : j ≠ 0) (h : j.natAbs < B18) : (limbs j).length = 1 := by
 rw [vi, oo vf (by omega), Nat.div_eq_of_lt h]; rfl
theorem yiq {j : Int} (h0 : j ≠ 0) : 0 < (limbs j).length := by rw [vi]; exact zvq vf (by omega)
theorem pow_abs (i : Int) (n : Nat) : (i ^ n).natAbs = i.natAbs ^ n := Int.natAbs_pow i n
theorem pow_mono {i : Int} (h : 1 ≤ i.natAbs) {k n : Nat} (hk : k ≤ n) : (i ^ k).natAbs ≤ (i ^ n).natAbs := by
 rw [pow_abs, pow_abs]; exact Nat.pow_le_pow_right h hk
section
variable (i j : Int) (A B : Option Addr) (c d : Nat) (w : World) (hi : i.natAbs < B18 ^ 30) (hj : j.natAbs < B18 ^ 30) (hx : Nums w A (limbs i)) (hy : Nums w B (limbs j))
include hi hj hx hy
theorem pow_l1 (h0 : 0 < j) (hj2 : j ≤ 2000) (h2i : 2 ≤ i.natAbs) (h : i.natAbs < B18) : Calls Tryz.prog 63 #[.agg #[.bool (decide (i < 0)), .slice A (limbs i).length c], .agg #[.bool (decide (j < 0)), .slice B (limbs j).length d]] w (vo w (outV true (i ^ j.toNat)) (outE true (i ^ j.toNat))) := by
 have hjb : j.natAbs < B18 := by unfold B18; omega
 have ejm : j.natAbs % B18 = j.toNat := by rw [Nat.mod_eq_of_lt hjb]; omega
 have hd : decide (j < 0) = false := decide_eq_false (by omega);have hip := yiq (j := i) (by omega);have hjp := yiq (j := j) (by omega);have hlen : ((limbs j).length : Int) ≠ 0 := by omega
 have hleni : ((limbs i).length : Int) ≠ 0 := by omega
 obtain ⟨bx, ox, rfl, hbx, hcx⟩ := hx.2 hip;obtain ⟨by_, oy, rfl, hby, hcy⟩ := hy.2 hjp;have hc0 : w.cell? ⟨bx, ox + 0, none⟩ = some (.int .u64 ((i.natAbs % B18 : Nat) : Int)) := by rw [hcx 0 hip, nth_lim0 (by omega)]
 have hd0 : w.cell? ⟨by_, oy + 0, none⟩ = some (.int .u64 (((j.toNat : Nat) : Int))) := by rw [hcy 0 hjp, nth_lim0 (by omega)]; rw [ejm]
 refine zo Tryz.func63 rfl Tryz.ntmps63 rfl ?_;have HF : Per (No) w (fun _ => True) := Per.true_;have LW := erx (No) w;have XLW := grx (No) w;have E := erx (No) w;replace HF := HF.on E;replace LW := LW.step E XLW;replace E := erx (No) w;replace HF := HF.and (Per.nums0 hx);replace HF := HF.on E;replace LW := LW.step E XLW;replace E := erx (No) w;replace HF := HF.and (Per.nums0 hy)
 replace HF := HF.on E;replace LW := LW.step E XLW;replace E := erx (No) w;replace HF := HF.and (Per.cell0 hc0);replace HF := HF.on E;replace LW := LW.step E XLW;replace E := erx (No) w;replace HF := HF.and (Per.cell0 hd0);refine srx (za rfl (gl rfl ?_));intro gb1 w2 Bb1 Eb1 Gb1;have Gb1 : _ ≤ gb1 := Nat.le_trans E.size Gb1;have GLb1 := Nat.le_trans LW.size Gb1;replace E := E.trans Eb1.no
 replace HF := HF.cons (ye Gb1);replace E := E.cons (some gb1);replace XLW := Mut.grow XLW (fun k e => Or.inr (Nat.le_trans LW.size ((ye Gb1) k e)));replace HF := HF.on E;replace LW := LW.step E XLW;have SB : ∀ q9, No q9 → Mut [(some gb1)] q9 := (Mut.skip Mut.nil_);replace HF := HF.less SB;replace XLW := fun k h => XLW k (SB k h);clear SB;replace E := erx (No) w2
 replace HF := HF.and (Per.blkN Bb1 NotIn.nil);refine za rfl (gl rfl ?_);intro gb3 w4 Bb3 Eb3 Gb3;have Gb3 : _ ≤ gb3 := Nat.le_trans E.size Gb3;have GLb3 := Nat.le_trans LW.size Gb3;replace E := E.trans Eb3.no;replace HF := HF.cons (ye Gb3);replace E := E.cons (some gb3);replace XLW := Mut.grow XLW (fun k e => Or.inr (Nat.le_trans LW.size ((ye Gb3) k e)));replace HF := HF.on E
 replace LW := LW.step E XLW;have SB : ∀ q9, No q9 → Mut [(some gb3)] q9 := (Mut.skip Mut.nil_);replace HF := HF.less SB;replace XLW := fun k h => XLW k (SB k h);clear SB;replace E := erx (No) w4;replace HF := HF.and (Per.blkN Bb3 NotIn.nil);refine za rfl (qu zbk ?_);intro gb5 w6 Bb5 Eb5 Gb5;have Gb5 : _ ≤ gb5 := Nat.le_trans E.size Gb5;have GLb5 := Nat.le_trans LW.size Gb5
 replace E := E.trans Eb5.no;replace HF := HF.cons (ye Gb5);replace E := E.cons (some gb5);replace XLW := Mut.grow XLW (fun k e => Or.inr (Nat.le_trans LW.size ((ye Gb5) k e)));refine anx rfl (zb (srx (za rfl (qb Tryz.underlying42 rfl vh rfl (HF.on E).here.1.2 rfl (za rfl (zg en54 rfl ((zqk _ c _ hi (HF.on E).here.1.1.1.1.1.2).mono ?_)))))))
 rintro e w7 ⟨rfl, hb⟩;refine ⟨_, rfl, ?_⟩;have Ec := Ext.of_below hb No;replace Bb5 := Bb5.extN Ec NotIn.nil;replace E := E.trans Ec.no;refine za rfl (jj rfl (mvx rfl (onx rfl (qb Tryz.underlying42 rfl vh rfl (HF.on E).here.2 rfl (onx rfl (zg en54 rfl ((zqk _ d _ hj (HF.on E).here.1.1.1.1.2).mono ?_)))))));rintro e w8 ⟨rfl, hb⟩;refine ⟨_, rfl, ?_⟩
 have Ec := Ext.of_below hb No;replace Bb5 := Bb5.extN Ec NotIn.nil;replace E := E.trans Ec.no
 refine onx rfl (jj rfl (za rfl (yi rfl rfl (rnx (zj rfl (zf (zc (zb (srx (za rfl (ze Tryz.underlying42 rfl sz4 (by decide) rfl (za rfl (zy Tryz.underlying4 rfl rfl (HF.on E).here.2 rfl (rnx (yc 19 (.bool false) rfl ((by rw [hd] : (.bool (decide (j < 0)) : Value) = _)) (zj rfl (zf (zc (srx (za rfl (zg en61 rfl ((znk 1 _ (by decide) (by decide)).mono ?_))))))))))))))))))))))
 rintro e w9 ⟨A1, c1, rfl, o1, hb⟩;refine ⟨_, rfl, ?_⟩;have XC : ∀ q9, (Mut [(some gb5)]) q9 → q9 < w8.heap.size := (Mut.grow Mut.none_ (yf Bb5.lt));have SC := Nat.le_trans LW.size E.size;have Ec := Ext.of_below hb No;replace Bb5 := Bb5.extN Ec NotIn.nil;replace E := E.trans Ec.no;have S1 := SC;replace HF := HF.on E;replace LW := LW.step E XLW;replace E := erx (Mut [(some gb5)]) w9
 replace HF := HF.and (Per.ownX o1 XC);refine za rfl (qu zbk ?_);intro gb10 w11 Bb10 Eb10 Gb10;have Db10_b5 : Apart (some gb10) (some gb5) := Apart.of_lt (yf Bb5.lt) Gb10;have Db5_b10 := Db10_b5.symm;have Gb10 : _ ≤ gb10 := Nat.le_trans E.size Gb10;have GLb10 := Nat.le_trans LW.size Gb10;replace Bb5 := Bb5.extN Eb10 NotIn.nil;replace E := E.trans Eb10.no
 replace HF := HF.cons (ye Gb10);replace E := E.cons (some gb10);replace XLW := Mut.grow XLW (fun k e => Or.inr (Nat.le_trans LW.size ((ye Gb10) k e)));refine qf (qj vh rfl rfl Bb10 rfl rfl (Nat.le_of_ble_eq_true rfl) ?_);intro w12 Bx Eb10;replace Bb10 := Bx;replace Bb5 := Bb5.extN Eb10 (NotIn.cons Db5_b10 NotIn.nil);replace E := E.step1 Eb10 Mut.head
 refine rnx (zb (srx (za rfl (ze Tryz.underlying42 rfl zkz (by decide) rfl (za rfl (zy Tryz.underlying40 rfl rfl (HF.on E).here.1.2 rfl (za rfl (gx Tryz.underlying40 rfl (za rfl (zx rfl rfl (rnx (yc 25 (.bool false) rfl ((by rw [beq_eq_false_iff_ne.2 hlen] : (.bool (((((limbs j).length : Nat)) : Int) == 0) : Value) = _)) (zj rfl (zf (zc (zb (srx (za rfl (ze Tryz.underlying42 rfl zkz (by decide) rfl (za rfl (zy Tryz.underlying40 rfl rfl (HF.on E).here.1.1.2 rfl (za rfl (gx Tryz.underlying40 rfl (za rfl (zx rfl rfl (mvx rfl (zv 31 (.bool false) rfl ((by rw [beq_eq_false_iff_ne.2 hleni] : (.bool (((((limbs i).length : Nat)) : Int) == 0) : Value) = _)) (onx rfl (ze Tryz.underlying42 rfl zkz (by decide) rfl (onx rfl (zy Tryz.underlying40 rfl rfl (HF.on E).here.1.1.2 rfl (onx rfl (gx Tryz.underlying40 rfl (onx rfl (zx rfl rfl (onx rfl (zi rfl ?_)))))))))))))))))))))))))))))))))))))
 have h1 : ((limbs i).length : Int) = 1 := by rw [lim_len1 (by omega) h]; rfl
 refine zv 36 (.bool true) rfl ((by rw [h1]; rfl : (.bool (((((limbs i).length : Nat)) : Int) == 1) : Value) = _)) (onx rfl (ze Tryz.underlying42 rfl zkz (by decide) rfl (onx rfl (zy Tryz.underlying40 rfl rfl (HF.on E).here.1.1.2 rfl (onx rfl (yn (j := 0) Tryz.underlying40 zfv rfl rfl rfl hip (onx rfl (yl Tryz.underlying32 rfl rfl (HF.on E).here.1.1.1.1.2 (onx rfl (zx rfl rfl (onx rfl (yk rfl rfl (za rfl (yi rfl rfl (rnx (yc 43 (.bool false) rfl ((by rw [Nat.mod_eq_of_lt h, beq_eq_false_iff_ne.2 (by omega)] : (.bool (((i.natAbs % B18 : Nat) : Int) == 1) : Value) = _)) (zj rfl (zf (zc (zb (srx (za rfl (ze Tryz.underlying42 rfl zkz (by decide) rfl (za rfl (zy Tryz.underlying40 rfl rfl (HF.on E).here.1.2 rfl (za rfl (gx Tryz.underlying40 rfl (za rfl (qh rfl rfl (mvx rfl ?_))))))))))))))))))))))))))))))
 have h2 : ¬ (1 : Int) < ((limbs j).length : Int) := by rw [lim_len1 (by omega) hjb]; decide
 refine zv 61 (.bool false) rfl ((by rw [decide_eq_false h2] : (.bool (decide (1 < ((((limbs j).length : Nat)) : Int))) : Value) = _)) (onx rfl (ze Tryz.underlying42 rfl zkz (by decide) rfl (onx rfl (zy Tryz.underlying40 rfl rfl (HF.on E).here.1.2 rfl (onx rfl (yn (j := 0) Tryz.underlying40 zfv rfl rfl rfl hjp (onx rfl (yl Tryz.underlying32 rfl rfl (HF.on E).here.1.1.1.2 (onx rfl (qh rfl rfl (za rfl (yi rfl rfl (rnx (yc 67 (.bool false) rfl ((by rw [decide_eq_false (by omega)] : (.bool (decide (2000 < (((j.toNat : Nat) : Int)))) : Value) = _)) (zj rfl (zf (zc (zb (srx (za rfl (ze Tryz.underlying42 rfl zkz (by decide) rfl (za rfl (zy Tryz.underlying40 rfl rfl (HF.on E).here.1.2 rfl (za rfl (yn (j := 0) Tryz.underlying40 zfv rfl rfl rfl hjp (za rfl (yl Tryz.underlying32 rfl rfl (HF.on E).here.1.1.1.2 (mvx rfl (rnx (zw ?_))))))))))))))))))))))))))))))
 have b1 : (i ^ 0).natAbs < B18 ^ 30 := by rw [Int.pow_zero]; exact Nat.one_lt_pow (by decide) (by unfold B18; omega)
 have e0 : i ^ 0 = 1 := Int.pow_zero i;replace Bb10 : Blk w12 gb10 42 #[.bool (decide (i ^ 0 < 0)), .slice A1 (limbs (i ^ 0)).length c1] := by rw [e0]; exact Bb10
 replace HF := HF.on E;replace LW := LW.step E XLW;replace E := erx (Mut [(some gb10), (some gb5)]) w12
 refine jo (ι := Nat × Option Addr × Nat) (fun (k, A1, c1) => [(2, .pointer (some ⟨gb1, 0, none⟩)), (4, .pointer (some ⟨gb5, 0, none⟩)), (6, .pointer (some ⟨gb10, 0, none⟩)), (72, .int .u64 ((j.toNat : Nat) : Int)), (73, .int .u64 ((k : Nat) : Int))]) (fun (k, A1, c1) w' => Ext (Mut [(some gb10), (some gb5)]) w12 w' ∧ Blk w' gb10 42 (#[.bool (decide (i ^ k < 0)), .slice A1 (limbs (i ^ k)).length c1]) ∧ Blk w' gb5 42 (#[.bool false, .slice none 0 0]) ∧ (k ≤ j.toNat ∧ (i ^ k).natAbs < B18 ^ 30 ∧ Own w' w.heap.size A1 c1 (limbs (i ^ k)))) (fun (k, A1, c1) => j.toNat - k) (0, A1, c1) ⟨rfl, rfl, rfl, rfl, rfl, trivial⟩ ⟨Ext.refl _ _, (by exact Bb10), (by exact Bb5), ⟨Nat.zero_le _, b1, by rw [e0]; exact ((HF.on E).here.2).mono S1⟩⟩ ?_
 have LTb10 := (yf Bb10.lt);have LTb5 := (yf Bb5.lt);rintro ⟨k, A1, c1⟩ w14 ⟨M13, Bb10, Bb5, ⟨hk, hb1, hown⟩⟩;have XM13 : Gro (Mut [(some gb10), (some gb5)]) (Mut [(some gb10), (some gb5)]) w12 := (Mut.grow (Mut.grow Mut.none_ (fun k e => Or.inl ((Mut.tail Mut.head) k e))) (fun k e => Or.inl (Mut.head k e)));replace E := E.trans M13;replace HF := HF.on E;replace LW := LW.step E XLW
 replace E := erx (Mut [(some gb10), (some gb5)]) w14;clear LTb10;clear LTb5;replace HF := HF.on E;replace LW := LW.step E XLW;replace M13 := M13.step E XM13;replace E := erx (Mut [(some gb10), (some gb5)]) w14;replace HF := HF.and (Per.ownN hown (NotIn.cons (own_apart hown Bb10 (by decide)) (NotIn.cons (own_apart hown Bb5 (by decide)) NotIn.nil)))
 refine srx (za rfl (yp rfl rfl (rnx (zb (yh rfl (fun hlt => ?_) (fun hlt => ?_))))))
 ·
  have hlt := of_decide_eq_true hlt;refine zf (zc (zb (zw (srx (za rfl (qb Tryz.underlying42 rfl vh rfl Bb10 rfl (za rfl (qb Tryz.underlying42 rfl vh rfl (HF.on E).here.1.1.1.2 rfl (za rfl (zg en64 rfl ((mulI A1 _ c1 c _ hb1 hi ((HF.on E).here.2).nums (HF.on E).here.1.1.1.1.1.1.1.2).mono ?_)))))))))));rintro e w15 ⟨A3, c3, rfl, o3, hb⟩
  refine ⟨_, rfl, ?_⟩;have XC : ∀ q9, (Mut [(some gb10), (some gb5)]) q9 → q9 < w14.heap.size := (Mut.grow (Mut.grow Mut.none_ (yf Bb5.lt)) (yf Bb10.lt));have SC := Nat.le_trans LW.size E.size;have Ec := Ext.of_below hb No;replace Bb10 := Bb10.extN Ec NotIn.nil;replace Bb5 := Bb5.extN Ec NotIn.nil;replace E := E.trans Ec.no;have S3 := SC;replace HF := HF.on E
  replace LW := LW.step E XLW;replace M13 := M13.step E XM13;replace E := erx (Mut [(some gb10), (some gb5)]) w15;replace HF := HF.and (Per.ownX o3 XC);refine mvx rfl (za rfl (zm rfl rfl (za rfl (zm rfl rfl (za rfl (qu zbk ?_))))));intro gb16 w17 Bb16 Eb16 Gb16;have Db16_b10 : Apart (some gb16) (some gb10) := Apart.of_lt (yf Bb10.lt) Gb16
  have Db10_b16 := Db16_b10.symm;have Db16_b5 : Apart (some gb16) (some gb5) := Apart.of_lt (yf Bb5.lt) Gb16;have Db5_b16 := Db16_b5.symm;have Gb16 : _ ≤ gb16 := Nat.le_trans E.size Gb16;have GLb16 := Nat.le_trans LW.size Gb16;replace Bb10 := Bb10.extN Eb16 NotIn.nil;replace Bb5 := Bb5.extN Eb16 NotIn.nil;replace E := E.trans Eb16.no;replace HF := HF.cons (ye Gb16)
  replace E := E.cons (some gb16);replace XLW := Mut.grow XLW (fun k e => Or.inr (Nat.le_trans LW.size ((ye Gb16) k e)));replace XM13 := Mut.grow XM13 (fun k e => Or.inr (Nat.le_trans M13.size ((ye Gb16) k e)));refine qf (qj vh rfl rfl Bb16 rfl rfl (Nat.le_of_ble_eq_true rfl) ?_);intro w18 Bx Eb16;replace Bb16 := Bx
  replace Bb10 := Bb10.extN Eb16 (NotIn.cons Db10_b16 NotIn.nil);replace Bb5 := Bb5.extN Eb16 (NotIn.cons Db5_b16 NotIn.nil);replace E := E.step1 Eb16 Mut.head;refine anx rfl (zb (srx (mvx rfl (za rfl (vw rfl rfl (rnx (yh rfl (fun q => ?_) (fun q => ?_))))))))
  ·
   have e1 : B18 ^ 30 ≤ (i ^ j.toNat).natAbs := by
    have h7 : ¬ (i ^ k * i).natAbs < B18 ^ 30 := fun h9 => by rw [zxv h9] at q; exact absurd q (by decide)
    have h8 := pow_mono (i := i) (by omega) (show k + 1 ≤ j.toNat by omega);rw [Int.pow_succ] at h8;omega
   have e2 : outE true (i ^ k * i) = 7 := outE_big (by
    rcases Nat.lt_or_ge (i ^ k * i).natAbs (B18 ^ 30) with h9 | h9
    · rw [zxv h9] at q; exact absurd q (by decide)
    · exact h9)
   refine srx (za rfl (ow_build (cs := #[.bool false, .slice none 0 0]) pl42 zbk rfl rfl (mvx rfl (qf (qj vh rfl rfl Bb5 rfl rfl (Nat.le_of_ble_eq_true rfl) ?_)))));intro w19 Bx Eb5;replace Bb5 := Bx;replace Bb16 := Bb16.extN Eb5 (NotIn.cons Db16_b5 NotIn.nil);replace Bb10 := Bb10.extN Eb5 (NotIn.cons Db10_b5 NotIn.nil);replace E := E.step1 Eb5 (Mut.tail (Mut.tail Mut.head))
   refine anx rfl (zt (zq (yo (zq (zq (yo (zq (yw 5 (.int .i64 7) rfl ((by rw [e2] : (.int .i64 (outE true (i ^ k * i)) : Value) = _)) (zr (rs := [.cell 4 42, .tmp 5]) (vs := [_, _]) rfl ⟨⟨_, rfl, zgk Tryz.underlying42 rfl vh Bb5 rfl⟩, rfl, trivial⟩ ?_)))))))))
   exact by rw [outV_big e1, outE_big e1]; exact retErr_zero (LW.step E XLW).toBelow
  ·
   have h9 : (i ^ k * i).natAbs < B18 ^ 30 := outE_zero (by simpa using q);have eV : outV true (i ^ k * i) = i ^ (k + 1) := by rw [zxk h9, Int.pow_succ]
   refine zf (zc (zh (za rfl (qb Tryz.underlying42 rfl vh rfl Bb16 rfl (qf (qj vh rfl rfl Bb10 rfl rfl (Nat.le_of_ble_eq_true rfl) ?_))))));intro w20 Bx Eb10;replace Bb10 := Bx;replace Bb16 := Bb16.extN Eb10 (NotIn.cons Db16_b10 NotIn.nil);replace Bb5 := Bb5.extN Eb10 (NotIn.cons Db5_b10 NotIn.nil);replace E := E.step1 Eb10 (Mut.tail Mut.head)
   refine yg (zl (zc (zh (za rfl (yb rfl rfl (wrap_u64 (by omega)) (mvx rfl (yg ?_)))))));rw [eV] at Bb10
   exact yt (k + 1, A3, c3) (by show j.toNat - (k + 1) < j.toNat - k; omega) ⟨rfl, rfl, rfl, rfl, rfl, trivial⟩ ⟨M13.step E XM13, (by exact Bb10), (by exact Bb5), by omega, by rw [Int.pow_succ]; exact h9, by rw [← eV]; exact ((HF.on E).here.2).mono S3⟩
 ·
  have hge := of_decide_eq_false hlt;obtain rfl : k = j.toNat := by omega
  refine yr (zn (zn (ya (zc (srx (za rfl (qb Tryz.underlying42 rfl vh rfl Bb10 rfl (qf (qj vh rfl rfl Bb5 rfl rfl (Nat.le_of_ble_eq_true rfl) ?_)))))))));intro w21 Bx Eb5;replace Bb5 := Bx;replace Bb10 := Bb10.extN Eb5 (NotIn.cons Db10_b5 NotIn.nil);replace E := E.step1 Eb5 (Mut.tail Mut.head);replace HF := HF.on E
  replace LW := LW.step E XLW;have SB : ∀ q9, Mut [(some gb10)] q9 → Mut [(some gb10), (some gb5)] q9 := (Mut.keep (Mut.skip Mut.nil_));replace HF := HF.less SB;replace XLW := fun k h => XLW k (SB k h);clear SB;replace E := erx (Mut [(some gb10)]) w21;replace HF := HF.and (Per.blkN Bb5 (NotIn.cons Db5_b10 NotIn.nil))
  refine anx rfl (zt (zr (rs := [.cell 4 42, .tmp 5]) (vs := [_, _]) rfl ⟨⟨_, rfl, zgk Tryz.underlying42 rfl vh (HF.on E).here.2 rfl⟩, rfl, trivial⟩ ?_));exact ⟨A1, c1, by rw [zxk hb1, zxv hb1]; rfl, by rw [zxk hb1]; exact (HF.on E).here.1.2, (LW.step E XLW).toBelow⟩
end
def RetNumE (W : World) (A0 : Option Addr) (xs0 : List Nat) (v f : Int) (e : Ending) (w' : World) : Prop := ∃ A c, e = .returned (.tuple #[.agg #[.bool (decide (v < 0)), .slice A (tens v).length c], .int .i64 f]) ∧ Nums8 w' A (tens v) ∧ ((∀ q, A = some q → W.heap.size ≤ q.block) ∨ (A = A0 ∧ tens v = xs0)) ∧ Below W.heap.size W w'
section
variable (i j : Int) (A B : Option Addr) (c d : Nat) (w : World) (hi : i.natAbs < B18 ^ 30) (hj : j.natAbs < B18 ^ 30) (hx : Nums8 w A (tens i)) (hy : Nums8 w B (tens j))
include hi hj hx hy
end
def isDig (b : UInt8) : Bool := decide (48 ≤ b.toNat) && decide (b.toNat ≤ 57)
def dv (b : UInt8) : Nat := b.toNat - 48
def num10 (r : List UInt8) : Nat := val 10 (r.reverse.map dv)
def textV (neg : Bool) (r : List UInt8) : Int := if r ≠ [] ∧ r.all isDig = true ∧ num10 r < B18 ^ 30 then sgn neg (num10 r) else 0
def textE (r : List UInt8) : Int := if r ≠ [] ∧ r.all isDig = true then (if num10 r < B18 ^ 30 then 0 else 2) else 4
def textN (bs : List UInt8) : Bool := decide (bs.head? = some 45)
def textR (bs : List UInt8) : List UInt8 := if bs.head? = some 45 then bs.tail else bs
def dvals (l : List UInt8) : List Value := l.map fun b => .int .u8 ((b.toNat : Int) - 48)
def RetRead (W : World) (v f : Int) (e : Ending) (w' : World) : Prop := ∃ A c, e = .returned (.tuple #[.agg #[.bool (decide (v < 0)), .slice A (tens v).length c], .int .i64 f]) ∧ Own8 w' W.heap.size A c (tens v) ∧ Below W.heap.size W w'
section
variable (s : ByteArray) (r : List UInt8) (w : World)
end
section
variable (s : ByteArray) (w : World)
end
end Go.Proofs.YtjdcjdohghkcgaaGreatDoor
namespace Go.Proofs.YtjdcjdohghkcgaaGreatDoor
open Go.RowKit
set_option maxRecDepth 100000
attribute [local irreducible] OW RS
theorem shl63 (neg : Bool) : IntKind.u64.wrap (((b2n neg : Nat) : Int) * 2 ^ (min (63 : Int).toNat IntKind.u64.bits)) = ((sgB neg : Nat) : Int) := by
 cases neg <;> decide +kernel
section
variable (w : World) {bp op cp bf of cf bl ol cl : Nat}
theorem common_digit (s : ByteArray) (h : 48 ≤ bAt s 0 ∧ bAt s 0 ≤ 57) : Calls Tryz.prog 212 #[.string s, .string ⟨#[105, 110, 102, 105, 110, 105, 116, 121]⟩] w fun e w' => e = .returned (.int .i64 0) ∧ Below w.heap.size w w' := by
 have hs : 0 < s.size := bAt_in (by omega);refine zo Tryz.func212 rfl Tryz.ntmps212 rfl ?_;have LW := erx (No) w;have XLW := grx (No) w;have E := erx (No) w
 refine srx (anx rfl (srx (mvx rfl (za rfl (qr Tryz.underlying9 rfl (mvx rfl (za rfl (qr Tryz.underlying9 rfl (za rfl (ow_min rfl rfl (anx rfl (zb (srx (anx rfl (zw (kf (zb (srx (mvx rfl (mvx rfl (za rfl (yp rfl rfl (rnx (yc 15 (.bool true) rfl ((by rw [decide_eq_true (by split <;> omega)] : (.bool (decide (0 < (if ((s.size : Nat) : Int) < 8 then ((s.size : Nat) : Int) else 8))) : Value) = _)) (zz rfl (zf (zc (zb (zw (srx (mvx rfl ?_)))))))))))))))))))))))))))))))
 refine mvx rfl (za rfl (yj (j := 0) (b := bAt s 0) Tryz.underlying9 rfl rfl rfl (qc hs) (anx rfl (zb (srx (mvx rfl (za rfl (kw rfl rfl (mvx rfl (zv 23 (.bool false) rfl ((by rw [decide_eq_false (by omega)] : (.bool (decide (65 ≤ ((bAt s 0 : Nat) : Int))) : Value) = _)) (za rfl (zu rfl (za rfl (zu rfl (za rfl (yi rfl rfl (rnx (zj rfl (zf (zc (srx (mvx rfl (mvx rfl (mvx rfl (za rfl (yj (j := 0) (b := 105) Tryz.underlying9 rfl rfl rfl (by kernel_rfl) (za rfl (vw rfl rfl (rnx (yc 33 (.bool true) rfl ((by rw [bne_iff_ne.2 (by omega)] : (.bool (((bAt s 0 : Nat) : Int) != 105) : Value) = _)) (zz rfl (srx (mvx rfl (anx rfl (zt (yo (zq ?_)))))))))))))))))))))))))))))))))))))
 refine zq (yo (zq (zr (rs := [.tmp 4]) (vs := [_]) rfl ⟨rfl, trivial⟩ ?_)));exact ⟨rfl, (LW.step E XLW).toBelow⟩
theorem special_neg (s : ByteArray) (h45 : bAt s 0 = 45) (h : 48 ≤ bAt s 1 ∧ bAt s 1 ≤ 57) : Calls Tryz.prog 172 #[.string s] w fun e w' => e = .returned (.tuple #[.float .f64 0, .int .i64 0, .bool false]) ∧ Below w.heap.size w w' := by
 have hs : 1 < s.size := bAt_in (by omega);refine zo Tryz.func172 rfl Tryz.ntmps172 rfl ?_;have LW := erx (No) w;have XLW := grx (No) w;have E := erx (No) w
 refine srx (avx rfl (avx rfl (anx rfl (zb (srx (mvx rfl (za rfl (qr Tryz.underlying9 rfl (za rfl (zx rfl rfl (rnx (yc 10 (.bool false) rfl ((by rw [jq (by omega)] : (.bool (((s.size : Nat) : Int) == 0) : Value) = _)) (zj rfl (zf (zc (srx (anx rfl (srx (anx rfl (zb (srx (mvx rfl (za rfl (yj (j := 0) (b := bAt s 0) Tryz.underlying9 rfl rfl rfl (qc (by omega)) (zv 12 (.int .u8 45) rfl ((by rw [h45]; rfl : (.int .u8 ((bAt s 0 : Nat) : Int) : Value) = _)) (rnx (zw (zb (zw ?_)))))))))))))))))))))))))))))
 refine zb (zw (zb (zw (zb (zb (zb (srx (za rfl (zx rfl rfl (anx rfl (zj rfl (zh (za rfl (zx rfl rfl (anx rfl (zz rfl (yr (zn (zn (ya (zc (zb (srx (mvx rfl (za rfl (yj (j := 0) (b := bAt s 0) Tryz.underlying9 rfl rfl rfl (qc (by omega)) (zv 23 (.int .u8 45) rfl ((by rw [h45]; rfl : (.int .u8 ((bAt s 0 : Nat) : Int) : Value) = _)) (za rfl (zx rfl rfl (rnx (zz rfl (zh (anx rfl (zb ?_))))))))))))))))))))))))))))))))))
 refine zh (anx rfl (zh (mvx rfl (za rfl (kn (l := 1) (h := s.size) Tryz.underlying9 rfl ⟨_, rfl⟩ rfl (by omega) (by omega) (avx rfl (yg (zl (zc (zb (srx (mvx rfl (za rfl (zg en212 rfl ((common_digit _ (s.extract 1 s.size) (by rw [bAt_extract]; exact h)).mono ?_)))))))))))))));rintro e w1 ⟨rfl, hb⟩;refine ⟨_, rfl, ?_⟩
 replace E := blx E hb
 refine anx rfl (zb (srx (mvx rfl (za rfl (yp rfl rfl (mvx rfl (za rfl (zu rfl (za rfl (zu rfl (za rfl (yi rfl rfl (rnx (zj rfl (zf (zc (srx (mvx rfl (za rfl (zx rfl rfl (mvx rfl (onx rfl (zi rfl (onx rfl (zx rfl rfl (za rfl (yi rfl rfl (rnx (zj rfl (zf (zc (yr (yu rfl (zn (ya (zc (srx (avx rfl (avx rfl (avx rfl ?_))))))))))))))))))))))))))))))))))))))))
 refine rnx (zt (zr (rs := [.tmp 2, .tmp 3, .tmp 4]) (vs := [_, _, _]) rfl ⟨rfl, rfl, rfl, trivial⟩ ?_));exact ⟨rfl, (LW.step E XLW).toBelow⟩
theorem special_any (s : ByteArray) (f : Nat) (neg : Bool) (hsg : SgnAt s f neg) (h : 48 ≤ bAt s f ∧ bAt s f ≤ 57) : Calls Tryz.prog 172 #[.string s] w fun e w' => e = .returned (.tuple #[.float .f64 0, .int .i64 0, .bool false]) ∧ Below w.heap.size w w' := by
 rcases hsg with ⟨_, rfl⟩ | ⟨_, rfl, h45⟩
 · exact special_digit w s (bAt s 0) (qc (bAt_in (by omega))) h
 · exact special_neg w s h45 h
theorem atof_any (s : ByteArray) (f : Nat) (neg : Bool) {p Z q : Nat} (hsg : SgnAt s f neg) (hs : Nm s f p Z q) (hl : s.size < 100000) (hT : Tabs bp op cp bf of cf bl ol cl w) : Calls Tryz.prog 142 #[.string s] w fun e w' => e = .returned (.tuple #[.float .f64 (atV s f neg), .int .i64 ((s.size : Nat) : Int), atE s f neg]) ∧ Below w.heap.size w w' := by
 have hfd := hs.first;have hmm := rdM_lt hs;refine zo Tryz.func142 rfl Tryz.ntmps142 rfl ?_;have HF : Per (No) w (fun _ => True) := Per.true_;have LW := erx (No) w;have XLW := grx (No) w;have E := erx (No) w;replace HF := HF.on E;replace LW := LW.step E XLW;replace E := erx (No) w;replace HF := HF.and (Per.tabs hT (fun _ h => h.elim))
 refine srx (avx rfl (avx rfl (anx rfl (zb (srx (mvx rfl (za rfl (zg en172 rfl ((special_any _ s f neg hsg hfd).mono ?_)))))))));rintro e w1 ⟨rfl, hb⟩;refine ⟨_, rfl, ?_⟩;replace E := blx E hb
 refine mvx rfl (za rfl (zm rfl rfl (za rfl (zm rfl rfl (za rfl (zm rfl rfl (avx rfl (avx rfl (anx rfl (srx (mvx rfl (rnx (zj rfl (zf (zc (srx (mvx rfl (za rfl (zg en173 rfl ((readf_any _ s f neg hsg hs hl).mono ?_))))))))))))))))))));rintro e w2 ⟨rfl, hb⟩;refine ⟨_, rfl, ?_⟩;replace E := blx E hb
 refine mvx rfl (za rfl (zm rfl rfl (za rfl (zm rfl rfl (za rfl (zm rfl rfl (za rfl (zm rfl rfl (za rfl (zm rfl rfl (za rfl (zm rfl rfl (za rfl (zm rfl rfl (avx rfl (avx rfl (avx rfl (avx rfl (avx rfl (avx rfl (anx rfl (zb (srx (mvx rfl (za rfl (jj rfl (rnx (zj rfl (zf (zc (zb (srx (mvx rfl (rnx (zj rfl (zf (zc (zb (srx (za rfl (yl Tryz.underlying4 rfl rfl (HF.on E).here.2.opt ?_)))))))))))))))))))))))))))))))))))))))))
 refine rnx (zz rfl (srx (mvx rfl (za rfl (zg en181 rfl ((bool2u _ neg).mono ?_))))));rintro e w3 ⟨rfl, hb⟩;refine ⟨_, rfl, ?_⟩;replace E := blx E hb
 refine za rfl (qm rfl rfl (by decide) (shl63 neg) (anx rfl (zb (srx (mvx rfl (za rfl (zx rfl rfl (rnx (yc 69 (.bool (decide (rdM s f = 0))) rfl ((by rw [zero_b] : (.bool (((rdM s f : Nat) : Int) == 0) : Value) = _)) (yh rfl (fun h1 => ?_) (fun h1 => ?_)))))))))))
 ·
  have h1 := of_decide_eq_true h1;refine srx (mvx rfl (za rfl (kh rfl rfl (gn (n := 0) (sgB_lt neg) (by decide)) (za rfl (ym (b := sgB neg ||| 0) yvq rfl (mvx rfl (avx rfl (avx rfl (anx rfl (zt (zq (zq (zr (rs := [.tmp 2, .tmp 3, .tmp 4]) (vs := [_, _, _]) rfl ⟨rfl, rfl, rfl, trivial⟩ ?_)))))))))))))
  exact ⟨by rw [show atV s f neg = sgB neg ||| 0 by unfold atV; rw [if_pos h1], show atE s f neg = .nilIface by unfold atE; rw [if_pos h1]]; rfl, (LW.step E XLW).toBelow⟩
 ·
  have h1 := of_decide_eq_false h1;refine zf (zc (zb (srx (mvx rfl (za rfl (qh rfl rfl (rnx (yh rfl (fun h2 => ?_) (fun h2 => ?_)))))))))
  ·
   have h2 := of_decide_eq_true h2
   refine srx (mvx rfl (za rfl (kh rfl rfl (gn (n := 9218868437227405312) (sgB_lt neg) (by decide)) (za rfl (ym (b := sgB neg ||| 9218868437227405312) yvq rfl (mvx rfl (za rfl (ow_mkI (by kernel_rfl) rfl (avx rfl (avx rfl (anx rfl (zt (zq (zq (zr (rs := [.tmp 2, .tmp 3, .tmp 4]) (vs := [_, _, _]) rfl ⟨rfl, rfl, rfl, trivial⟩ ?_)))))))))))))))
   exact ⟨by rw [show atV s f neg = sgB neg ||| 9218868437227405312 by unfold atV; rw [if_neg h1, if_pos h2], show atE s f neg = rangeE by unfold atE; rw [if_neg h1, if_pos h2]]; rfl, (LW.step E XLW).toBelow⟩
  ·
   have h2 := of_decide_eq_false h2;refine zf (zc (zb (srx (mvx rfl (za rfl (yp rfl rfl (rnx (yh rfl (fun h3 => ?_) (fun h3 => ?_)))))))))
   ·
    have h3 := of_decide_eq_true h3;refine srx (mvx rfl (za rfl (kh rfl rfl (gn (n := 0) (sgB_lt neg) (by decide)) (za rfl (ym (b := sgB neg ||| 0) yvq rfl (mvx rfl (avx rfl (avx rfl (anx rfl (zt (zq (zq (zr (rs := [.tmp 2, .tmp 3, .tmp 4]) (vs := [_, _, _]) rfl ⟨rfl, rfl, rfl, trivial⟩ ?_)))))))))))))
    exact ⟨by rw [show atV s f neg = sgB neg ||| 0 by unfold atV; rw [if_neg h1, if_neg h2, if_pos h3], show atE s f neg = .nilIface by unfold atE; rw [if_neg h1, if_neg h2, if_pos h3]]; rfl, (LW.step E XLW).toBelow⟩
   ·
    have h3 := of_decide_eq_false h3;refine zf (zc (zb (srx (mvx rfl (za rfl (jj rfl (rnx ?_)))))));replace HF := HF.on E;replace LW := LW.step E XLW;replace E := erx (No) w3
    refine qk (ι := Unit) (fun _ => [(0, .string s), (3, .int .i64 ((s.size : Nat) : Int)), (4, .nilIface), (8, .int .u64 ((rdM s f : Nat) : Int)), (9, .int .i64 (rdX s f)), (11, .bool (rdT s f)), (16, .int .u64 ((sgB neg : Nat) : Int))]) (fun _ w' => Ext (No) w3 w' ∧ (¬ (rdT s f = false ∧ (exF (rdM s f) (rdX s f) neg).2 = true))) ?_ ?_
    ·
     have M4 := erx (No) w3;have XM4 := grx (No) w3;refine yh rfl (fun h5 => ?_) (fun h5 => ?_)
     ·
      have h5 : rdT s f = false := by simpa using h5
      refine srx (mvx rfl (mvx rfl (mvx rfl (za rfl (zg en183 rfl ((exact_any _ (rdM s f) (rdX s f) neg (by omega) (HF.on E).here.2).mono ?_))))));rintro e w6 ⟨rfl, hb⟩;refine ⟨_, rfl, ?_⟩;replace E := blx E hb;refine mvx rfl (za rfl (zm rfl rfl (za rfl (zm rfl rfl (avx rfl (anx rfl (srx (mvx rfl (rnx (yh rfl (fun h6 => ?_) (fun h6 => ?_)))))))))))
      ·
       refine srx (mvx rfl (mvx rfl (avx rfl (avx rfl (anx rfl (zt (zq (zq (zr (rs := [.tmp 2, .tmp 3, .tmp 4]) (vs := [_, _, _]) rfl ⟨rfl, rfl, rfl, trivial⟩ ?_)))))))))
       exact ⟨by rw [show atV s f neg = (exF (rdM s f) (rdX s f) neg).1 by unfold atV; rw [if_neg h1, if_neg h2, if_neg h3, if_pos ⟨h5, h6⟩], show atE s f neg = .nilIface by unfold atE; rw [if_neg h1, if_neg h2, if_neg h3, if_pos ⟨h5, h6⟩]]; rfl, (LW.step E XLW).toBelow⟩
      ·
       refine zf ?_;exact yq () ⟨rfl, rfl, rfl, rfl, rfl, rfl, rfl, trivial⟩ ⟨M4.step E XM4, fun h => absurd h.2 (by rw [h6]; decide)⟩
     ·
      refine zf ?_;exact yq () ⟨rfl, rfl, rfl, rfl, rfl, rfl, rfl, trivial⟩ ⟨M4.step E XM4, fun h => absurd h5 (by rw [h.1]; decide)⟩
    ·
     rintro _ w5 ⟨M4, h4⟩;replace E := E.trans M4;replace HF := HF.on E;replace LW := LW.step E XLW;replace E := erx (No) w5;have hj : 3 ≤ atJ s f ∧ atJ s f ≤ 658 := by unfold atJ; omega
     refine srx (mvx rfl (mvx rfl (mvx rfl (zv 101 (.int .i64 (((atJ s f : Nat) : Int) - 348)) rfl ((by congr 1; unfold atJ; omega : (.int .i64 (rdX s f) : Value) = _)) (za rfl (zg en184 rfl ((fast_any _ (rdM s f) (atJ s f) (sgB neg) (by omega) hj (sgB_lt neg) (HF.on E).here.2.pow).mono ?_)))))));rintro e w7 ⟨rfl, hb⟩;refine ⟨_, rfl, ?_⟩;replace E := blx E hb
     refine mvx rfl (za rfl (zm rfl rfl (za rfl (zm rfl rfl (avx rfl (anx rfl (zb (srx (mvx rfl (za rfl (jj rfl (rnx (yh rfl (fun h5 => ?_) (fun h5 => ?_))))))))))))))
     ·
      have h5 : rdT s f = false := by simpa using h5
      refine srx (mvx rfl (mvx rfl (mvx rfl (avx rfl (avx rfl (anx rfl (zt (zq (zq (zr (rs := [.tmp 2, .tmp 3, .tmp 4]) (vs := [_, _, _]) rfl ⟨rfl, rfl, rfl, trivial⟩ ?_))))))))))
      exact ⟨by rw [show atV s f neg = yjx (rdM s f) (atJ s f) (sgB neg) by unfold atV; rw [if_neg h1, if_neg h2, if_neg h3, if_neg h4, if_pos (.inl h5)]; try rfl, show atE s f neg = yjz (rdM s f) (atJ s f) (sgB neg) by unfold atE; rw [if_neg h1, if_neg h2, if_neg h3, if_neg h4, if_pos (.inl h5)]; try rfl]; rfl, (LW.step E XLW).toBelow⟩
     ·
      have h5 : ¬ rdT s f = false := fun e => absurd h5 (by rw [e]; decide)
      refine zf (zc (srx (mvx rfl (za rfl (yb rfl rfl (wrap_u64 (by omega)) (mvx rfl (mvx rfl (zv 113 (.int .u64 ((rdM s f + 1 : Nat) : Int)) rfl (rfl) (zv 114 (.int .i64 (((atJ s f : Nat) : Int) - 348)) rfl ((by congr 1; unfold atJ; omega : (.int .i64 (rdX s f) : Value) = _)) (za rfl (zg en184 rfl ((fast_any _ (rdM s f + 1) (atJ s f) (sgB neg) (by omega) hj (sgB_lt neg) (HF.on E).here.2.pow).mono ?_))))))))))))
      rintro e w8 ⟨rfl, hb⟩;refine ⟨_, rfl, ?_⟩;have Ec := Ext.of_below hb No;replace E := E.trans Ec.no;refine mvx rfl (za rfl (zm rfl rfl (za rfl (zm rfl rfl (avx rfl (anx rfl (srx (mvx rfl (mvx rfl (za rfl (xy rfl rfl (rnx (yh rfl (fun h6 => ?_) (fun h6 => ?_))))))))))))))
      ·
       have h6 : atL s f neg = true := h6;refine srx (mvx rfl (mvx rfl (mvx rfl (avx rfl (avx rfl (anx rfl (zt (zq (zr (rs := [.tmp 2, .tmp 3, .tmp 4]) (vs := [_, _, _]) rfl ⟨rfl, rfl, rfl, trivial⟩ ?_)))))))))
       exact ⟨by rw [show atV s f neg = yjx (rdM s f) (atJ s f) (sgB neg) by unfold atV; rw [if_neg h1, if_neg h2, if_neg h3, if_neg h4, if_pos (.inr h6)]; try rfl, show atE s f neg = yjz (rdM s f) (atJ s f) (sgB neg) by unfold atE; rw [if_neg h1, if_neg h2, if_neg h3, if_neg h4, if_pos (.inr h6)]; try rfl]; rfl, (LW.step E XLW).toBelow⟩
      ·
       have h6 : ¬ (rdT s f = false ∨ atL s f neg = true) := fun h => h.elim h5 (fun h => by rw [show atL s f neg = false from h6] at h; cases h);have hdec := setD_ok neg hs;have hddp := setD_dp neg hs hl;refine zf (zc (srx (za rfl (qu zrDec ?_))));intro gc w9 Bc Ec Gc;replace Bc : Blk w9 gc 193 (yy (zpk false)) := Bc;have Gc : _ ≤ gc := Nat.le_trans E.size Gc
       have GLc := Nat.le_trans LW.size Gc;replace E := E.trans Ec.no;replace HF := HF.cons (ye Gc);replace E := E.cons (some gc);replace XLW := Mut.grow XLW (fun k e => Or.inr (Nat.le_trans LW.size ((ye Gc) k e)));have hg := hT.below.le GLc
       refine rnx (zb (srx (mvx rfl (mvx rfl (za rfl (kn (l := 0) (h := s.size) Tryz.underlying9 rfl rfl ⟨_, rfl⟩ (Nat.zero_le _) (Nat.le_refl _) (zv 127 (.string s) rfl ((by rw [extract_all] : (.string (s.extract 0 s.size) : Value) = _)) (za rfl (zg en179 rfl ((set_any _ gc s f neg hsg hs hl Bc).mono ?_))))))))));rintro e w10 ⟨rfl, hB, hE⟩;refine ⟨_, rfl, ?_⟩
       replace Bc := hB;clear hB;replace E := E.step1 hE Mut.head;clear hE;refine za rfl (jj rfl (rnx (zj rfl (zf (zc (srx (za rfl (zg en180 rfl ((bits_any _ gc (setD s f neg) hdec hddp Bc (HF.on E).here.2 hg).mono ?_)))))))));rintro e w11 ⟨rfl, ⟨t9, hB⟩, hE⟩;refine ⟨_, rfl, ?_⟩;replace Bc := hB;clear hB;replace E := E.step1 hE Mut.head;clear hE
       refine mvx rfl (za rfl (zm rfl rfl (za rfl (zm rfl rfl (avx rfl (anx rfl (srx (mvx rfl (za rfl (ym (b := zgz (setD s f neg)) yvq rfl (anx rfl (zb (srx (mvx rfl (rnx (yh rfl (fun h7 => ?_) (fun h7 => ?_)))))))))))))))))
       ·
        refine zh (za rfl (ow_mkI (by kernel_rfl) rfl (anx rfl (srx (mvx rfl (mvx rfl (mvx rfl (avx rfl (avx rfl (anx rfl (zt (zr (rs := [.tmp 2, .tmp 3, .tmp 4]) (vs := [_, _, _]) rfl ⟨rfl, rfl, rfl, trivial⟩ ?_))))))))))))
        exact ⟨by rw [show atV s f neg = zgz (setD s f neg) by unfold atV; rw [if_neg h1, if_neg h2, if_neg h3, if_neg h4, if_neg h6], show atE s f neg = rangeE by unfold atE; rw [if_neg h1, if_neg h2, if_neg h3, if_neg h4, if_neg h6, if_pos h7]]; rfl, (LW.step E XLW).toBelow⟩
       ·
        refine zf (zc (srx (mvx rfl (mvx rfl (mvx rfl (avx rfl (avx rfl (anx rfl (zt (zr (rs := [.tmp 2, .tmp 3, .tmp 4]) (vs := [_, _, _]) rfl ⟨rfl, rfl, rfl, trivial⟩ ?_))))))))))
        exact ⟨by rw [show atV s f neg = zgz (setD s f neg) by unfold atV; rw [if_neg h1, if_neg h2, if_neg h3, if_neg h4, if_neg h6], show atE s f neg = .nilIface by unfold atE; rw [if_neg h1, if_neg h2, if_neg h3, if_neg h4, if_neg h6, if_neg (by rw [h7]; decide)]]; rfl, (LW.step E XLW).toBelow⟩
theorem prefix_any64 (s : ByteArray) (f : Nat) (neg : Bool) {p Z q : Nat} (hsg : SgnAt s f neg) (hs : Nm s f p Z q) (hl : s.size < 100000) (hT : Tabs bp op cp bf of cf bl ol cl w) : Calls Tryz.prog 116 #[.string s, .int .i64 64] w fun e w' => e = .returned (.tuple #[.float .f64 (atV s f neg), .int .i64 ((s.size : Nat) : Int), atE s f neg]) ∧ Below w.heap.size w w' := by
 refine zo Tryz.func116 rfl Tryz.ntmps116 rfl ?_;have LW := erx (No) w;have XLW := grx (No) w;have E := erx (No) w;refine srx (avx rfl (avx rfl (anx rfl (zb (srx (mvx rfl (za rfl (zx rfl rfl (rnx (zj rfl (zf (zc (srx (mvx rfl (za rfl (zg en142 rfl ((atof_any _ s f neg hsg hs hl hT).mono ?_)))))))))))))))));rintro e w1 ⟨rfl, hb⟩;refine ⟨_, rfl, ?_⟩
 replace E := blx E hb;refine za rfl (zm rfl rfl (za rfl (zm rfl rfl (za rfl (zm rfl rfl (avx rfl (avx rfl (anx rfl (zt (zr (rs := [.tmp 4, .tmp 5, .tmp 6]) (vs := [_, _, _]) rfl ⟨rfl, rfl, rfl, trivial⟩ ?_))))))))));exact ⟨rfl, (LW.step E XLW).toBelow⟩
theorem inner_any (s : ByteArray) (f : Nat) (neg : Bool) {p Z q : Nat} (hsg : SgnAt s f neg) (hs : Nm s f p Z q) (hl : s.size < 100000) (hT : Tabs bp op cp bf of cf bl ol cl w) : Calls Tryz.prog 85 #[.string s, .int .i64 64] w fun e w' => e = .returned (.tuple #[.float .f64 (atV s f neg), atE s f neg]) ∧ Below w.heap.size w w' := by
 refine zo Tryz.func85 rfl Tryz.ntmps85 rfl ?_;have LW := erx (No) w;have XLW := grx (No) w;have E := erx (No) w;refine srx (avx rfl (anx rfl (srx (mvx rfl (mvx rfl (za rfl (zg en116 rfl ((prefix_any64 _ s f neg hsg hs hl hT).mono ?_))))))));rintro e w1 ⟨rfl, hb⟩;refine ⟨_, rfl, ?_⟩;replace E := blx E hb
 refine mvx rfl (za rfl (zm rfl rfl (za rfl (zm rfl rfl (za rfl (zm rfl rfl (avx rfl (avx rfl (anx rfl (zb (srx (mvx rfl (mvx rfl (za rfl (qr Tryz.underlying9 rfl (za rfl (vw rfl rfl (rnx (yc 19 (.bool false) rfl ((by simp : (.bool (((s.size : Nat) : Int) != ((s.size : Nat) : Int)) : Value) = _)) (zj rfl (zf (zc (srx (mvx rfl (mvx rfl (avx rfl (anx rfl (zt (zr (rs := [.tmp 4, .tmp 5]) (vs := [_, _]) rfl ⟨rfl, rfl, trivial⟩ ?_)))))))))))))))))))))))))))))
 exact ⟨rfl, (LW.step E XLW).toBelow⟩
theorem parsef_any (s : ByteArray) (f : Nat) (neg : Bool) {p Z q : Nat} (hsg : SgnAt s f neg) (hs : Nm s f p Z q) (hl : s.size < 100000) (hT : Tabs bp op cp bf of cf bl ol cl w) (hE : ∃ te pe, w.cell? ⟨4, 0, none⟩ = some (.iface te pe)) : Calls Tryz.prog 42 #[.string s, .int .i64 64] w fun e w' => (∃ er, e = .returned (.tuple #[.float .f64 (atV s f neg), er])) ∧ Below w.heap.size w w' := by
 obtain ⟨te, pe, hE⟩ := hE;have hor := atE_or s f neg;obtain ⟨er, her⟩ : ∃ er, er = atE s f neg := ⟨_, rfl⟩;rw [← her] at hor;refine zo Tryz.func42 rfl Tryz.ntmps42 rfl ?_;have HF : Per (No) w (fun _ => True) := Per.true_;have LW := erx (No) w;have XLW := grx (No) w;have E := erx (No) w;replace HF := HF.on E;replace LW := LW.step E XLW;replace E := erx (No) w
 replace HF := HF.and (Per.cellA hE (fun _ h => h.elim));refine srx (avx rfl (anx rfl (srx (mvx rfl (mvx rfl (za rfl (zg en85 rfl ((inner_any _ s f neg hsg hs hl hT).mono ?_))))))));rintro e w1 ⟨rfl, hb⟩;refine ⟨_, rfl, ?_⟩;replace E := blx E hb;rw [← her];by_cases hn : er = .nilIface
 ·
  subst hn;refine mvx rfl (za rfl (zm rfl rfl (za rfl (zm rfl rfl (avx rfl (anx rfl (zb (srx (mvx rfl (za rfl (ow_neqN Tryz.underlying81 rfl (rnx (zj rfl (zf (zc (srx (mvx rfl (avx rfl (anx rfl (zt (zr (rs := [.tmp 4, .tmp 5]) (vs := [_, _]) rfl ⟨rfl, rfl, trivial⟩ ?_)))))))))))))))))))));exact ⟨⟨_, rfl⟩, (LW.step E XLW).toBelow⟩
 ·
  obtain rfl : er = rangeE := hor.resolve_left hn;refine mvx rfl (za rfl (zm rfl rfl (za rfl (zm rfl rfl (avx rfl (anx rfl (zb (srx (mvx rfl (za rfl (ow_neqI Tryz.underlying81 rfl (rnx (zz rfl (srx (mvx rfl (mvx rfl (mvx rfl (mvx rfl (za rfl (zg en86 rfl ((range_err _ s 0 64 _ hl ⟨te, pe, (HF.on E).here.2⟩).mono ?_)))))))))))))))))))))
  rintro e w2 ⟨⟨er2, rfl⟩, hb⟩;refine ⟨_, rfl, ?_⟩;replace E := blx E hb;refine avx rfl (anx rfl (zt (zq (zr (rs := [.tmp 4, .tmp 5]) (vs := [_, _]) rfl ⟨rfl, rfl, trivial⟩ ?_))));exact ⟨⟨_, rfl⟩, (LW.step E XLW).toBelow⟩
end
end Go.Proofs.YtjdcjdohghkcgaaGreatDoor

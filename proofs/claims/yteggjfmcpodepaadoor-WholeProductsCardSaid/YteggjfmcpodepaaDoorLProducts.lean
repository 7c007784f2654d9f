/- The walk of the law WholeProducts. -/
import Derived.Test.YteggjfmcpodepaaDoorPers
import Derived.Test.YteggjfmcpodepaaDoorRTimes
import Derived.Test.YteggjfmcpodepaaDoorWMul
namespace Go.Proofs.YteggjfmcpodepaaDoor
open Go.RowKit
theorem tens_prod {i j : Int} (hi : i.natAbs < B18 ^ 30) (hj : j.natAbs < B18 ^ 30) : (tens (i * j)).length ≤ 1080 := by
  have h1 : (i * j).natAbs < B18 ^ 60 := by
    rw [Int.natAbs_mul, show (60 : Nat) = 30 + 30 from rfl, Nat.pow_add]
    exact Nat.mul_lt_mul'' hi hj
  have := tens_len_of h1
  omega
section
variable (n1 n2 : Bool) (A B : Option Addr) (c d : Nat) (xs ys : List Nat) (w : World)
set_option maxRecDepth 100000
set_option maxHeartbeats 4000000 in
theorem products_bad (hx : Nums w A xs) (hy : Nums w B ys) (hl : xs.length ≤ 9223372036854775807) (hl' : ys.length ≤ 9223372036854775807) (hok : (goodB n1 xs && goodB n2 ys) = false) :
    Calls Tryd.prog 6 #[.agg #[.bool n1, .slice A xs.length c], .agg #[.bool n2, .slice B ys.length d]] w (LawTrue w) := by
  obtain ⟨W0, hW0⟩ : ∃ W0, W0 = two w n1 n2 A B c d xs ys := ⟨_, rfl⟩
  have LW : Below w.heap.size w W0 := by rw [hW0]; exact two_below ..
  have HF0 : Hid (Pers W0 (Two w n1 n2 A B c d xs ys)) := fun b1 hb => by rw [hW0] at hb; exact two_since hx hy hb
  have hform := fun w hx hy => lform_any n1 n2 A B c d xs ys w hx hy hl hl'
  have hmul := fun w hx hy => mul_any n1 n2 A B c d xs ys w hx hy hl hl'
  have hfo : formE (goodB n1 xs) (goodB n2 ys) = 3 := by unfold formE; rw [hok]; rfl
  rw [hfo] at hform
  have hmul := fun w hx hy => (hmul w hx hy).mono fun e w' h => retBigErr_nought (by rw [hok, outV_bad, outE_bad] at h; exact h)
  clear hfo hok hl hl'
  clear hx hy
  unfold two at hW0
  go_enter Tryd.func6, Tryd.ntmps6
  go_upto_region 1 with fail
  rw [← hW0]
  clear hW0
  have L : Below W0.heap.size W0 W0 := Below.refl _ _
  go_wp2_with (go_at_call 13; refine (known_any _).mono ?_; rintro e w1 ⟨rfl, hb⟩; have L := below_on L hb; clear hb; refine Hid.out ?_)
  refine Lib.hid ?_
  obtain ⟨⟨x0, x1, y0, y1⟩, hx, hy⟩ := HF0.out _ L
  go_wp2_with (go_at_call 36; refine (hmul _ hx hy).mono ?_; rintro e w1 ⟨As, cs, rfl, ns, hb⟩; have L := below_on L hb; clear x0 x1 y0 y1 hx hy hb; refine Hid.out ?_)
  refine Lib.hid ?_
  go_upto_region 4 with fail
  obtain ⟨W1, hW1⟩ : ∃ W1, W1 = w1.alloc (.cells #[.bool false, .slice As 0 cs] 24) := ⟨_, rfl⟩
  obtain ⟨gs, hgs⟩ : ∃ gs, gs = w1.heap.size := ⟨_, rfl⟩
  have HF1 : Hid (Pers W1 (fun b => Two w n1 n2 A B c d xs ys b ∧ Box gs 24 (.bool false) (.slice As 0 cs) b ∧ Nums b As [])) := by
    have k1 : Below w1.heap.size w1 W1 := by rw [hW1]; exact (Below.refl _ _).alloc (Nat.le_refl _) _
    have k2 : Blk W1 gs 24 #[.bool false, .slice As 0 cs] := by rw [hW1, hgs]; exact Blk.new _ _ _
    exact (HF0.out.on (below_on L k1)).and ((Pers.box k2).and (Pers.nums (ns.since k1)))
  have LW1 : Below w.heap.size w W1 := by rw [hW1]; exact (LW.trans (L.mono LW.size)).alloc (Nat.le_trans LW.size L.size) _
  rw [← hW1, ← hgs]
  clear hW1 hgs HF0 L LW ns hmul
  have L : Below W1.heap.size W1 W1 := Below.refl _ _
  obtain ⟨⟨⟨x0, x1, y0, y1⟩, hx, hy⟩, ⟨s0, s1⟩, ns⟩ := HF1.out _ L
  go_wp2_with (go_at_call 15; refine (hform _ hx hy).mono ?_; rintro e w1 ⟨rfl, hb⟩; have L := below_on L hb; clear x0 x1 y0 y1 hx hy s0 s1 ns hb; refine Hid.out ?_)
  refine Lib.hid ?_
  clear hform
  obtain ⟨⟨⟨x0, x1, y0, y1⟩, hx, hy⟩, ⟨s0, s1⟩, ns⟩ := HF1.out _ L
  go_wp2_with (go_at_call 16; refine (is_err As none cs 0 false 0 3 _ (by simp)).mono ?_; rintro e w1 ⟨rfl, hb⟩; have L := below_on L hb; clear hb)
  go_ret
  exact ⟨rfl, LW1.trans (L.mono LW1.size)⟩
set_option maxHeartbeats 4000000 in
theorem products_good (hx : Nums w A xs) (hy : Nums w B ys) (hl : xs.length ≤ 9223372036854775807) (hl' : ys.length ≤ 9223372036854775807) (hg : goodB n1 xs = true) (hk : goodB n2 ys = true) :
    Calls Tryd.prog 6 #[.agg #[.bool n1, .slice A xs.length c], .agg #[.bool n2, .slice B ys.length d]] w (LawTrue w) := by
  obtain ⟨W0, hW0⟩ : ∃ W0, W0 = two w n1 n2 A B c d xs ys := ⟨_, rfl⟩
  have LW : Below w.heap.size w W0 := by rw [hW0]; exact two_below ..
  have HF0 : Hid (Pers W0 (Two w n1 n2 A B c d xs ys)) := fun b1 hb => by rw [hW0] at hb; exact two_since hx hy hb
  have hform := fun w hx hy => lform_any n1 n2 A B c d xs ys w hx hy hl hl'
  have hmul := fun w hx hy => mul_any n1 n2 A B c d xs ys w hx hy hl hl'
  rw [hg, hk] at hform hmul
  have hfo : formE true true = 0 := rfl
  rw [hfo] at hform
  simp only [Bool.and_self] at hmul
  have hofx := fun w hx => rof_any n1 A c xs w hx hg
  have hofy := fun w hy => rof_any n2 B d ys w hy hk
  have hni := num_lt hg
  have hnj := num_lt hk
  have HTI := Lib.hid (tens_length hni)
  have HTJ := Lib.hid (tens_length hnj)
  have HTQ := Lib.hid (tens_prod hni hnj)
  obtain ⟨i, hi⟩ : ∃ i, i = num n1 xs := ⟨_, rfl⟩
  obtain ⟨j, hj⟩ : ∃ j, j = num n2 ys := ⟨_, rfl⟩
  rw [← hi, ← hj] at hmul HTQ
  rw [← hi] at hofx HTI
  rw [← hj] at hofy HTJ
  obtain ⟨q, hq⟩ : ∃ q, q = i * j := ⟨_, rfl⟩
  rw [← hq] at hmul HTQ
  have HQe := Lib.hid hq
  clear hq hi hj hfo hni hnj hg hk hl hl'
  clear hx hy
  unfold two at hW0
  go_enter Tryd.func6, Tryd.ntmps6
  go_upto_region 1 with fail
  rw [← hW0]
  clear hW0
  have L : Below W0.heap.size W0 W0 := Below.refl _ _
  go_wp2_with (go_at_call 13; refine (known_any _).mono ?_; rintro e w1 ⟨rfl, hb⟩; have L := below_on L hb; clear hb; refine Hid.out ?_)
  refine Lib.hid ?_
  obtain ⟨⟨x0, x1, y0, y1⟩, hx, hy⟩ := HF0.out _ L
  go_wp2_with (go_at_call 36; refine (hmul _ hx hy).mono ?_; rintro e w1 ⟨As, cs, rfl, hos, hb⟩; have L := below_on L hb; clear x0 x1 y0 y1 hx hy hb; refine Hid.out ?_)
  refine Lib.hid ?_
  go_upto_region 4 with fail
  obtain ⟨W1, hW1⟩ : ∃ W1, W1 = w1.alloc (.cells #[.bool (decide (outV true q < 0)), .slice As (limbs (outV true q)).length cs] 24) := ⟨_, rfl⟩
  obtain ⟨gs, hgs⟩ : ∃ gs, gs = w1.heap.size := ⟨_, rfl⟩
  have HF1 : Hid (Pers W1 (fun b => Two w n1 n2 A B c d xs ys b ∧ Box gs 24 (.bool (decide (outV true q < 0))) (.slice As (limbs (outV true q)).length cs) b ∧ Nums b As (limbs (outV true q)))) := by
    have k1 : Below w1.heap.size w1 W1 := by rw [hW1]; exact (Below.refl _ _).alloc (Nat.le_refl _) _
    have k2 : Blk W1 gs 24 #[.bool (decide (outV true q < 0)), .slice As (limbs (outV true q)).length cs] := by rw [hW1, hgs]; exact Blk.new _ _ _
    exact (HF0.out.on (below_on L k1)).and ((Pers.box k2).and (Pers.nums (hos.nums.since k1)))
  have LW1 : Below w.heap.size w W1 := by rw [hW1]; exact (LW.trans (L.mono LW.size)).alloc (Nat.le_trans LW.size L.size) _
  rw [← hW1, ← hgs]
  clear hW1 hgs HF0 L LW hos hmul
  have L : Below W1.heap.size W1 W1 := Below.refl _ _
  obtain ⟨⟨⟨x0, x1, y0, y1⟩, hx, hy⟩, ⟨s0, s1⟩, ns⟩ := HF1.out _ L
  go_wp2_with (go_at_call 15; refine (hform _ hx hy).mono ?_; rintro e w1 ⟨rfl, hb⟩; have L := below_on L hb; clear x0 x1 y0 y1 hx hy s0 s1 ns hb; refine Hid.out ?_)
  refine Lib.hid ?_
  clear hform
  go_upto_region 7 with fail
  have htm := fun A3 A4 c3 c4 w hx hy => rtimes_any A3 A4 c3 c4 i j w hx hy (by have := HTI.out; omega) (by have := HTJ.out; omega)
  rw [← HQe.out] at htm
  go_cut [8] (fun s8 wx => ∃ (g8 : Nat) (A5 : Option Addr) (c5 : Nat), s8 = .pointer (some ⟨g8, 0, none⟩) ∧ Blk wx g8 33 #[.bool (decide (q < 0)), .slice A5 (tens q).length c5] ∧ Own8 wx 0 A5 c5 (tens q) ∧ Below W1.heap.size W1 wx)
  case first =>
    have HS : Hid (∀ b, Below W1.heap.size W1 b → b.cell? ⟨w.heap.size, 0, none⟩ = some (.bool n1) ∧ b.cell? ⟨w.heap.size, 1, none⟩ = some (.slice A xs.length c) ∧ b.cell? ⟨w.heap.size + 1, 0, none⟩ = some (.bool n2) ∧ b.cell? ⟨w.heap.size + 1, 1, none⟩ = some (.slice B ys.length d)) := fun b hb => have h := HF1.out b hb; ⟨h.1.1.1, h.1.1.2.1, h.1.1.2.2.1, h.1.1.2.2.2⟩
    have HN : Hid (∀ b, Below W1.heap.size W1 b → Nums b A xs ∧ Nums b B ys) := fun b hb => have h := HF1.out b hb; ⟨h.1.2.1, h.1.2.2⟩
    clear HF1 LW1 HTQ HQe HTI HTJ
    have hL0 := L.size
    obtain ⟨r0, r1, r2, r3⟩ := HS.out _ L
    go_region_held3 (fun b => b.cell? ⟨w.heap.size, 0, none⟩ = some (.bool n1) ∧ b.cell? ⟨w.heap.size, 1, none⟩ = some (.slice A xs.length c) ∧ b.cell? ⟨w.heap.size + 1, 0, none⟩ = some (.bool n2) ∧ b.cell? ⟨w.heap.size + 1, 1, none⟩ = some (.slice B ys.length d))
      (first | (with_reducible exact ⟨r0, r1, r2, r3⟩) | (exact HS.out _ (by repeat (first | with_reducible exact L | with_reducible apply Below.drew | (with_reducible refine Below.alloc ?_ (by have hh := L.size; first | exact hh | (simp only [World.size_alloc, World.size_drew]; omega) | (simp at hh ⊢; omega)) _) | (with_reducible refine Below.setCell ?_ (by have hh := L.size; first | exact hh | (simp only [World.size_alloc, World.size_drew]; omega) | (simp at hh ⊢; omega)) _)))))
      (first
        | (go_at_call_of 18 (Value.agg #[Value.bool n1, Value.slice A xs.length c]); refine (hofx _ (by exact (HN.out _ (by repeat (first | with_reducible exact L | with_reducible apply Below.drew | (with_reducible refine Below.alloc ?_ (by have hh := L.size; first | exact hh | (simp only [World.size_alloc, World.size_drew]; omega) | (simp at hh ⊢; omega)) _) | (with_reducible refine Below.setCell ?_ (by have hh := L.size; first | exact hh | (simp only [World.size_alloc, World.size_drew]; omega) | (simp at hh ⊢; omega)) _)))).1)).mono ?_; rintro e wx ⟨A3, c3, rfl, ho3, hbx⟩; have ho3 := ho3.mono (Nat.zero_le _); have L : Below W1.heap.size W1 wx := below_on (b := _) (by repeat (first | with_reducible exact L | with_reducible apply Below.drew | (with_reducible refine Below.alloc ?_ (by have hh := L.size; first | exact hh | (simp only [World.size_alloc, World.size_drew]; omega) | (simp at hh ⊢; omega)) _) | (with_reducible refine Below.setCell ?_ (by have hh := L.size; first | exact hh | (simp only [World.size_alloc, World.size_drew]; omega) | (simp at hh ⊢; omega)) _))) hbx; (try (have ho4 : Own8 wx 0 A4 c4 (tens j) := Own8.below (w := _) (by repeat (first | with_reducible exact ho4 | with_reducible apply Own8.alloc | with_reducible apply Own8.drew)) hbx (Nat.le_refl _))); (try (have ho5 : Own8 wx 0 A5 c5 (tens q) := Own8.below (w := _) (by repeat (first | with_reducible exact ho5 | with_reducible apply Own8.alloc | with_reducible apply Own8.drew)) hbx (Nat.le_refl _))); obtain ⟨hccx, hffx⟩ := bcell hbx; have hssx := hbx.size; (try (simp only [World.size_drew] at hccx hffx hssx)); (try (simp only [World.size_alloc] at hccx hffx hssx)); (try (have hspy := Nat.lt_of_lt_of_le hspy (show _ ≤ wx.heap.size by omega))); (try (have hsqy := Nat.lt_of_lt_of_le hsqy (show _ ≤ wx.heap.size by omega))); (try (have hspt := Nat.lt_of_lt_of_le hspt (show _ ≤ wx.heap.size by omega))); (try (have hsqt := Nat.lt_of_lt_of_le hsqt (show _ ≤ wx.heap.size by omega))); (try (have hspx := Nat.lt_of_succ_le hssx; (try (have hsqx := Nat.lt_of_succ_lt hspx)))); clear r0 r1 r2 r3; obtain ⟨r0, r1, r2, r3⟩ := HS.out _ L)
        | (go_at_call 18; refine (hofy _ (by exact (HN.out _ (by repeat (first | with_reducible exact L | with_reducible apply Below.drew | (with_reducible refine Below.alloc ?_ (by have hh := L.size; first | exact hh | (simp only [World.size_alloc, World.size_drew]; omega) | (simp at hh ⊢; omega)) _) | (with_reducible refine Below.setCell ?_ (by have hh := L.size; first | exact hh | (simp only [World.size_alloc, World.size_drew]; omega) | (simp at hh ⊢; omega)) _)))).2)).mono ?_; rintro e wy ⟨A4, c4, rfl, ho4, hby⟩; have ho4 := ho4.mono (Nat.zero_le _); have L : Below W1.heap.size W1 wy := below_on (b := _) (by repeat (first | with_reducible exact L | with_reducible apply Below.drew | (with_reducible refine Below.alloc ?_ (by have hh := L.size; first | exact hh | (simp only [World.size_alloc, World.size_drew]; omega) | (simp at hh ⊢; omega)) _) | (with_reducible refine Below.setCell ?_ (by have hh := L.size; first | exact hh | (simp only [World.size_alloc, World.size_drew]; omega) | (simp at hh ⊢; omega)) _))) hby; (try (have ho3 : Own8 wy 0 A3 c3 (tens i) := Own8.below (w := _) (by repeat (first | with_reducible exact ho3 | with_reducible apply Own8.alloc | with_reducible apply Own8.drew)) hby (Nat.le_refl _))); (try (have ho5 : Own8 wy 0 A5 c5 (tens q) := Own8.below (w := _) (by repeat (first | with_reducible exact ho5 | with_reducible apply Own8.alloc | with_reducible apply Own8.drew)) hby (Nat.le_refl _))); obtain ⟨hccy, hffy⟩ := bcell hby; have hssy := hby.size; (try (simp only [World.size_drew] at hccy hffy hssy)); (try (simp only [World.size_alloc] at hccy hffy hssy)); (try (have hspx := Nat.lt_of_lt_of_le hspx (show _ ≤ wy.heap.size by omega))); (try (have hsqx := Nat.lt_of_lt_of_le hsqx (show _ ≤ wy.heap.size by omega))); (try (have hspt := Nat.lt_of_lt_of_le hspt (show _ ≤ wy.heap.size by omega))); (try (have hsqt := Nat.lt_of_lt_of_le hsqt (show _ ≤ wy.heap.size by omega))); (try (have hspy := Nat.lt_of_succ_le hssy; (try (have hsqy := Nat.lt_of_succ_lt hspy)))); clear r0 r1 r2 r3; obtain ⟨r0, r1, r2, r3⟩ := HS.out _ L)
        | (go_at_call 37; refine (htm A3 A4 c3 c4 _ (Own8.nums (by repeat (first | with_reducible exact ho3 | with_reducible apply Own8.alloc | with_reducible apply Own8.drew))) (Own8.nums (by repeat (first | with_reducible exact ho4 | with_reducible apply Own8.alloc | with_reducible apply Own8.drew)))).mono ?_; rintro e wt ⟨A5, c5, rfl, ho5, hbt⟩; have ho5 := ho5.mono (Nat.zero_le _); have L : Below W1.heap.size W1 wt := below_on (b := _) (by repeat (first | with_reducible exact L | with_reducible apply Below.drew | (with_reducible refine Below.alloc ?_ (by have hh := L.size; first | exact hh | (simp only [World.size_alloc, World.size_drew]; omega) | (simp at hh ⊢; omega)) _) | (with_reducible refine Below.setCell ?_ (by have hh := L.size; first | exact hh | (simp only [World.size_alloc, World.size_drew]; omega) | (simp at hh ⊢; omega)) _))) hbt; (try (have ho3 : Own8 wt 0 A3 c3 (tens i) := Own8.below (w := _) (by repeat (first | with_reducible exact ho3 | with_reducible apply Own8.alloc | with_reducible apply Own8.drew)) hbt (Nat.le_refl _))); (try (have ho4 : Own8 wt 0 A4 c4 (tens j) := Own8.below (w := _) (by repeat (first | with_reducible exact ho4 | with_reducible apply Own8.alloc | with_reducible apply Own8.drew)) hbt (Nat.le_refl _))); obtain ⟨hcct, hfft⟩ := bcell hbt; have hsst := hbt.size; (try (simp only [World.size_drew] at hcct hfft hsst)); (try (simp only [World.size_alloc] at hcct hfft hsst)); (try (have hspx := Nat.lt_of_lt_of_le hspx (show _ ≤ wt.heap.size by omega))); (try (have hsqx := Nat.lt_of_lt_of_le hsqx (show _ ≤ wt.heap.size by omega))); (try (have hspy := Nat.lt_of_lt_of_le hspy (show _ ≤ wt.heap.size by omega))); (try (have hsqy := Nat.lt_of_lt_of_le hsqy (show _ ≤ wt.heap.size by omega))); (try (have hspt := Nat.lt_of_succ_le hsst; (try (have hsqt := Nat.lt_of_succ_lt hspt)))); clear r0 r1 r2 r3; obtain ⟨r0, r1, r2, r3⟩ := HS.out _ L))
    all_goals (go_wp2_with fail)
    all_goals go_meet
    all_goals
      refine ⟨_, A5, c5, rfl, ?_, ?_, ?_⟩
      all_goals (repeat' (first | with_reducible assumption | with_reducible exact Blk.new _ _ _ | with_reducible exact Blk.new1 _ _ _ _ | (with_reducible refine Blk.newAt ?_; (first | omega | (simp; done) | (simp; omega))) | with_reducible apply Blk.alloc | with_reducible apply Blk.drew | with_reducible refine Blk.set2 (x := .bool false) (y := .slice none 0 0) ?_ _ _ | with_reducible refine Blk.far ?_ ?_ _ | with_reducible refine Blk.below (w := _) ?_ hbx ?_ | with_reducible refine Blk.below (w := _) ?_ hby ?_ | with_reducible refine Blk.below (w := _) ?_ hbt ?_ | with_reducible apply Own8.alloc | with_reducible apply Own8.drew | with_reducible apply Own.alloc | with_reducible apply Own.drew | with_reducible refine Own8.set2 (x := .bool false) (y := .slice none 0 0) (t := 33) ?_ ?_ ?_ _ _ | with_reducible refine Own.set2 (x := .bool false) (y := .slice none 0 0) (t := 33) ?_ ?_ ?_ _ _ | with_reducible apply Below.drew | with_reducible refine Below.alloc ?_ ?_ _ | with_reducible refine Below.setCell ?_ ?_ _ | omega | (simp; omega) | (simp; done) | decide))
  case rest =>
    obtain ⟨g8, A5, c5, rfl, Z8, ho5, LC⟩ := hcut
    obtain ⟨W2, rfl⟩ : ∃ W2, W2 = wc := ⟨_, rfl⟩
    have HF2 : Hid (Pers W2 (fun b => (Two w n1 n2 A B c d xs ys b ∧ Box gs 24 (.bool (decide (outV true q < 0))) (.slice As (limbs (outV true q)).length cs) b ∧ Nums b As (limbs (outV true q))) ∧ (Box g8 33 (.bool (decide (q < 0))) (.slice A5 (tens q).length c5) b ∧ Nums8 b A5 (tens q)))) := (HF1.out.on LC).and ((Pers.box Z8).and (Pers.nums8 ho5.nums))
    have LW2 : Below w.heap.size w W2 := LW1.trans (LC.mono LW1.size)
    clear L LW1 HF1 Z8 ho5 LC hofx hofy htm HTI HTJ
    have hfit := fun A c v w => lfits_any A c v w
    have his := fun w hx hy => is_out As A5 cs c5 q w hx hy (by have := HTQ.out; omega)
    go_upto_region 8 with fail
    go_cut [4] (fun v wx => v = .bool true ∧ Below W2.heap.size W2 wx)
    case first =>
      have HS : Hid (∀ b, Below W2.heap.size W2 b → b.cell? ⟨gs, 0, none⟩ = some (.bool (decide (outV true q < 0))) ∧ b.cell? ⟨gs, 1, none⟩ = some (.slice As (limbs (outV true q)).length cs) ∧ b.cell? ⟨g8, 0, none⟩ = some (.bool (decide (q < 0))) ∧ b.cell? ⟨g8, 1, none⟩ = some (.slice A5 (tens q).length c5)) := fun b hb => have h := HF2.out b hb; ⟨h.1.2.1.1, h.1.2.1.2, h.2.1.1, h.2.1.2⟩
      have HN : Hid (∀ b, Below W2.heap.size W2 b → Nums b As (limbs (outV true q)) ∧ Nums8 b A5 (tens q)) := fun b hb => have h := HF2.out b hb; ⟨h.1.2.2, h.2.2⟩
      clear HF2 LW2 HTQ HQe
      have L : Below W2.heap.size W2 W2 := Below.refl _ _
      obtain ⟨r0, r1, r2, r3⟩ := HS.out _ L
      go_region_held3 (fun b => b.cell? ⟨gs, 0, none⟩ = some (.bool (decide (outV true q < 0))) ∧ b.cell? ⟨gs, 1, none⟩ = some (.slice As (limbs (outV true q)).length cs) ∧ b.cell? ⟨g8, 0, none⟩ = some (.bool (decide (q < 0))) ∧ b.cell? ⟨g8, 1, none⟩ = some (.slice A5 (tens q).length c5))
        (first | (with_reducible exact ⟨r0, r1, r2, r3⟩) | (exact HS.out _ (by repeat (first | with_reducible exact L | with_reducible apply Below.drew | (with_reducible refine Below.alloc ?_ (by have hh := L.size; first | exact hh | (simp only [World.size_alloc, World.size_drew]; omega) | (simp at hh ⊢; omega)) _) | (with_reducible refine Below.setCell ?_ (by have hh := L.size; first | exact hh | (simp only [World.size_alloc, World.size_drew]; omega) | (simp at hh ⊢; omega)) _)))))
        (first
          | (go_at_call 34; refine (hfit A5 c5 q _).mono ?_; rintro e w1 ⟨rfl, hb1⟩; have L : Below W2.heap.size W2 w1 := below_on (b := _) (by repeat (first | with_reducible exact L | with_reducible apply Below.drew | (with_reducible refine Below.alloc ?_ (by have hh := L.size; first | exact hh | (simp only [World.size_alloc, World.size_drew]; omega) | (simp at hh ⊢; omega)) _) | (with_reducible refine Below.setCell ?_ (by have hh := L.size; first | exact hh | (simp only [World.size_alloc, World.size_drew]; omega) | (simp at hh ⊢; omega)) _))) hb1; clear hb1; clear r0 r1 r2 r3; obtain ⟨r0, r1, r2, r3⟩ := HS.out _ L)
          | (go_at_call 16; refine (his _ (by exact (HN.out _ (by repeat (first | with_reducible exact L | with_reducible apply Below.drew | (with_reducible refine Below.alloc ?_ (by have hh := L.size; first | exact hh | (simp only [World.size_alloc, World.size_drew]; omega) | (simp at hh ⊢; omega)) _) | (with_reducible refine Below.setCell ?_ (by have hh := L.size; first | exact hh | (simp only [World.size_alloc, World.size_drew]; omega) | (simp at hh ⊢; omega)) _)))).1) (by exact (HN.out _ (by repeat (first | with_reducible exact L | with_reducible apply Below.drew | (with_reducible refine Below.alloc ?_ (by have hh := L.size; first | exact hh | (simp only [World.size_alloc, World.size_drew]; omega) | (simp at hh ⊢; omega)) _) | (with_reducible refine Below.setCell ?_ (by have hh := L.size; first | exact hh | (simp only [World.size_alloc, World.size_drew]; omega) | (simp at hh ⊢; omega)) _)))).2)).mono ?_; rintro e w1 ⟨rfl, hb1⟩; have L : Below W2.heap.size W2 w1 := below_on (b := _) (by repeat (first | with_reducible exact L | with_reducible apply Below.drew | (with_reducible refine Below.alloc ?_ (by have hh := L.size; first | exact hh | (simp only [World.size_alloc, World.size_drew]; omega) | (simp at hh ⊢; omega)) _) | (with_reducible refine Below.setCell ?_ (by have hh := L.size; first | exact hh | (simp only [World.size_alloc, World.size_drew]; omega) | (simp at hh ⊢; omega)) _))) hb1; clear hb1; clear r0 r1 r2 r3; obtain ⟨r0, r1, r2, r3⟩ := HS.out _ L))
      all_goals (go_wp2_with fail)
      all_goals go_meet
      all_goals
        exact ⟨rfl, L⟩
    case rest =>
      obtain ⟨rfl, LC⟩ := hcut
      go_wp2_with fail
      go_ret
      exact ⟨rfl, LW2.trans (LC.mono LW2.size)⟩
end
/-- WholeProducts answers true at every two numbers. -/
theorem products_law (n1 : Bool) (A : Option Addr) (c : Nat) (xs : List Nat) (n2 : Bool) (B : Option Addr) (d : Nat) (ys : List Nat) (w : World) (hx : Nums w A xs) (hl : xs.length ≤ 9223372036854775807) (hy : Nums w B ys) (hl' : ys.length ≤ 9223372036854775807) :
    Calls Tryd.prog 6 #[.agg #[.bool n1, .slice A xs.length c], .agg #[.bool n2, .slice B ys.length d]] w fun e w' => e = .returned (.bool true) ∧ Below w.heap.size w w' := by
  cases hok : (goodB n1 xs && goodB n2 ys)
  · exact products_bad n1 n2 A B c d xs ys w hx hy hl hl' hok
  · obtain ⟨hg, hk⟩ := Bool.and_eq_true_iff.1 hok
    exact products_good n1 n2 A B c d xs ys w hx hy hl hl' hg hk
end Go.Proofs.YteggjfmcpodepaaDoor

/- The walk of the law WholeSums. -/
import Derived.Test.YteggjfmcpodepaaDoorPers
import Derived.Test.YteggjfmcpodepaaDoorRPlus
import Derived.Test.YteggjfmcpodepaaDoorWCmp
namespace Go.Proofs.YteggjfmcpodepaaDoor
open Go.RowKit
theorem tens_neg (i : Int) : tens (-i) = tens i := by rw [tens_eq, tens_eq, Int.natAbs_neg]
theorem tens_sum {i j : Int} (hi : i.natAbs < B18 ^ 30) (hj : j.natAbs < B18 ^ 30) : (tens (i + j)).length ≤ 600 := by
  have h1 : (i + j).natAbs < B18 ^ 31 := by
    have e : B18 ^ 31 = B18 ^ 30 * B18 := rfl
    have h2 : B18 ^ 30 * 2 ≤ B18 ^ 30 * B18 := Nat.mul_le_mul_left _ (by unfold B18; omega)
    omega
  have := tens_len_of h1
  omega
section
variable (n1 n2 : Bool) (A B : Option Addr) (c d : Nat) (xs ys : List Nat) (w : World)
set_option maxRecDepth 100000
set_option maxHeartbeats 4000000 in
theorem sums_bad (hx : Nums w A xs) (hy : Nums w B ys) (hl : xs.length ≤ 9223372036854775807) (hl' : ys.length ≤ 9223372036854775807) (hok : (goodB n1 xs && goodB n2 ys) = false) :
    Calls Tryd.prog 5 #[.agg #[.bool n1, .slice A xs.length c], .agg #[.bool n2, .slice B ys.length d]] w (LawTrue w) := by
  obtain ⟨W0, hW0⟩ : ∃ W0, W0 = two w n1 n2 A B c d xs ys := ⟨_, rfl⟩
  have LW : Below w.heap.size w W0 := by rw [hW0]; exact two_below ..
  have HF0 : Hid (Pers W0 (Two w n1 n2 A B c d xs ys)) := fun b1 hb => by rw [hW0] at hb; exact two_since hx hy hb
  have hform := fun w hx hy => lform_any n1 n2 A B c d xs ys w hx hy hl hl'
  have hadd := fun w hx hy => add_any A B c d xs ys w n1 n2 hx hy hl hl'
  have hsub := fun w hx hy => sub_any A B c d xs ys w n1 n2 hx hy hl hl'
  have hcmp := fun w hx hy => cmp_any A B c d xs ys w n1 n2 hx hy hl hl'
  have hgood := fun w hx => rgood_any n1 c w A xs hl hx
  have hsign := fun w hx => sign_any A c xs w n1 hx hl
  have hneg := fun w hx => neg_any A c xs w n1 hx hl
  have hfo : formE (goodB n1 xs) (goodB n2 ys) = 3 := by unfold formE; rw [hok]; rfl
  rw [hfo] at hform
  have hadd := fun w hx hy => (hadd w hx hy).mono fun e w' h => retBigErr_nought (by rw [hok, outV_bad, outE_bad] at h; exact h)
  have hsub := fun w hx hy => (hsub w hx hy).mono fun e w' h => retBigErr_nought (by rw [hok, outV_bad, outE_bad] at h; exact h)
  have hc0 : cmpO false (num n1 xs) (num n2 ys) = 0 := by unfold cmpO; rfl
  rw [hok, hc0] at hcmp
  have hsame := fun A c w (h : Nums w A []) => rsame_self A none c 0 false [] w h ⟨fun k => by rw [nth_nil]; decide, fun h => absurd h (by decide)⟩ (by decide)
  clear hc0 hfo hok hl hl'
  clear hx hy
  unfold two at hW0
  go_enter Tryd.func5, Tryd.ntmps5
  go_upto_region 1 with fail
  rw [← hW0]
  clear hW0
  have L : Below W0.heap.size W0 W0 := Below.refl _ _
  go_wp2_with (go_at_call 13; refine (known_any _).mono ?_; rintro e w1 ⟨rfl, hb⟩; have L := below_on L hb; clear hb; refine Hid.out ?_)
  refine Lib.hid ?_
  obtain ⟨⟨x0, x1, y0, y1⟩, hx, hy⟩ := HF0.out _ L
  go_wp2_with (go_at_call 15; refine (hform _ hx hy).mono ?_; rintro e w1 ⟨rfl, hb⟩; have L := below_on L hb; clear x0 x1 y0 y1 hx hy hb; refine Hid.out ?_)
  refine Lib.hid ?_
  obtain ⟨⟨x0, x1, y0, y1⟩, hx, hy⟩ := HF0.out _ L
  go_wp2_with (go_at_call 27; refine (hadd _ hx hy).mono ?_; rintro e w1 ⟨As, cs, rfl, ns, hb⟩; have L := below_on L hb; clear x0 x1 y0 y1 hx hy hb; refine Hid.out ?_)
  refine Lib.hid ?_
  go_upto_region 5 with fail
  obtain ⟨W1, hW1⟩ : ∃ W1, W1 = w1.alloc (.cells #[.bool false, .slice As 0 cs] 24) := ⟨_, rfl⟩
  obtain ⟨gs, hgs⟩ : ∃ gs, gs = w1.heap.size := ⟨_, rfl⟩
  have HF1 : Hid (Pers W1 (fun b => Two w n1 n2 A B c d xs ys b ∧ Box gs 24 (.bool false) (.slice As 0 cs) b ∧ Nums b As [])) := by
    have k1 : Below w1.heap.size w1 W1 := by rw [hW1]; exact (Below.refl _ _).alloc (Nat.le_refl _) _
    have k2 : Blk W1 gs 24 #[.bool false, .slice As 0 cs] := by rw [hW1, hgs]; exact Blk.new _ _ _
    exact (HF0.out.on (below_on L k1)).and ((Pers.box k2).and (Pers.nums (ns.since k1)))
  have LW1 : Below w.heap.size w W1 := by rw [hW1]; exact (LW.trans (L.mono LW.size)).alloc (Nat.le_trans LW.size L.size) _
  rw [← hW1, ← hgs]
  clear hW1 hgs HF0 L LW ns
  have L : Below W1.heap.size W1 W1 := Below.refl _ _
  obtain ⟨⟨⟨x0, x1, y0, y1⟩, hx, hy⟩, ⟨s0, s1⟩, ns⟩ := HF1.out _ L
  go_wp2_with (go_at_call 28; refine (hsub _ hx hy).mono ?_; rintro e w1 ⟨Ad, cd, rfl, nd, hb⟩; have L := below_on L hb; clear x0 x1 y0 y1 hx hy s0 s1 ns hb; refine Hid.out ?_)
  refine Lib.hid ?_
  go_upto_region 6 with fail
  obtain ⟨W2, hW2⟩ : ∃ W2, W2 = w1.alloc (.cells #[.bool false, .slice Ad 0 cd] 24) := ⟨_, rfl⟩
  obtain ⟨gd, hgd⟩ : ∃ gd, gd = w1.heap.size := ⟨_, rfl⟩
  have HF2 : Hid (Pers W2 (fun b => (Two w n1 n2 A B c d xs ys b ∧ Box gs 24 (.bool false) (.slice As 0 cs) b ∧ Nums b As []) ∧
      Box gd 24 (.bool false) (.slice Ad 0 cd) b ∧ Nums b Ad [])) := by
    have k1 : Below w1.heap.size w1 W2 := by rw [hW2]; exact (Below.refl _ _).alloc (Nat.le_refl _) _
    have k2 : Blk W2 gd 24 #[.bool false, .slice Ad 0 cd] := by rw [hW2, hgd]; exact Blk.new _ _ _
    exact (HF1.out.on (below_on L k1)).and ((Pers.box k2).and (Pers.nums (nd.since k1)))
  have LW2 : Below w.heap.size w W2 := by rw [hW2]; exact (LW1.trans (L.mono LW1.size)).alloc (Nat.le_trans LW1.size L.size) _
  rw [← hW2, ← hgd]
  clear hW2 hgd HF1 L LW1 nd
  have L : Below W2.heap.size W2 W2 := Below.refl _ _
  obtain ⟨⟨⟨⟨x0, x1, y0, y1⟩, hx, hy⟩, ⟨s0, s1⟩, ns⟩, ⟨d0, d1⟩, nd⟩ := HF2.out _ L
  go_wp2_with (go_at_call 29; refine (hcmp _ hx hy).mono ?_; rintro e w1 ⟨rfl, hb⟩; have L := below_on L hb; clear x0 x1 y0 y1 hx hy s0 s1 ns d0 d1 nd hb; refine Hid.out ?_)
  refine Lib.hid ?_
  obtain ⟨⟨⟨⟨x0, x1, y0, y1⟩, hx, hy⟩, ⟨s0, s1⟩, ns⟩, ⟨d0, d1⟩, nd⟩ := HF2.out _ L
  go_wp2_with (go_at_call 21; refine (hsame As cs _ ns).mono ?_; rintro e w1 ⟨rfl, hb⟩; have L := below_on L hb; clear x0 x1 y0 y1 hx hy s0 s1 ns d0 d1 nd hb; refine Hid.out ?_)
  refine Lib.hid ?_
  obtain ⟨⟨⟨⟨x0, x1, y0, y1⟩, hx, hy⟩, ⟨s0, s1⟩, ns⟩, ⟨d0, d1⟩, nd⟩ := HF2.out _ L
  go_wp2_with (go_at_call 21; refine (hsame Ad cd _ nd).mono ?_; rintro e w1 ⟨rfl, hb⟩; have L := below_on L hb; clear x0 x1 y0 y1 hx hy s0 s1 ns d0 d1 nd hb; refine Hid.out ?_)
  refine Lib.hid ?_
  obtain ⟨⟨⟨⟨x0, x1, y0, y1⟩, hx, hy⟩, ⟨s0, s1⟩, ns⟩, ⟨d0, d1⟩, nd⟩ := HF2.out _ L
  cases hg1 : goodB n1 xs
  · have hs0 : cmpO false (num n1 xs) 0 = 0 := by unfold cmpO; rfl
    rw [hg1] at hgood
    rw [hg1, hs0] at hsign
    have hneg := fun w hx => (hneg w hx).mono fun e w' h => retBig_nought (by rw [hg1] at h; simpa using h)
    clear hg1 hs0
    go_wp2_with (go_at_call 20; refine (hgood _ hx).mono ?_; rintro e w1 ⟨rfl, hb⟩; have L := below_on L hb; clear x0 x1 y0 y1 hx hy s0 s1 ns d0 d1 nd hb; refine Hid.out ?_)
    refine Lib.hid ?_
    obtain ⟨⟨⟨⟨x0, x1, y0, y1⟩, hx, hy⟩, ⟨s0, s1⟩, ns⟩, ⟨d0, d1⟩, nd⟩ := HF2.out _ L
    go_wp2_with (go_at_call 30; refine (hsign _ hx).mono ?_; rintro e w1 ⟨rfl, hb⟩; have L := below_on L hb; clear x0 x1 y0 y1 hx hy s0 s1 ns d0 d1 nd hb; refine Hid.out ?_)
    refine Lib.hid ?_
    obtain ⟨⟨⟨⟨x0, x1, y0, y1⟩, hx, hy⟩, ⟨s0, s1⟩, ns⟩, ⟨d0, d1⟩, nd⟩ := HF2.out _ L
    go_wp2_with (go_at_call 31; refine (hneg _ hx).mono ?_; rintro e w1 ⟨An, cn, rfl, nn, hb⟩; have L := below_on L hb; clear x0 x1 y0 y1 hx hy s0 s1 ns d0 d1 nd hb; refine Hid.out ?_)
    refine Lib.hid ?_
    go_wp2_with (go_at_call 21; refine (hsame An cn _ nn).mono ?_; rintro e w1 ⟨rfl, hb⟩; have L := below_on L hb; clear hb)
    go_ret
    exact ⟨rfl, LW2.trans (L.mono LW2.size)⟩
  · rw [hg1] at hgood
    clear hg1
    go_wp2_with (go_at_call 20; refine (hgood _ hx).mono ?_; rintro e w1 ⟨rfl, hb⟩; have L := below_on L hb; clear hb)
    go_ret
    exact ⟨rfl, LW2.trans (L.mono LW2.size)⟩
set_option maxHeartbeats 4000000 in
theorem sums_good (hx : Nums w A xs) (hy : Nums w B ys) (hl : xs.length ≤ 9223372036854775807) (hl' : ys.length ≤ 9223372036854775807) (hg : goodB n1 xs = true) (hk : goodB n2 ys = true) :
    Calls Tryd.prog 5 #[.agg #[.bool n1, .slice A xs.length c], .agg #[.bool n2, .slice B ys.length d]] w (LawTrue w) := by
  obtain ⟨W0, hW0⟩ : ∃ W0, W0 = two w n1 n2 A B c d xs ys := ⟨_, rfl⟩
  have LW : Below w.heap.size w W0 := by rw [hW0]; exact two_below ..
  have HF0 : Hid (Pers W0 (Two w n1 n2 A B c d xs ys)) := fun b1 hb => by rw [hW0] at hb; exact two_since hx hy hb
  have hform := fun w hx hy => lform_any n1 n2 A B c d xs ys w hx hy hl hl'
  have hadd := fun w hx hy => add_any A B c d xs ys w n1 n2 hx hy hl hl'
  have hsub := fun w hx hy => sub_any A B c d xs ys w n1 n2 hx hy hl hl'
  have hcmp := fun w hx hy => cmp_any A B c d xs ys w n1 n2 hx hy hl hl'
  have hgood := fun w hx => rgood_any n1 c w A xs hl hx
  have hsign := fun w hx => sign_any A c xs w n1 hx hl
  have hneg := fun w hx => neg_any A c xs w n1 hx hl
  rw [hg, hk] at hform hadd hsub hcmp
  rw [hg] at hsign hneg hgood
  have hfo : formE true true = 0 := rfl
  rw [hfo] at hform
  simp only [Bool.and_self] at hadd hsub hcmp
  simp only [if_true] at hneg
  have hofx := fun w hx => rof_any n1 A c xs w hx hg
  have hofy := fun w hy => rof_any n2 B d ys w hy hk
  have hco : ∀ a b, cmpO true a b = cmpI a b := fun a b => by unfold cmpO; rfl
  rw [hco] at hcmp hsign
  have hni := num_lt hg
  have hnj := num_lt hk
  have hnx := neg_num hg
  have HTI := Lib.hid (tens_length hni)
  have HTJ := Lib.hid (tens_length hnj)
  have HLN := Lib.hid (limbs_length (i := - num n1 xs) (by rw [Int.natAbs_neg]; exact hni))
  have HTS := Lib.hid (tens_sum hni hnj)
  have HTD := Lib.hid (tens_sum (j := - num n2 ys) hni (by rw [Int.natAbs_neg]; exact hnj))
  obtain ⟨i, hi⟩ : ∃ i, i = num n1 xs := ⟨_, rfl⟩
  obtain ⟨j, hj⟩ : ∃ j, j = num n2 ys := ⟨_, rfl⟩
  rw [← hi, ← hj] at hadd hsub hcmp HTS HTD
  rw [← hi] at hsign hneg hofx HTI HLN
  rw [← hj] at hofy HTJ
  obtain ⟨s, hs⟩ : ∃ s, s = i + j := ⟨_, rfl⟩
  obtain ⟨df, hdf⟩ : ∃ df, df = i - j := ⟨_, rfl⟩
  rw [← hs] at hadd HTS
  rw [← hdf] at hsub
  rw [show i + -j = df by rw [hdf]; omega] at HTD
  have HSe := Lib.hid hs; have HDe := Lib.hid hdf
  clear hs hdf hi hj hfo hco hni hnj hnx hg hk hl hl'
  clear hx hy
  unfold two at hW0
  go_enter Tryd.func5, Tryd.ntmps5
  go_upto_region 1 with fail
  rw [← hW0]
  clear hW0
  have L : Below W0.heap.size W0 W0 := Below.refl _ _
  go_wp2_with (go_at_call 13; refine (known_any _).mono ?_; rintro e w1 ⟨rfl, hb⟩; have L := below_on L hb; clear hb; refine Hid.out ?_)
  refine Lib.hid ?_
  obtain ⟨⟨x0, x1, y0, y1⟩, hx, hy⟩ := HF0.out _ L
  go_wp2_with (go_at_call 15; refine (hform _ hx hy).mono ?_; rintro e w1 ⟨rfl, hb⟩; have L := below_on L hb; clear x0 x1 y0 y1 hx hy hb; refine Hid.out ?_)
  refine Lib.hid ?_
  obtain ⟨⟨x0, x1, y0, y1⟩, hx, hy⟩ := HF0.out _ L
  go_wp2_with (go_at_call 27; refine (hadd _ hx hy).mono ?_; rintro e w1 ⟨As, cs, rfl, hos, hb⟩; have L := below_on L hb; clear x0 x1 y0 y1 hx hy hb; refine Hid.out ?_)
  refine Lib.hid ?_
  go_upto_region 5 with fail
  obtain ⟨W1, hW1⟩ : ∃ W1, W1 = w1.alloc (.cells #[.bool (decide (outV true s < 0)), .slice As (limbs (outV true s)).length cs] 24) := ⟨_, rfl⟩
  obtain ⟨gs, hgs⟩ : ∃ gs, gs = w1.heap.size := ⟨_, rfl⟩
  have HF1 : Hid (Pers W1 (fun b => Two w n1 n2 A B c d xs ys b ∧ Box gs 24 (.bool (decide (outV true s < 0))) (.slice As (limbs (outV true s)).length cs) b ∧ Nums b As (limbs (outV true s)))) := by
    have k1 : Below w1.heap.size w1 W1 := by rw [hW1]; exact (Below.refl _ _).alloc (Nat.le_refl _) _
    have k2 : Blk W1 gs 24 #[.bool (decide (outV true s < 0)), .slice As (limbs (outV true s)).length cs] := by rw [hW1, hgs]; exact Blk.new _ _ _
    exact (HF0.out.on (below_on L k1)).and ((Pers.box k2).and (Pers.nums (hos.nums.since k1)))
  have LW1 : Below w.heap.size w W1 := by rw [hW1]; exact (LW.trans (L.mono LW.size)).alloc (Nat.le_trans LW.size L.size) _
  rw [← hW1, ← hgs]
  clear hW1 hgs HF0 L LW hos
  have L : Below W1.heap.size W1 W1 := Below.refl _ _
  obtain ⟨⟨⟨x0, x1, y0, y1⟩, hx, hy⟩, ⟨s0, s1⟩, ns⟩ := HF1.out _ L
  go_wp2_with (go_at_call 28; refine (hsub _ hx hy).mono ?_; rintro e w1 ⟨Ad, cd, rfl, hod, hb⟩; have L := below_on L hb; clear x0 x1 y0 y1 hx hy s0 s1 ns hb; refine Hid.out ?_)
  refine Lib.hid ?_
  go_upto_region 6 with fail
  obtain ⟨W2, hW2⟩ : ∃ W2, W2 = w1.alloc (.cells #[.bool (decide (outV true df < 0)), .slice Ad (limbs (outV true df)).length cd] 24) := ⟨_, rfl⟩
  obtain ⟨gd, hgd⟩ : ∃ gd, gd = w1.heap.size := ⟨_, rfl⟩
  have HF2 : Hid (Pers W2 (fun b => (Two w n1 n2 A B c d xs ys b ∧ Box gs 24 (.bool (decide (outV true s < 0))) (.slice As (limbs (outV true s)).length cs) b ∧ Nums b As (limbs (outV true s))) ∧
      Box gd 24 (.bool (decide (outV true df < 0))) (.slice Ad (limbs (outV true df)).length cd) b ∧ Nums b Ad (limbs (outV true df)))) := by
    have k1 : Below w1.heap.size w1 W2 := by rw [hW2]; exact (Below.refl _ _).alloc (Nat.le_refl _) _
    have k2 : Blk W2 gd 24 #[.bool (decide (outV true df < 0)), .slice Ad (limbs (outV true df)).length cd] := by rw [hW2, hgd]; exact Blk.new _ _ _
    exact (HF1.out.on (below_on L k1)).and ((Pers.box k2).and (Pers.nums (hod.nums.since k1)))
  have LW2 : Below w.heap.size w W2 := by rw [hW2]; exact (LW1.trans (L.mono LW1.size)).alloc (Nat.le_trans LW1.size L.size) _
  rw [← hW2, ← hgd]
  clear hW2 hgd HF1 L LW1 hod
  have L : Below W2.heap.size W2 W2 := Below.refl _ _
  obtain ⟨⟨⟨⟨x0, x1, y0, y1⟩, hx, hy⟩, ⟨s0, s1⟩, ns⟩, ⟨d0, d1⟩, nd⟩ := HF2.out _ L
  clear hform hgood hadd hsub
  go_upto_region 8 with fail
  go_cut [10, 11] (fun s10 s11 wx => ∃ (g10 g11 : Nat) (A3 : Option Addr) (c3 : Nat) (A4 : Option Addr) (c4 : Nat), s10 = .pointer (some ⟨g10, 0, none⟩) ∧ s11 = .pointer (some ⟨g11, 0, none⟩) ∧ Blk wx g10 33 #[.bool (decide (i < 0)), .slice A3 (tens i).length c3] ∧ Blk wx g11 33 #[.bool (decide (j < 0)), .slice A4 (tens j).length c4] ∧ Own8 wx 0 A3 c3 (tens i) ∧ Own8 wx 0 A4 c4 (tens j) ∧ Below W2.heap.size W2 wx)
  case first =>
    have HS : Hid (∀ b, Below W2.heap.size W2 b → b.cell? ⟨w.heap.size, 0, none⟩ = some (.bool n1) ∧ b.cell? ⟨w.heap.size, 1, none⟩ = some (.slice A xs.length c) ∧ b.cell? ⟨w.heap.size + 1, 0, none⟩ = some (.bool n2) ∧ b.cell? ⟨w.heap.size + 1, 1, none⟩ = some (.slice B ys.length d)) := fun b hb => have h := HF2.out b hb; ⟨h.1.1.1.1, h.1.1.1.2.1, h.1.1.1.2.2.1, h.1.1.1.2.2.2⟩
    have HN : Hid (∀ b, Below W2.heap.size W2 b → Nums b A xs ∧ Nums b B ys) := fun b hb => have h := HF2.out b hb; ⟨h.1.1.2.1, h.1.1.2.2⟩
    clear x0 x1 y0 y1 hx hy s0 s1 ns d0 d1 nd L hneg hsign hcmp HF2 LW2 HLN HTS HTD HSe HDe HTI HTJ
    have L : Below W2.heap.size W2 W2 := Below.refl _ _
    obtain ⟨r0, r1, r2, r3⟩ := HS.out _ L
    go_region_held3 (fun b => b.cell? ⟨w.heap.size, 0, none⟩ = some (.bool n1) ∧ b.cell? ⟨w.heap.size, 1, none⟩ = some (.slice A xs.length c) ∧ b.cell? ⟨w.heap.size + 1, 0, none⟩ = some (.bool n2) ∧ b.cell? ⟨w.heap.size + 1, 1, none⟩ = some (.slice B ys.length d))
      (first | (with_reducible exact ⟨r0, r1, r2, r3⟩) | (exact HS.out _ (by repeat (first | with_reducible exact L | with_reducible apply Below.drew | (with_reducible refine Below.alloc ?_ (by have hh := L.size; first | exact hh | (simp only [World.size_alloc, World.size_drew]; omega) | (simp at hh ⊢; omega)) _) | (with_reducible refine Below.setCell ?_ (by have hh := L.size; first | exact hh | (simp only [World.size_alloc, World.size_drew]; omega) | (simp at hh ⊢; omega)) _)))))
      (first
        | (go_at_call_of 18 (Value.agg #[Value.bool n1, Value.slice A xs.length c]); refine (hofx _ (by exact (HN.out _ (by repeat (first | with_reducible exact L | with_reducible apply Below.drew | (with_reducible refine Below.alloc ?_ (by have hh := L.size; first | exact hh | (simp only [World.size_alloc, World.size_drew]; omega) | (simp at hh ⊢; omega)) _) | (with_reducible refine Below.setCell ?_ (by have hh := L.size; first | exact hh | (simp only [World.size_alloc, World.size_drew]; omega) | (simp at hh ⊢; omega)) _)))).1)).mono ?_; rintro e wx ⟨A3, c3, rfl, ho3, hbx⟩; have ho3 := ho3.mono (Nat.zero_le _); have L : Below W2.heap.size W2 wx := below_on (b := _) (by repeat (first | with_reducible exact L | with_reducible apply Below.drew | (with_reducible refine Below.alloc ?_ (by have hh := L.size; first | exact hh | (simp only [World.size_alloc, World.size_drew]; omega) | (simp at hh ⊢; omega)) _) | (with_reducible refine Below.setCell ?_ (by have hh := L.size; first | exact hh | (simp only [World.size_alloc, World.size_drew]; omega) | (simp at hh ⊢; omega)) _))) hbx; (try (have ho4 : Own8 wx 0 A4 c4 (tens j) := Own8.below (w := _) (by repeat (first | with_reducible exact ho4 | with_reducible apply Own8.alloc | with_reducible apply Own8.drew)) hbx (Nat.le_refl _))); obtain ⟨hccx, hffx⟩ := bcell hbx; have hssx := hbx.size; (try (simp only [World.size_drew] at hccx hffx hssx)); (try (simp only [World.size_alloc] at hccx hffx hssx)); (try (have hspy := Nat.lt_of_lt_of_le hspy (show _ ≤ wx.heap.size by omega))); (try (have hsqy := Nat.lt_of_lt_of_le hsqy (show _ ≤ wx.heap.size by omega))); (try (have hspx := Nat.lt_of_succ_le hssx; (try (have hsqx := Nat.lt_of_succ_lt hspx)))); clear r0 r1 r2 r3; obtain ⟨r0, r1, r2, r3⟩ := HS.out _ L)
        | (go_at_call 18; refine (hofy _ (by exact (HN.out _ (by repeat (first | with_reducible exact L | with_reducible apply Below.drew | (with_reducible refine Below.alloc ?_ (by have hh := L.size; first | exact hh | (simp only [World.size_alloc, World.size_drew]; omega) | (simp at hh ⊢; omega)) _) | (with_reducible refine Below.setCell ?_ (by have hh := L.size; first | exact hh | (simp only [World.size_alloc, World.size_drew]; omega) | (simp at hh ⊢; omega)) _)))).2)).mono ?_; rintro e wy ⟨A4, c4, rfl, ho4, hby⟩; have ho4 := ho4.mono (Nat.zero_le _); have L : Below W2.heap.size W2 wy := below_on (b := _) (by repeat (first | with_reducible exact L | with_reducible apply Below.drew | (with_reducible refine Below.alloc ?_ (by have hh := L.size; first | exact hh | (simp only [World.size_alloc, World.size_drew]; omega) | (simp at hh ⊢; omega)) _) | (with_reducible refine Below.setCell ?_ (by have hh := L.size; first | exact hh | (simp only [World.size_alloc, World.size_drew]; omega) | (simp at hh ⊢; omega)) _))) hby; (try (have ho3 : Own8 wy 0 A3 c3 (tens i) := Own8.below (w := _) (by repeat (first | with_reducible exact ho3 | with_reducible apply Own8.alloc | with_reducible apply Own8.drew)) hby (Nat.le_refl _))); obtain ⟨hccy, hffy⟩ := bcell hby; have hssy := hby.size; (try (simp only [World.size_drew] at hccy hffy hssy)); (try (simp only [World.size_alloc] at hccy hffy hssy)); (try (have hspx := Nat.lt_of_lt_of_le hspx (show _ ≤ wy.heap.size by omega))); (try (have hsqx := Nat.lt_of_lt_of_le hsqx (show _ ≤ wy.heap.size by omega))); (try (have hspy := Nat.lt_of_succ_le hssy; (try (have hsqy := Nat.lt_of_succ_lt hspy)))); clear r0 r1 r2 r3; obtain ⟨r0, r1, r2, r3⟩ := HS.out _ L))
    all_goals (go_wp2_with fail)
    all_goals go_meet
    all_goals
      refine ⟨_, _, A3, c3, A4, c4, rfl, rfl, ?_, ?_, ?_, ?_, ?_⟩
      all_goals (repeat' (first | with_reducible assumption | with_reducible exact Blk.new _ _ _ | with_reducible exact Blk.new1 _ _ _ _ | (with_reducible refine Blk.newAt ?_; (first | omega | (simp; done) | (simp; omega))) | with_reducible apply Blk.alloc | with_reducible apply Blk.drew | with_reducible refine Blk.set2 (x := .bool false) (y := .slice none 0 0) ?_ _ _ | with_reducible refine Blk.far ?_ ?_ _ | with_reducible refine Blk.below (w := _) ?_ hbx ?_ | with_reducible refine Blk.below (w := _) ?_ hby ?_ | with_reducible apply Own8.alloc | with_reducible apply Own8.drew | with_reducible apply Own.alloc | with_reducible apply Own.drew | with_reducible refine Own8.set2 (x := .bool false) (y := .slice none 0 0) (t := 33) ?_ ?_ ?_ _ _ | with_reducible refine Own.set2 (x := .bool false) (y := .slice none 0 0) (t := 33) ?_ ?_ ?_ _ _ | with_reducible apply Below.drew | with_reducible refine Below.alloc ?_ ?_ _ | with_reducible refine Below.setCell ?_ ?_ _ | omega | (simp; omega) | (simp; done) | decide))
  case rest =>
    obtain ⟨g10, g11, A3, c3, A4, c4, rfl, rfl, Z10, Z11, ho3, ho4, LC⟩ := hcut
    obtain ⟨W3, rfl⟩ : ∃ W3, W3 = wc := ⟨_, rfl⟩
    have HF3 : Hid (Pers W3 (fun b => ((Two w n1 n2 A B c d xs ys b ∧ Box gs 24 (.bool (decide (outV true s < 0))) (.slice As (limbs (outV true s)).length cs) b ∧ Nums b As (limbs (outV true s))) ∧ Box gd 24 (.bool (decide (outV true df < 0))) (.slice Ad (limbs (outV true df)).length cd) b ∧ Nums b Ad (limbs (outV true df))) ∧ (Box g10 33 (.bool (decide (i < 0))) (.slice A3 (tens i).length c3) b ∧ Nums8 b A3 (tens i)) ∧ (Box g11 33 (.bool (decide (j < 0))) (.slice A4 (tens j).length c4) b ∧ Nums8 b A4 (tens j)))) := (HF2.out.on LC).and (((Pers.box Z10).and (Pers.nums8 ho3.nums)).and ((Pers.box Z11).and (Pers.nums8 ho4.nums)))
    have LW3 : Below w.heap.size w W3 := LW2.trans (LC.mono LW2.size)
    clear x0 x1 y0 y1 hx hy s0 s1 ns d0 d1 nd L LW2 HF2 Z10 Z11 ho3 ho4 LC hofx hofy
    have hplus := fun w hx hy => rplus_any A3 A4 c3 c4 i j w hx hy (by have := HTI.out; omega) (by have := HTJ.out; omega)
    rw [← HSe.out] at hplus
    have hturn := fun w => rturn_any A4 c4 j w (by have := HTJ.out; omega)
    unfold RetTurn at hturn
    have hplus2 := fun w hx hy => rplus_any A3 A4 c3 c4 i (-j) w hx (by rw [tens_neg]; exact hy) (by have := HTI.out; omega) (by rw [tens_neg]; have := HTJ.out; omega)
    rw [tens_neg, show i + -j = df by rw [HDe.out]; omega] at hplus2
    obtain ⟨tb, htb⟩ : ∃ tb, tb = decide (-j < 0) := ⟨_, rfl⟩
    rw [← htb] at hturn hplus2
    have HTB := Lib.hid htb
    clear htb
    go_upto_region 9 with fail
    go_cut [12, 13] (fun s12 s13 wx => ∃ (g12 g13 : Nat) (A5 : Option Addr) (c5 : Nat) (A6 : Option Addr) (c6 : Nat), s12 = .pointer (some ⟨g12, 0, none⟩) ∧ s13 = .pointer (some ⟨g13, 0, none⟩) ∧ Blk wx g12 33 #[.bool (decide (s < 0)), .slice A5 (tens s).length c5] ∧ Blk wx g13 33 #[.bool (decide (df < 0)), .slice A6 (tens df).length c6] ∧ Own8 wx 0 A5 c5 (tens s) ∧ Own8 wx 0 A6 c6 (tens df) ∧ Below W3.heap.size W3 wx)
    case first =>
      have HS : Hid (∀ b, Below W3.heap.size W3 b → b.cell? ⟨g10, 0, none⟩ = some (.bool (decide (i < 0))) ∧ b.cell? ⟨g10, 1, none⟩ = some (.slice A3 (tens i).length c3) ∧ b.cell? ⟨g11, 0, none⟩ = some (.bool (decide (j < 0))) ∧ b.cell? ⟨g11, 1, none⟩ = some (.slice A4 (tens j).length c4)) := fun b hb => have h := HF3.out b hb; ⟨h.2.1.1.1, h.2.1.1.2, h.2.2.1.1, h.2.2.1.2⟩
      have HN : Hid (∀ b, Below W3.heap.size W3 b → Nums8 b A3 (tens i) ∧ Nums8 b A4 (tens j)) := fun b hb => have h := HF3.out b hb; ⟨h.2.1.2, h.2.2.2⟩
      clear hneg hsign hcmp HF3 LW3 HLN HTS HTD HSe HDe HTI HTJ
      have L : Below W3.heap.size W3 W3 := Below.refl _ _
      obtain ⟨r0, r1, r2, r3⟩ := HS.out _ L
      go_region_held3 (fun b => b.cell? ⟨g10, 0, none⟩ = some (.bool (decide (i < 0))) ∧ b.cell? ⟨g10, 1, none⟩ = some (.slice A3 (tens i).length c3) ∧ b.cell? ⟨g11, 0, none⟩ = some (.bool (decide (j < 0))) ∧ b.cell? ⟨g11, 1, none⟩ = some (.slice A4 (tens j).length c4))
        (first | (with_reducible exact ⟨r0, r1, r2, r3⟩) | (exact HS.out _ (by repeat (first | with_reducible exact L | with_reducible apply Below.drew | (with_reducible refine Below.alloc ?_ (by have hh := L.size; first | exact hh | (simp only [World.size_alloc, World.size_drew]; omega) | (simp at hh ⊢; omega)) _) | (with_reducible refine Below.setCell ?_ (by have hh := L.size; first | exact hh | (simp only [World.size_alloc, World.size_drew]; omega) | (simp at hh ⊢; omega)) _)))))
        (first
          | (go_at_call_of 32 (Value.agg #[Value.bool (decide (j < 0)), Value.slice A4 (tens j).length c4]); refine (hplus _ (by exact (HN.out _ (by repeat (first | with_reducible exact L | with_reducible apply Below.drew | (with_reducible refine Below.alloc ?_ (by have hh := L.size; first | exact hh | (simp only [World.size_alloc, World.size_drew]; omega) | (simp at hh ⊢; omega)) _) | (with_reducible refine Below.setCell ?_ (by have hh := L.size; first | exact hh | (simp only [World.size_alloc, World.size_drew]; omega) | (simp at hh ⊢; omega)) _)))).1) (by exact (HN.out _ (by repeat (first | with_reducible exact L | with_reducible apply Below.drew | (with_reducible refine Below.alloc ?_ (by have hh := L.size; first | exact hh | (simp only [World.size_alloc, World.size_drew]; omega) | (simp at hh ⊢; omega)) _) | (with_reducible refine Below.setCell ?_ (by have hh := L.size; first | exact hh | (simp only [World.size_alloc, World.size_drew]; omega) | (simp at hh ⊢; omega)) _)))).2)).mono ?_; rintro e wp ⟨A5, c5, rfl, ho5, hbp⟩; have ho5 := ho5.mono (Nat.zero_le _); have L : Below W3.heap.size W3 wp := below_on (b := _) (by repeat (first | with_reducible exact L | with_reducible apply Below.drew | (with_reducible refine Below.alloc ?_ (by have hh := L.size; first | exact hh | (simp only [World.size_alloc, World.size_drew]; omega) | (simp at hh ⊢; omega)) _) | (with_reducible refine Below.setCell ?_ (by have hh := L.size; first | exact hh | (simp only [World.size_alloc, World.size_drew]; omega) | (simp at hh ⊢; omega)) _))) hbp; (try (have ho6 : Own8 wp 0 A6 c6 (tens df) := Own8.below (w := _) (by repeat (first | with_reducible exact ho6 | with_reducible apply Own8.alloc | with_reducible apply Own8.drew)) hbp (Nat.le_refl _))); obtain ⟨hccp, hffp⟩ := bcell hbp; have hssp := hbp.size; (try (simp only [World.size_drew] at hccp hffp hssp)); (try (simp only [World.size_alloc] at hccp hffp hssp)); (try (have hspt := Nat.lt_of_lt_of_le hspt (show _ ≤ wp.heap.size by omega))); (try (have hsqt := Nat.lt_of_lt_of_le hsqt (show _ ≤ wp.heap.size by omega))); (try (have hspq := Nat.lt_of_lt_of_le hspq (show _ ≤ wp.heap.size by omega))); (try (have hsqq := Nat.lt_of_lt_of_le hsqq (show _ ≤ wp.heap.size by omega))); (try (have hspp := Nat.lt_of_succ_le hssp; (try (have hsqp := Nat.lt_of_succ_lt hspp)))); clear r0 r1 r2 r3; obtain ⟨r0, r1, r2, r3⟩ := HS.out _ L)
          | (go_at_call 33; refine (hturn _).mono ?_; rintro e wt ⟨rfl, hbt⟩; have L : Below W3.heap.size W3 wt := below_on (b := _) (by repeat (first | with_reducible exact L | with_reducible apply Below.drew | (with_reducible refine Below.alloc ?_ (by have hh := L.size; first | exact hh | (simp only [World.size_alloc, World.size_drew]; omega) | (simp at hh ⊢; omega)) _) | (with_reducible refine Below.setCell ?_ (by have hh := L.size; first | exact hh | (simp only [World.size_alloc, World.size_drew]; omega) | (simp at hh ⊢; omega)) _))) hbt; (try (have ho5 : Own8 wt 0 A5 c5 (tens s) := Own8.below (w := _) (by repeat (first | with_reducible exact ho5 | with_reducible apply Own8.alloc | with_reducible apply Own8.drew)) hbt (Nat.le_refl _))); (try (have ho6 : Own8 wt 0 A6 c6 (tens df) := Own8.below (w := _) (by repeat (first | with_reducible exact ho6 | with_reducible apply Own8.alloc | with_reducible apply Own8.drew)) hbt (Nat.le_refl _))); obtain ⟨hcct, hfft⟩ := bcell hbt; have hsst := hbt.size; (try (simp only [World.size_drew] at hcct hfft hsst)); (try (simp only [World.size_alloc] at hcct hfft hsst)); (try (have hspp := Nat.lt_of_lt_of_le hspp (show _ ≤ wt.heap.size by omega))); (try (have hsqp := Nat.lt_of_lt_of_le hsqp (show _ ≤ wt.heap.size by omega))); (try (have hspq := Nat.lt_of_lt_of_le hspq (show _ ≤ wt.heap.size by omega))); (try (have hsqq := Nat.lt_of_lt_of_le hsqq (show _ ≤ wt.heap.size by omega))); (try (have hspt := Nat.lt_of_succ_le hsst; (try (have hsqt := Nat.lt_of_succ_lt hspt)))); clear r0 r1 r2 r3; obtain ⟨r0, r1, r2, r3⟩ := HS.out _ L)
          | (go_at_call 32; refine (hplus2 _ (by exact (HN.out _ (by repeat (first | with_reducible exact L | with_reducible apply Below.drew | (with_reducible refine Below.alloc ?_ (by have hh := L.size; first | exact hh | (simp only [World.size_alloc, World.size_drew]; omega) | (simp at hh ⊢; omega)) _) | (with_reducible refine Below.setCell ?_ (by have hh := L.size; first | exact hh | (simp only [World.size_alloc, World.size_drew]; omega) | (simp at hh ⊢; omega)) _)))).1) (by exact (HN.out _ (by repeat (first | with_reducible exact L | with_reducible apply Below.drew | (with_reducible refine Below.alloc ?_ (by have hh := L.size; first | exact hh | (simp only [World.size_alloc, World.size_drew]; omega) | (simp at hh ⊢; omega)) _) | (with_reducible refine Below.setCell ?_ (by have hh := L.size; first | exact hh | (simp only [World.size_alloc, World.size_drew]; omega) | (simp at hh ⊢; omega)) _)))).2)).mono ?_; rintro e wq ⟨A6, c6, rfl, ho6, hbq⟩; have ho6 := ho6.mono (Nat.zero_le _); have L : Below W3.heap.size W3 wq := below_on (b := _) (by repeat (first | with_reducible exact L | with_reducible apply Below.drew | (with_reducible refine Below.alloc ?_ (by have hh := L.size; first | exact hh | (simp only [World.size_alloc, World.size_drew]; omega) | (simp at hh ⊢; omega)) _) | (with_reducible refine Below.setCell ?_ (by have hh := L.size; first | exact hh | (simp only [World.size_alloc, World.size_drew]; omega) | (simp at hh ⊢; omega)) _))) hbq; (try (have ho5 : Own8 wq 0 A5 c5 (tens s) := Own8.below (w := _) (by repeat (first | with_reducible exact ho5 | with_reducible apply Own8.alloc | with_reducible apply Own8.drew)) hbq (Nat.le_refl _))); obtain ⟨hccq, hffq⟩ := bcell hbq; have hssq := hbq.size; (try (simp only [World.size_drew] at hccq hffq hssq)); (try (simp only [World.size_alloc] at hccq hffq hssq)); (try (have hspp := Nat.lt_of_lt_of_le hspp (show _ ≤ wq.heap.size by omega))); (try (have hsqp := Nat.lt_of_lt_of_le hsqp (show _ ≤ wq.heap.size by omega))); (try (have hspt := Nat.lt_of_lt_of_le hspt (show _ ≤ wq.heap.size by omega))); (try (have hsqt := Nat.lt_of_lt_of_le hsqt (show _ ≤ wq.heap.size by omega))); (try (have hspq := Nat.lt_of_succ_le hssq; (try (have hsqq := Nat.lt_of_succ_lt hspq)))); clear r0 r1 r2 r3; obtain ⟨r0, r1, r2, r3⟩ := HS.out _ L))
      all_goals (go_wp2_with fail)
      all_goals go_meet
      all_goals
        refine ⟨_, _, A5, c5, A6, c6, rfl, rfl, ?_, ?_, ?_, ?_, ?_⟩
        all_goals (repeat' (first | with_reducible assumption | with_reducible exact Blk.new _ _ _ | with_reducible exact Blk.new1 _ _ _ _ | (with_reducible refine Blk.newAt ?_; (first | omega | (simp; done) | (simp; omega))) | with_reducible apply Blk.alloc | with_reducible apply Blk.drew | with_reducible refine Blk.set2 (x := .bool false) (y := .slice none 0 0) ?_ _ _ | with_reducible refine Blk.far ?_ ?_ _ | with_reducible refine Blk.below (w := _) ?_ hbp ?_ | with_reducible refine Blk.below (w := _) ?_ hbt ?_ | with_reducible refine Blk.below (w := _) ?_ hbq ?_ | with_reducible apply Own8.alloc | with_reducible apply Own8.drew | with_reducible apply Own.alloc | with_reducible apply Own.drew | with_reducible refine Own8.set2 (x := .bool false) (y := .slice none 0 0) (t := 33) ?_ ?_ ?_ _ _ | with_reducible refine Own.set2 (x := .bool false) (y := .slice none 0 0) (t := 33) ?_ ?_ ?_ _ _ | with_reducible apply Below.drew | with_reducible refine Below.alloc ?_ ?_ _ | with_reducible refine Below.setCell ?_ ?_ _ | omega | (simp; omega) | (simp; done) | decide))
    case rest =>
      obtain ⟨g12, g13, A5, c5, A6, c6, rfl, rfl, Z12, Z13, ho5, ho6, LC⟩ := hcut
      obtain ⟨W4, rfl⟩ : ∃ W4, W4 = wc := ⟨_, rfl⟩
      have HF4 : Hid (Pers W4 (fun b => (((Two w n1 n2 A B c d xs ys b ∧ Box gs 24 (.bool (decide (outV true s < 0))) (.slice As (limbs (outV true s)).length cs) b ∧ Nums b As (limbs (outV true s))) ∧ Box gd 24 (.bool (decide (outV true df < 0))) (.slice Ad (limbs (outV true df)).length cd) b ∧ Nums b Ad (limbs (outV true df))) ∧ (Box g10 33 (.bool (decide (i < 0))) (.slice A3 (tens i).length c3) b ∧ Nums8 b A3 (tens i)) ∧ (Box g11 33 (.bool (decide (j < 0))) (.slice A4 (tens j).length c4) b ∧ Nums8 b A4 (tens j))) ∧ (Box g12 33 (.bool (decide (s < 0))) (.slice A5 (tens s).length c5) b ∧ Nums8 b A5 (tens s)) ∧ (Box g13 33 (.bool (decide (df < 0))) (.slice A6 (tens df).length c6) b ∧ Nums8 b A6 (tens df)))) := (HF3.out.on LC).and (((Pers.box Z12).and (Pers.nums8 ho5.nums)).and ((Pers.box Z13).and (Pers.nums8 ho6.nums)))
      have LW4 : Below w.heap.size w W4 := LW3.trans (LC.mono LW3.size)
      clear L LW3 HF3 Z12 Z13 ho5 ho6 LC hplus hplus2 hturn
      have hciff : (cmpI i j != cmpI i j) = false := by simp
      have hfit := fun A c v w => lfits_any A c v w
      have hiss := fun w hx hy => is_out As A5 cs c5 s w hx hy (by have := HTS.out; omega)
      have hisd := fun w hx hy => is_out Ad A6 cd c6 df w hx hy (by have := HTD.out; omega)
      have hrcmp := fun w hx hy => rcmp_any A3 A4 c3 c4 i j w hx hy (by have := HTI.out; omega) (by have := HTJ.out; omega)
      go_upto_region 10 with fail
      go_cut [107] (fun v wx => v = .bool false ∧ Below W4.heap.size W4 wx)
      case first =>
        have HS : Hid (∀ b, Below W4.heap.size W4 b → b.cell? ⟨w.heap.size, 0, none⟩ = some (.bool n1) ∧ b.cell? ⟨w.heap.size, 1, none⟩ = some (.slice A xs.length c) ∧ b.cell? ⟨w.heap.size + 1, 0, none⟩ = some (.bool n2) ∧ b.cell? ⟨w.heap.size + 1, 1, none⟩ = some (.slice B ys.length d) ∧ b.cell? ⟨gs, 0, none⟩ = some (.bool (decide (outV true s < 0))) ∧ b.cell? ⟨gs, 1, none⟩ = some (.slice As (limbs (outV true s)).length cs) ∧ b.cell? ⟨gd, 0, none⟩ = some (.bool (decide (outV true df < 0))) ∧ b.cell? ⟨gd, 1, none⟩ = some (.slice Ad (limbs (outV true df)).length cd) ∧ b.cell? ⟨g10, 0, none⟩ = some (.bool (decide (i < 0))) ∧ b.cell? ⟨g10, 1, none⟩ = some (.slice A3 (tens i).length c3) ∧ b.cell? ⟨g11, 0, none⟩ = some (.bool (decide (j < 0))) ∧ b.cell? ⟨g11, 1, none⟩ = some (.slice A4 (tens j).length c4) ∧ b.cell? ⟨g12, 0, none⟩ = some (.bool (decide (s < 0))) ∧ b.cell? ⟨g12, 1, none⟩ = some (.slice A5 (tens s).length c5) ∧ b.cell? ⟨g13, 0, none⟩ = some (.bool (decide (df < 0))) ∧ b.cell? ⟨g13, 1, none⟩ = some (.slice A6 (tens df).length c6)) := fun b hb => have h := HF4.out b hb; ⟨h.1.1.1.1.1.1, h.1.1.1.1.1.2.1, h.1.1.1.1.1.2.2.1, h.1.1.1.1.1.2.2.2, h.1.1.1.2.1.1, h.1.1.1.2.1.2, h.1.1.2.1.1, h.1.1.2.1.2, h.1.2.1.1.1, h.1.2.1.1.2, h.1.2.2.1.1, h.1.2.2.1.2, h.2.1.1.1, h.2.1.1.2, h.2.2.1.1, h.2.2.1.2⟩
        have HN : Hid (∀ b, Below W4.heap.size W4 b → Nums b A xs ∧ Nums b B ys ∧ Nums b As (limbs (outV true s)) ∧ Nums b Ad (limbs (outV true df)) ∧ Nums8 b A3 (tens i) ∧ Nums8 b A4 (tens j) ∧ Nums8 b A5 (tens s) ∧ Nums8 b A6 (tens df)) := fun b hb => have h := HF4.out b hb; ⟨h.1.1.1.1.2.1, h.1.1.1.1.2.2, h.1.1.1.2.2, h.1.1.2.2, h.1.2.1.2, h.1.2.2.2, h.2.1.2, h.2.2.2⟩
        clear hneg hsign HF4 LW4 HLN HTS HTD HSe HDe HTI HTJ HTB
        have L : Below W4.heap.size W4 W4 := Below.refl _ _
        obtain ⟨r0, r1, r2, r3, r4, r5, r6, r7, r8, r9, r10, r11, r12, r13, r14, r15⟩ := HS.out _ L
        go_region_held3 (fun b => b.cell? ⟨w.heap.size, 0, none⟩ = some (.bool n1) ∧ b.cell? ⟨w.heap.size, 1, none⟩ = some (.slice A xs.length c) ∧ b.cell? ⟨w.heap.size + 1, 0, none⟩ = some (.bool n2) ∧ b.cell? ⟨w.heap.size + 1, 1, none⟩ = some (.slice B ys.length d) ∧ b.cell? ⟨gs, 0, none⟩ = some (.bool (decide (outV true s < 0))) ∧ b.cell? ⟨gs, 1, none⟩ = some (.slice As (limbs (outV true s)).length cs) ∧ b.cell? ⟨gd, 0, none⟩ = some (.bool (decide (outV true df < 0))) ∧ b.cell? ⟨gd, 1, none⟩ = some (.slice Ad (limbs (outV true df)).length cd) ∧ b.cell? ⟨g10, 0, none⟩ = some (.bool (decide (i < 0))) ∧ b.cell? ⟨g10, 1, none⟩ = some (.slice A3 (tens i).length c3) ∧ b.cell? ⟨g11, 0, none⟩ = some (.bool (decide (j < 0))) ∧ b.cell? ⟨g11, 1, none⟩ = some (.slice A4 (tens j).length c4) ∧ b.cell? ⟨g12, 0, none⟩ = some (.bool (decide (s < 0))) ∧ b.cell? ⟨g12, 1, none⟩ = some (.slice A5 (tens s).length c5) ∧ b.cell? ⟨g13, 0, none⟩ = some (.bool (decide (df < 0))) ∧ b.cell? ⟨g13, 1, none⟩ = some (.slice A6 (tens df).length c6))
          (first | (with_reducible exact ⟨r0, r1, r2, r3, r4, r5, r6, r7, r8, r9, r10, r11, r12, r13, r14, r15⟩) | (exact HS.out _ (by repeat (first | with_reducible exact L | with_reducible apply Below.drew | (with_reducible refine Below.alloc ?_ (by have hh := L.size; first | exact hh | (simp only [World.size_alloc, World.size_drew]; omega) | (simp at hh ⊢; omega)) _) | (with_reducible refine Below.setCell ?_ (by have hh := L.size; first | exact hh | (simp only [World.size_alloc, World.size_drew]; omega) | (simp at hh ⊢; omega)) _)))))
          (first
            | (go_at_call_of 34 (Value.agg #[Value.bool (decide (s < 0)), Value.slice A5 (tens s).length c5]); refine (hfit A5 c5 s _).mono ?_; rintro e w1 ⟨rfl, hb1⟩; have L : Below W4.heap.size W4 w1 := below_on (b := _) (by repeat (first | with_reducible exact L | with_reducible apply Below.drew | (with_reducible refine Below.alloc ?_ (by have hh := L.size; first | exact hh | (simp only [World.size_alloc, World.size_drew]; omega) | (simp at hh ⊢; omega)) _) | (with_reducible refine Below.setCell ?_ (by have hh := L.size; first | exact hh | (simp only [World.size_alloc, World.size_drew]; omega) | (simp at hh ⊢; omega)) _))) hb1; clear hb1; clear r0 r1 r2 r3 r4 r5 r6 r7 r8 r9 r10 r11 r12 r13 r14 r15; obtain ⟨r0, r1, r2, r3, r4, r5, r6, r7, r8, r9, r10, r11, r12, r13, r14, r15⟩ := HS.out _ L)
            | (go_at_call_of 16 (Value.agg #[Value.bool (decide (s < 0)), Value.slice A5 (tens s).length c5]); refine (hiss _ (by exact (HN.out _ (by repeat (first | with_reducible exact L | with_reducible apply Below.drew | (with_reducible refine Below.alloc ?_ (by have hh := L.size; first | exact hh | (simp only [World.size_alloc, World.size_drew]; omega) | (simp at hh ⊢; omega)) _) | (with_reducible refine Below.setCell ?_ (by have hh := L.size; first | exact hh | (simp only [World.size_alloc, World.size_drew]; omega) | (simp at hh ⊢; omega)) _)))).2.2.1) (by exact (HN.out _ (by repeat (first | with_reducible exact L | with_reducible apply Below.drew | (with_reducible refine Below.alloc ?_ (by have hh := L.size; first | exact hh | (simp only [World.size_alloc, World.size_drew]; omega) | (simp at hh ⊢; omega)) _) | (with_reducible refine Below.setCell ?_ (by have hh := L.size; first | exact hh | (simp only [World.size_alloc, World.size_drew]; omega) | (simp at hh ⊢; omega)) _)))).2.2.2.2.2.2.1)).mono ?_; rintro e w1 ⟨rfl, hb1⟩; have L : Below W4.heap.size W4 w1 := below_on (b := _) (by repeat (first | with_reducible exact L | with_reducible apply Below.drew | (with_reducible refine Below.alloc ?_ (by have hh := L.size; first | exact hh | (simp only [World.size_alloc, World.size_drew]; omega) | (simp at hh ⊢; omega)) _) | (with_reducible refine Below.setCell ?_ (by have hh := L.size; first | exact hh | (simp only [World.size_alloc, World.size_drew]; omega) | (simp at hh ⊢; omega)) _))) hb1; clear hb1; clear r0 r1 r2 r3 r4 r5 r6 r7 r8 r9 r10 r11 r12 r13 r14 r15; obtain ⟨r0, r1, r2, r3, r4, r5, r6, r7, r8, r9, r10, r11, r12, r13, r14, r15⟩ := HS.out _ L)
            | (go_at_call 34; refine (hfit A6 c6 df _).mono ?_; rintro e w1 ⟨rfl, hb1⟩; have L : Below W4.heap.size W4 w1 := below_on (b := _) (by repeat (first | with_reducible exact L | with_reducible apply Below.drew | (with_reducible refine Below.alloc ?_ (by have hh := L.size; first | exact hh | (simp only [World.size_alloc, World.size_drew]; omega) | (simp at hh ⊢; omega)) _) | (with_reducible refine Below.setCell ?_ (by have hh := L.size; first | exact hh | (simp only [World.size_alloc, World.size_drew]; omega) | (simp at hh ⊢; omega)) _))) hb1; clear hb1; clear r0 r1 r2 r3 r4 r5 r6 r7 r8 r9 r10 r11 r12 r13 r14 r15; obtain ⟨r0, r1, r2, r3, r4, r5, r6, r7, r8, r9, r10, r11, r12, r13, r14, r15⟩ := HS.out _ L)
            | (go_at_call 16; refine (hisd _ (by exact (HN.out _ (by repeat (first | with_reducible exact L | with_reducible apply Below.drew | (with_reducible refine Below.alloc ?_ (by have hh := L.size; first | exact hh | (simp only [World.size_alloc, World.size_drew]; omega) | (simp at hh ⊢; omega)) _) | (with_reducible refine Below.setCell ?_ (by have hh := L.size; first | exact hh | (simp only [World.size_alloc, World.size_drew]; omega) | (simp at hh ⊢; omega)) _)))).2.2.2.1) (by exact (HN.out _ (by repeat (first | with_reducible exact L | with_reducible apply Below.drew | (with_reducible refine Below.alloc ?_ (by have hh := L.size; first | exact hh | (simp only [World.size_alloc, World.size_drew]; omega) | (simp at hh ⊢; omega)) _) | (with_reducible refine Below.setCell ?_ (by have hh := L.size; first | exact hh | (simp only [World.size_alloc, World.size_drew]; omega) | (simp at hh ⊢; omega)) _)))).2.2.2.2.2.2.2)).mono ?_; rintro e w1 ⟨rfl, hb1⟩; have L : Below W4.heap.size W4 w1 := below_on (b := _) (by repeat (first | with_reducible exact L | with_reducible apply Below.drew | (with_reducible refine Below.alloc ?_ (by have hh := L.size; first | exact hh | (simp only [World.size_alloc, World.size_drew]; omega) | (simp at hh ⊢; omega)) _) | (with_reducible refine Below.setCell ?_ (by have hh := L.size; first | exact hh | (simp only [World.size_alloc, World.size_drew]; omega) | (simp at hh ⊢; omega)) _))) hb1; clear hb1; clear r0 r1 r2 r3 r4 r5 r6 r7 r8 r9 r10 r11 r12 r13 r14 r15; obtain ⟨r0, r1, r2, r3, r4, r5, r6, r7, r8, r9, r10, r11, r12, r13, r14, r15⟩ := HS.out _ L)
            | (go_at_call 29; refine (hcmp _ (by exact (HN.out _ (by repeat (first | with_reducible exact L | with_reducible apply Below.drew | (with_reducible refine Below.alloc ?_ (by have hh := L.size; first | exact hh | (simp only [World.size_alloc, World.size_drew]; omega) | (simp at hh ⊢; omega)) _) | (with_reducible refine Below.setCell ?_ (by have hh := L.size; first | exact hh | (simp only [World.size_alloc, World.size_drew]; omega) | (simp at hh ⊢; omega)) _)))).1) (by exact (HN.out _ (by repeat (first | with_reducible exact L | with_reducible apply Below.drew | (with_reducible refine Below.alloc ?_ (by have hh := L.size; first | exact hh | (simp only [World.size_alloc, World.size_drew]; omega) | (simp at hh ⊢; omega)) _) | (with_reducible refine Below.setCell ?_ (by have hh := L.size; first | exact hh | (simp only [World.size_alloc, World.size_drew]; omega) | (simp at hh ⊢; omega)) _)))).2.1)).mono ?_; rintro e w1 ⟨rfl, hb1⟩; have L : Below W4.heap.size W4 w1 := below_on (b := _) (by repeat (first | with_reducible exact L | with_reducible apply Below.drew | (with_reducible refine Below.alloc ?_ (by have hh := L.size; first | exact hh | (simp only [World.size_alloc, World.size_drew]; omega) | (simp at hh ⊢; omega)) _) | (with_reducible refine Below.setCell ?_ (by have hh := L.size; first | exact hh | (simp only [World.size_alloc, World.size_drew]; omega) | (simp at hh ⊢; omega)) _))) hb1; clear hb1; clear r0 r1 r2 r3 r4 r5 r6 r7 r8 r9 r10 r11 r12 r13 r14 r15; obtain ⟨r0, r1, r2, r3, r4, r5, r6, r7, r8, r9, r10, r11, r12, r13, r14, r15⟩ := HS.out _ L)
            | (go_at_call 35; refine (hrcmp _ (by exact (HN.out _ (by repeat (first | with_reducible exact L | with_reducible apply Below.drew | (with_reducible refine Below.alloc ?_ (by have hh := L.size; first | exact hh | (simp only [World.size_alloc, World.size_drew]; omega) | (simp at hh ⊢; omega)) _) | (with_reducible refine Below.setCell ?_ (by have hh := L.size; first | exact hh | (simp only [World.size_alloc, World.size_drew]; omega) | (simp at hh ⊢; omega)) _)))).2.2.2.2.1) (by exact (HN.out _ (by repeat (first | with_reducible exact L | with_reducible apply Below.drew | (with_reducible refine Below.alloc ?_ (by have hh := L.size; first | exact hh | (simp only [World.size_alloc, World.size_drew]; omega) | (simp at hh ⊢; omega)) _) | (with_reducible refine Below.setCell ?_ (by have hh := L.size; first | exact hh | (simp only [World.size_alloc, World.size_drew]; omega) | (simp at hh ⊢; omega)) _)))).2.2.2.2.2.1)).mono ?_; rintro e w1 ⟨rfl, hb1⟩; have L : Below W4.heap.size W4 w1 := below_on (b := _) (by repeat (first | with_reducible exact L | with_reducible apply Below.drew | (with_reducible refine Below.alloc ?_ (by have hh := L.size; first | exact hh | (simp only [World.size_alloc, World.size_drew]; omega) | (simp at hh ⊢; omega)) _) | (with_reducible refine Below.setCell ?_ (by have hh := L.size; first | exact hh | (simp only [World.size_alloc, World.size_drew]; omega) | (simp at hh ⊢; omega)) _))) hb1; clear hb1; clear r0 r1 r2 r3 r4 r5 r6 r7 r8 r9 r10 r11 r12 r13 r14 r15; obtain ⟨r0, r1, r2, r3, r4, r5, r6, r7, r8, r9, r10, r11, r12, r13, r14, r15⟩ := HS.out _ L))
        all_goals (go_wp2_with fail)
        all_goals go_meet
        all_goals
          exact ⟨rfl, L⟩
      case rest =>
        obtain ⟨rfl, LC⟩ := hcut
        obtain ⟨W5, rfl⟩ : ∃ W5, W5 = wc := ⟨_, rfl⟩
        have HF5 : Hid (Pers W5 (fun b => ((Two w n1 n2 A B c d xs ys b ∧ Box gs 24 (.bool (decide (outV true s < 0))) (.slice As (limbs (outV true s)).length cs) b ∧ Nums b As (limbs (outV true s))) ∧ Box gd 24 (.bool (decide (outV true df < 0))) (.slice Ad (limbs (outV true df)).length cd) b ∧ Nums b Ad (limbs (outV true df))) ∧ (Box g10 33 (.bool (decide (i < 0))) (.slice A3 (tens i).length c3) b ∧ Nums8 b A3 (tens i)) ∧ (Box g11 33 (.bool (decide (j < 0))) (.slice A4 (tens j).length c4) b ∧ Nums8 b A4 (tens j)))) := (fun b hb => (HF4.out.on LC b hb).1)
        have LW5 : Below w.heap.size w W5 := LW4.trans (LC.mono LW4.size)
        clear LW4 HF4 LC hfit hiss hisd hrcmp hcmp hciff
        have hnil8 : ∀ b : World, Nums8 b none [] := fun b => ⟨fun k => by rw [nth_nil]; decide, fun h => absurd h (by decide)⟩
        have hrcmp0 := fun w hx => rcmp_any A3 none c3 0 i 0 w hx (by rw [tens_zero]; exact hnil8 _) (by have := HTI.out; omega) (by rw [tens_zero]; decide)
        rw [tens_zero] at hrcmp0
        have hd0 : decide ((0 : Int) < 0) = false := rfl
        rw [hd0] at hrcmp0
        have hturn := fun w => rturn_any A3 c3 i w (by have := HTI.out; omega)
        unfold RetTurn at hturn
        obtain ⟨tb, htb⟩ : ∃ tb, tb = decide (-i < 0) := ⟨_, rfl⟩
        obtain ⟨ni, hni⟩ : ∃ ni, ni = -i := ⟨_, rfl⟩
        have hto := fun w hx => rto_any A3 c3 (-i) w (by rw [tens_neg]; exact hx) (by rw [tens_neg]; have := HTI.out; omega)
        rw [tens_neg, ← htb, ← hni] at hto
        rw [← htb] at hturn
        rw [← hni] at hneg
        have HTB2 := Lib.hid htb; have HNI := Lib.hid hni
        have hlen : (limbs ni).length ≤ 1048576 := by rw [hni]; have := HLN.out; omega
        have HLL := Lib.hid hlen
        clear htb hni hd0 hlen
        have hcii : (cmpI i 0 == cmpI i 0) = true := by simp
        go_upto_region 12 with fail
        go_cut [4] (fun v wx => v = .bool true ∧ Below W5.heap.size W5 wx)
        case first =>
          have HS : Hid (∀ b, Below W5.heap.size W5 b → b.cell? ⟨w.heap.size, 0, none⟩ = some (.bool n1) ∧ b.cell? ⟨w.heap.size, 1, none⟩ = some (.slice A xs.length c) ∧ b.cell? ⟨g10, 0, none⟩ = some (.bool (decide (i < 0))) ∧ b.cell? ⟨g10, 1, none⟩ = some (.slice A3 (tens i).length c3)) := fun b hb => have h := HF5.out b hb; ⟨h.1.1.1.1.1, h.1.1.1.1.2.1, h.2.1.1.1, h.2.1.1.2⟩
          have HN : Hid (∀ b, Below W5.heap.size W5 b → Nums b A xs ∧ Nums8 b A3 (tens i)) := fun b hb => have h := HF5.out b hb; ⟨h.1.1.1.2.1, h.2.1.2⟩
          clear HF5 LW5 HLN HTS HTD HSe HDe HTI HTJ HTB HTB2 HNI
          have L : Below W5.heap.size W5 W5 := Below.refl _ _
          obtain ⟨r0, r1, r2, r3⟩ := HS.out _ L
          go_region_held3 (fun b => b.cell? ⟨w.heap.size, 0, none⟩ = some (.bool n1) ∧ b.cell? ⟨w.heap.size, 1, none⟩ = some (.slice A xs.length c) ∧ b.cell? ⟨g10, 0, none⟩ = some (.bool (decide (i < 0))) ∧ b.cell? ⟨g10, 1, none⟩ = some (.slice A3 (tens i).length c3))
            (first | (with_reducible exact ⟨r0, r1, r2, r3⟩) | (exact HS.out _ (by repeat (first | with_reducible exact L | with_reducible apply Below.drew | (with_reducible refine Below.alloc ?_ (by have hh := L.size; first | exact hh | (simp only [World.size_alloc, World.size_drew]; omega) | (simp at hh ⊢; omega)) _) | (with_reducible refine Below.setCell ?_ (by have hh := L.size; first | exact hh | (simp only [World.size_alloc, World.size_drew]; omega) | (simp at hh ⊢; omega)) _)))))
            (first
              | (go_at_call 30; refine (hsign _ (by exact (HN.out _ (by repeat (first | with_reducible exact L | with_reducible apply Below.drew | (with_reducible refine Below.alloc ?_ (by have hh := L.size; first | exact hh | (simp only [World.size_alloc, World.size_drew]; omega) | (simp at hh ⊢; omega)) _) | (with_reducible refine Below.setCell ?_ (by have hh := L.size; first | exact hh | (simp only [World.size_alloc, World.size_drew]; omega) | (simp at hh ⊢; omega)) _)))).1)).mono ?_; rintro e w1 ⟨rfl, hb1⟩; have L : Below W5.heap.size W5 w1 := below_on (b := _) (by repeat (first | with_reducible exact L | with_reducible apply Below.drew | (with_reducible refine Below.alloc ?_ (by have hh := L.size; first | exact hh | (simp only [World.size_alloc, World.size_drew]; omega) | (simp at hh ⊢; omega)) _) | (with_reducible refine Below.setCell ?_ (by have hh := L.size; first | exact hh | (simp only [World.size_alloc, World.size_drew]; omega) | (simp at hh ⊢; omega)) _))) hb1; (try (have hn1 : Own w1 0 An cn (limbs ni) := Own.below (w := _) (by repeat (first | with_reducible exact hn1 | with_reducible apply Own.alloc | with_reducible apply Own.drew)) hb1 (Nat.le_refl _))); (try (have hn2 : Own w1 0 Am cm (limbs ni) := Own.below (w := _) (by repeat (first | with_reducible exact hn2 | with_reducible apply Own.alloc | with_reducible apply Own.drew)) hb1 (Nat.le_refl _))); clear hb1; clear r0 r1 r2 r3; obtain ⟨r0, r1, r2, r3⟩ := HS.out _ L)
              | (go_at_call 35; refine (hrcmp0 _ (by exact (HN.out _ (by repeat (first | with_reducible exact L | with_reducible apply Below.drew | (with_reducible refine Below.alloc ?_ (by have hh := L.size; first | exact hh | (simp only [World.size_alloc, World.size_drew]; omega) | (simp at hh ⊢; omega)) _) | (with_reducible refine Below.setCell ?_ (by have hh := L.size; first | exact hh | (simp only [World.size_alloc, World.size_drew]; omega) | (simp at hh ⊢; omega)) _)))).2)).mono ?_; rintro e w1 ⟨rfl, hb1⟩; have L : Below W5.heap.size W5 w1 := below_on (b := _) (by repeat (first | with_reducible exact L | with_reducible apply Below.drew | (with_reducible refine Below.alloc ?_ (by have hh := L.size; first | exact hh | (simp only [World.size_alloc, World.size_drew]; omega) | (simp at hh ⊢; omega)) _) | (with_reducible refine Below.setCell ?_ (by have hh := L.size; first | exact hh | (simp only [World.size_alloc, World.size_drew]; omega) | (simp at hh ⊢; omega)) _))) hb1; (try (have hn1 : Own w1 0 An cn (limbs ni) := Own.below (w := _) (by repeat (first | with_reducible exact hn1 | with_reducible apply Own.alloc | with_reducible apply Own.drew)) hb1 (Nat.le_refl _))); (try (have hn2 : Own w1 0 Am cm (limbs ni) := Own.below (w := _) (by repeat (first | with_reducible exact hn2 | with_reducible apply Own.alloc | with_reducible apply Own.drew)) hb1 (Nat.le_refl _))); clear hb1; clear r0 r1 r2 r3; obtain ⟨r0, r1, r2, r3⟩ := HS.out _ L)
              | (go_at_call 31; refine (hneg _ (by exact (HN.out _ (by repeat (first | with_reducible exact L | with_reducible apply Below.drew | (with_reducible refine Below.alloc ?_ (by have hh := L.size; first | exact hh | (simp only [World.size_alloc, World.size_drew]; omega) | (simp at hh ⊢; omega)) _) | (with_reducible refine Below.setCell ?_ (by have hh := L.size; first | exact hh | (simp only [World.size_alloc, World.size_drew]; omega) | (simp at hh ⊢; omega)) _)))).1)).mono ?_; rintro e w1 ⟨An, cn, rfl, hn1, hb1⟩; have hn1 := hn1.mono (Nat.zero_le _); have L : Below W5.heap.size W5 w1 := below_on (b := _) (by repeat (first | with_reducible exact L | with_reducible apply Below.drew | (with_reducible refine Below.alloc ?_ (by have hh := L.size; first | exact hh | (simp only [World.size_alloc, World.size_drew]; omega) | (simp at hh ⊢; omega)) _) | (with_reducible refine Below.setCell ?_ (by have hh := L.size; first | exact hh | (simp only [World.size_alloc, World.size_drew]; omega) | (simp at hh ⊢; omega)) _))) hb1; (try (have hn2 : Own w1 0 Am cm (limbs ni) := Own.below (w := _) (by repeat (first | with_reducible exact hn2 | with_reducible apply Own.alloc | with_reducible apply Own.drew)) hb1 (Nat.le_refl _))); clear hb1; clear r0 r1 r2 r3; obtain ⟨r0, r1, r2, r3⟩ := HS.out _ L)
              | (go_at_call 33; refine (hturn _).mono ?_; rintro e w1 ⟨rfl, hb1⟩; have L : Below W5.heap.size W5 w1 := below_on (b := _) (by repeat (first | with_reducible exact L | with_reducible apply Below.drew | (with_reducible refine Below.alloc ?_ (by have hh := L.size; first | exact hh | (simp only [World.size_alloc, World.size_drew]; omega) | (simp at hh ⊢; omega)) _) | (with_reducible refine Below.setCell ?_ (by have hh := L.size; first | exact hh | (simp only [World.size_alloc, World.size_drew]; omega) | (simp at hh ⊢; omega)) _))) hb1; (try (have hn1 : Own w1 0 An cn (limbs ni) := Own.below (w := _) (by repeat (first | with_reducible exact hn1 | with_reducible apply Own.alloc | with_reducible apply Own.drew)) hb1 (Nat.le_refl _))); (try (have hn2 : Own w1 0 Am cm (limbs ni) := Own.below (w := _) (by repeat (first | with_reducible exact hn2 | with_reducible apply Own.alloc | with_reducible apply Own.drew)) hb1 (Nat.le_refl _))); clear hb1; clear r0 r1 r2 r3; obtain ⟨r0, r1, r2, r3⟩ := HS.out _ L)
              | (go_at_call 23; refine (hto _ (by exact (HN.out _ (by repeat (first | with_reducible exact L | with_reducible apply Below.drew | (with_reducible refine Below.alloc ?_ (by have hh := L.size; first | exact hh | (simp only [World.size_alloc, World.size_drew]; omega) | (simp at hh ⊢; omega)) _) | (with_reducible refine Below.setCell ?_ (by have hh := L.size; first | exact hh | (simp only [World.size_alloc, World.size_drew]; omega) | (simp at hh ⊢; omega)) _)))).2)).mono ?_; rintro e w1 ⟨Am, cm, rfl, hn2, hb1⟩; have hn2 := hn2.mono (Nat.zero_le _); have L : Below W5.heap.size W5 w1 := below_on (b := _) (by repeat (first | with_reducible exact L | with_reducible apply Below.drew | (with_reducible refine Below.alloc ?_ (by have hh := L.size; first | exact hh | (simp only [World.size_alloc, World.size_drew]; omega) | (simp at hh ⊢; omega)) _) | (with_reducible refine Below.setCell ?_ (by have hh := L.size; first | exact hh | (simp only [World.size_alloc, World.size_drew]; omega) | (simp at hh ⊢; omega)) _))) hb1; (try (have hn1 : Own w1 0 An cn (limbs ni) := Own.below (w := _) (by repeat (first | with_reducible exact hn1 | with_reducible apply Own.alloc | with_reducible apply Own.drew)) hb1 (Nat.le_refl _))); clear hb1; clear r0 r1 r2 r3; obtain ⟨r0, r1, r2, r3⟩ := HS.out _ L)
              | (go_at_call 21; refine (rsame_self An Am cn cm _ (limbs ni) _ hn1.nums hn2.nums HLL.out).mono ?_; rintro e w1 ⟨rfl, hb1⟩; have L : Below W5.heap.size W5 w1 := below_on (b := _) (by repeat (first | with_reducible exact L | with_reducible apply Below.drew | (with_reducible refine Below.alloc ?_ (by have hh := L.size; first | exact hh | (simp only [World.size_alloc, World.size_drew]; omega) | (simp at hh ⊢; omega)) _) | (with_reducible refine Below.setCell ?_ (by have hh := L.size; first | exact hh | (simp only [World.size_alloc, World.size_drew]; omega) | (simp at hh ⊢; omega)) _))) hb1; (try (have hn1 : Own w1 0 An cn (limbs ni) := Own.below (w := _) (by repeat (first | with_reducible exact hn1 | with_reducible apply Own.alloc | with_reducible apply Own.drew)) hb1 (Nat.le_refl _))); (try (have hn2 : Own w1 0 Am cm (limbs ni) := Own.below (w := _) (by repeat (first | with_reducible exact hn2 | with_reducible apply Own.alloc | with_reducible apply Own.drew)) hb1 (Nat.le_refl _))); clear hb1; clear r0 r1 r2 r3; obtain ⟨r0, r1, r2, r3⟩ := HS.out _ L))
          all_goals (go_wp2_with fail)
          all_goals go_meet
          all_goals
            exact ⟨rfl, L⟩
        case rest =>
          obtain ⟨rfl, LC⟩ := hcut
          go_wp2_with fail
          go_ret
          exact ⟨rfl, LW5.trans (LC.mono LW5.size)⟩
end
/-- WholeSums answers true at every two numbers. -/
theorem sums_law (n1 : Bool) (A : Option Addr) (c : Nat) (xs : List Nat) (n2 : Bool) (B : Option Addr) (d : Nat) (ys : List Nat) (w : World) (hx : Nums w A xs) (hl : xs.length ≤ 9223372036854775807) (hy : Nums w B ys) (hl' : ys.length ≤ 9223372036854775807) :
    Calls Tryd.prog 5 #[.agg #[.bool n1, .slice A xs.length c], .agg #[.bool n2, .slice B ys.length d]] w fun e w' => e = .returned (.bool true) ∧ Below w.heap.size w w' := by
  cases hok : (goodB n1 xs && goodB n2 ys)
  · exact sums_bad n1 n2 A B c d xs ys w hx hy hl hl' hok
  · obtain ⟨hg, hk⟩ := Bool.and_eq_true_iff.1 hok
    exact sums_good n1 n2 A B c d xs ys w hx hy hl hl' hg hk
end Go.Proofs.YteggjfmcpodepaaDoor

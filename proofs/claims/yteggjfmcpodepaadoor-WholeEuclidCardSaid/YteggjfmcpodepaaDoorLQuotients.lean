/- The walk of the law WholeQuotients. -/
import Derived.Test.YteggjfmcpodepaaDoorPers
import Derived.Test.YteggjfmcpodepaaDoorRDivMod
import Derived.Test.YteggjfmcpodepaaDoorWDivBad
namespace Go.Proofs.YteggjfmcpodepaaDoor
open Go.RowKit
/-- What a call leaves that answers two noughts. -/
def RetTwoNought (W : World) (f : Int) (e : Ending) (w' : World) : Prop :=
  ∃ A c B d, e = .returned (.tuple #[.agg #[.bool false, .slice A 0 c], .agg #[.bool false, .slice B 0 d], .int .i64 f]) ∧ Nums w' A [] ∧ Nums w' B [] ∧ Below W.heap.size W w'
theorem retTwo_nought {W w' : World} {f : Int} {e : Ending} (h : RetTwo W 0 0 f e w') : RetTwoNought W f e w' := by
  obtain ⟨A, c, B, d, rfl, h1, h2, hb, _⟩ := h
  rw [limbs_zero] at h1 h2 ⊢
  exact ⟨A, c, B, d, rfl, h1.nums, h2.nums, hb⟩
/-- The same as RetTwo, without the word that the two are apart. -/
def RetTwo4 (W : World) (i j : Int) (f : Int) (e : Ending) (w' : World) : Prop :=
  ∃ A c B d, e = .returned (.tuple #[.agg #[.bool (decide (i < 0)), .slice A (limbs i).length c], .agg #[.bool (decide (j < 0)), .slice B (limbs j).length d], .int .i64 f]) ∧ Own w' W.heap.size A c (limbs i) ∧ Own w' W.heap.size B d (limbs j) ∧ Below W.heap.size W w'
theorem retTwo_four {W w' : World} {i j f : Int} {e : Ending} (h : RetTwo W i j f e w') : RetTwo4 W i j f e w' := by
  obtain ⟨A, c, B, d, he, h1, h2, hb, _⟩ := h
  exact ⟨A, c, B, d, he, h1, h2, hb⟩
theorem dq_lt {n1 n2 : Bool} {X Y : Nat} (hX : X < B18 ^ 30) (hY : 0 < Y) : (dq n1 n2 X Y).natAbs < B18 ^ 31 := by
  have e : B18 ^ 31 = B18 ^ 30 * B18 := rfl
  have h2 : B18 ^ 30 * 2 ≤ B18 ^ 30 * B18 := Nat.mul_le_mul_left _ (by unfold B18; omega)
  have h3 : X / Y ≤ X := Nat.div_le_self _ _
  unfold dq
  generalize X / Y = Z at *
  by_cases h1 : n1 = n2
  · rw [if_pos h1, Int.natAbs_natCast]; omega
  · rw [if_neg h1]
    by_cases h4 : X % Y = 0
    · rw [if_pos h4, Int.natAbs_neg, Int.natAbs_natCast]; omega
    · rw [if_neg h4, Int.natAbs_neg, Int.natAbs_natCast]; omega
theorem dr_lt {n1 n2 : Bool} {X Y : Nat} (hY : Y < B18 ^ 30) (hY0 : 0 < Y) : (dr n1 n2 X Y).natAbs < B18 ^ 30 := by
  have h3 : X % Y < Y := Nat.mod_lt _ hY0
  unfold dr
  split
  · rw [sgn_natAbs]; omega
  · split
    · exact Nat.pow_pos (by unfold B18; omega)
    · rw [sgn_natAbs]; omega
theorem limbs_31 {i : Int} (h : i.natAbs < B18 ^ 31) : (limbs i).length ≤ 31 := by
  rw [limbs_eq]; exact (digs_length_le B18_two _ _).2 h
theorem tens_31 {i : Int} (h : i.natAbs < B18 ^ 31) : (tens i).length ≤ 600 := by have := tens_len_of h; omega
theorem divmod_form (A B : Option Addr) (c d : Nat) (xs ys : List Nat) (w : World) (n1 n2 : Bool) (hx : Nums w A xs) (hy : Nums w B ys) (hl : xs.length ≤ 9223372036854775807) (hl' : ys.length ≤ 9223372036854775807) (hok : (goodB n1 xs && goodB n2 ys) = false) :
    Calls Tryd.prog 14 #[.agg #[.bool n1, .slice A xs.length c], .agg #[.bool n2, .slice B ys.length d]] w (RetTwo w 0 0 3) := by
  cases hg : goodB n1 xs
  · exact divmod_bad_x A B c d xs ys w n1 n2 hx hl hg
  · rw [hg, Bool.true_and] at hok
    exact divmod_bad_y A B c d xs ys w n1 n2 hx hy hl' hg hok
section
variable (n1 n2 : Bool) (A B : Option Addr) (c d : Nat) (xs ys : List Nat) (w : World)
set_option maxRecDepth 100000
set_option maxHeartbeats 4000000 in
theorem quotients_bad (hx : Nums w A xs) (hy : Nums w B ys) (hl : xs.length ≤ 9223372036854775807) (hl' : ys.length ≤ 9223372036854775807) (hok : (goodB n1 xs && goodB n2 ys) = false) :
    Calls Tryd.prog 3 #[.agg #[.bool n1, .slice A xs.length c], .agg #[.bool n2, .slice B ys.length d]] w (LawTrue w) := by
  obtain ⟨W0, hW0⟩ : ∃ W0, W0 = two w n1 n2 A B c d xs ys := ⟨_, rfl⟩
  have LW : Below w.heap.size w W0 := by rw [hW0]; exact two_below ..
  have HF0 : Hid (Pers W0 (Two w n1 n2 A B c d xs ys)) := fun b1 hb => by rw [hW0] at hb; exact two_since hx hy hb
  have hform := fun w hx hy => lform_any n1 n2 A B c d xs ys w hx hy hl hl'
  have hfo : formE (goodB n1 xs) (goodB n2 ys) = 3 := by unfold formE; rw [hok]; rfl
  rw [hfo] at hform
  have hdm := fun w hx hy => (divmod_form A B c d xs ys w n1 n2 hx hy hl hl' hok).mono fun e w' h => retTwo_nought h
  clear hfo hok hl hl'
  clear hx hy
  unfold two at hW0
  go_enter Tryd.func3, Tryd.ntmps3
  go_upto_region 1 with fail
  rw [← hW0]
  clear hW0
  have L : Below W0.heap.size W0 W0 := Below.refl _ _
  go_wp2_with (go_at_call 13; refine (known_any _).mono ?_; rintro e w1 ⟨rfl, hb⟩; have L := below_on L hb; clear hb; refine Hid.out ?_)
  refine Lib.hid ?_
  obtain ⟨⟨x0, x1, y0, y1⟩, hx, hy⟩ := HF0.out _ L
  go_wp2_with (go_at_call 14; refine (hdm _ hx hy).mono ?_; rintro e w1 ⟨As, cs, Ad, cd, rfl, ns, nd, hb⟩; have L := below_on L hb; clear x0 x1 y0 y1 hx hy hb; refine Hid.out ?_)
  refine Lib.hid ?_
  go_upto_region 4 with fail
  obtain ⟨W1, hW1⟩ : ∃ W1, W1 = (w1.alloc (.cells #[.bool false, .slice As 0 cs] 24)).alloc (.cells #[.bool false, .slice Ad 0 cd] 24) := ⟨_, rfl⟩
  obtain ⟨gs, hgs⟩ : ∃ gs, gs = w1.heap.size := ⟨_, rfl⟩
  have HF1 : Hid (Pers W1 (fun b => Two w n1 n2 A B c d xs ys b ∧ (Box gs 24 (.bool false) (.slice As 0 cs) b ∧ Nums b As []) ∧ Box (gs + 1) 24 (.bool false) (.slice Ad 0 cd) b ∧ Nums b Ad [])) := by
    have k1 : Below w1.heap.size w1 W1 := by rw [hW1]; exact ((Below.refl _ _).alloc (Nat.le_refl _) _).alloc (by simp) _
    have k2 : Blk W1 gs 24 #[.bool false, .slice As 0 cs] := by rw [hW1, hgs]; exact Blk.first _ _ _ _
    have k3 : Blk W1 (gs + 1) 24 #[.bool false, .slice Ad 0 cd] := by rw [hW1, hgs]; exact Blk.new1 _ _ _ _
    exact (HF0.out.on (below_on L k1)).and (((Pers.box k2).and (Pers.nums (ns.since k1))).and ((Pers.box k3).and (Pers.nums (nd.since k1))))
  have LW1 : Below w.heap.size w W1 := by rw [hW1]; exact ((LW.trans (L.mono LW.size)).alloc (Nat.le_trans LW.size L.size) _).alloc (by simp; exact Nat.le_succ_of_le (Nat.le_trans LW.size L.size)) _
  rw [← hW1, ← hgs]
  clear hW1 hgs HF0 L LW ns nd hdm
  have L : Below W1.heap.size W1 W1 := Below.refl _ _
  obtain ⟨⟨⟨x0, x1, y0, y1⟩, hx, hy⟩, ⟨⟨s0, s1⟩, ns⟩, ⟨d0, d1⟩, nd⟩ := HF1.out _ L
  go_wp2_with (go_at_call 15; refine (hform _ hx hy).mono ?_; rintro e w1 ⟨rfl, hb⟩; have L := below_on L hb; clear x0 x1 y0 y1 hx hy s0 s1 ns d0 d1 nd hb; refine Hid.out ?_)
  refine Lib.hid ?_
  clear hform
  obtain ⟨⟨⟨x0, x1, y0, y1⟩, hx, hy⟩, ⟨⟨s0, s1⟩, ns⟩, ⟨d0, d1⟩, nd⟩ := HF1.out _ L
  have his := fun A c w => is_err A none c 0 false 0 3 w (by simp)
  go_wp2_with (go_at_call 16; refine (his As cs _).mono ?_; rintro e w1 ⟨rfl, hb⟩; have L := below_on L hb; clear x0 x1 y0 y1 hx hy s0 s1 ns d0 d1 nd hb; refine Hid.out ?_)
  refine Lib.hid ?_
  obtain ⟨⟨⟨x0, x1, y0, y1⟩, hx, hy⟩, ⟨⟨s0, s1⟩, ns⟩, ⟨d0, d1⟩, nd⟩ := HF1.out _ L
  go_wp2_with (go_at_call 16; refine (his Ad cd _).mono ?_; rintro e w1 ⟨rfl, hb⟩; have L := below_on L hb; clear hb)
  go_ret
  exact ⟨rfl, LW1.trans (L.mono LW1.size)⟩
set_option maxHeartbeats 4000000 in
theorem quotients_zero (hx : Nums w A xs) (hy : Nums w B ys) (hl : xs.length ≤ 9223372036854775807) (hl' : ys.length ≤ 9223372036854775807) (hg : goodB n1 xs = true) (hk : goodB n2 ys = true) (h0 : ys.length = 0) :
    Calls Tryd.prog 3 #[.agg #[.bool n1, .slice A xs.length c], .agg #[.bool n2, .slice B ys.length d]] w (LawTrue w) := by
  obtain ⟨W0, hW0⟩ : ∃ W0, W0 = two w n1 n2 A B c d xs ys := ⟨_, rfl⟩
  have LW : Below w.heap.size w W0 := by rw [hW0]; exact two_below ..
  have HF0 : Hid (Pers W0 (Two w n1 n2 A B c d xs ys)) := fun b1 hb => by rw [hW0] at hb; exact two_since hx hy hb
  have hform := fun w hx hy => lform_any n1 n2 A B c d xs ys w hx hy hl hl'
  rw [hg, hk] at hform
  have hfo : formE true true = 0 := rfl
  rw [hfo] at hform
  have hdm := fun w hx hy => (divmod_zero A B c d xs ys w n1 n2 hx hy hg hk h0).mono fun e w' h => retTwo_nought h
  have H0 := Lib.hid h0
  clear hfo hg hk h0 hl hl'
  clear hx hy
  unfold two at hW0
  go_enter Tryd.func3, Tryd.ntmps3
  go_upto_region 1 with fail
  rw [← hW0]
  clear hW0
  have L : Below W0.heap.size W0 W0 := Below.refl _ _
  go_wp2_with (go_at_call 13; refine (known_any _).mono ?_; rintro e w1 ⟨rfl, hb⟩; have L := below_on L hb; clear hb; refine Hid.out ?_)
  refine Lib.hid ?_
  obtain ⟨⟨x0, x1, y0, y1⟩, hx, hy⟩ := HF0.out _ L
  go_wp2_with (go_at_call 14; refine (hdm _ hx hy).mono ?_; rintro e w1 ⟨As, cs, Ad, cd, rfl, ns, nd, hb⟩; have L := below_on L hb; clear x0 x1 y0 y1 hx hy hb; refine Hid.out ?_)
  refine Lib.hid ?_
  go_upto_region 4 with fail
  obtain ⟨W1, hW1⟩ : ∃ W1, W1 = (w1.alloc (.cells #[.bool false, .slice As 0 cs] 24)).alloc (.cells #[.bool false, .slice Ad 0 cd] 24) := ⟨_, rfl⟩
  obtain ⟨gs, hgs⟩ : ∃ gs, gs = w1.heap.size := ⟨_, rfl⟩
  have HF1 : Hid (Pers W1 (fun b => Two w n1 n2 A B c d xs ys b ∧ (Box gs 24 (.bool false) (.slice As 0 cs) b ∧ Nums b As []) ∧ Box (gs + 1) 24 (.bool false) (.slice Ad 0 cd) b ∧ Nums b Ad [])) := by
    have k1 : Below w1.heap.size w1 W1 := by rw [hW1]; exact ((Below.refl _ _).alloc (Nat.le_refl _) _).alloc (by simp) _
    have k2 : Blk W1 gs 24 #[.bool false, .slice As 0 cs] := by rw [hW1, hgs]; exact Blk.first _ _ _ _
    have k3 : Blk W1 (gs + 1) 24 #[.bool false, .slice Ad 0 cd] := by rw [hW1, hgs]; exact Blk.new1 _ _ _ _
    exact (HF0.out.on (below_on L k1)).and (((Pers.box k2).and (Pers.nums (ns.since k1))).and ((Pers.box k3).and (Pers.nums (nd.since k1))))
  have LW1 : Below w.heap.size w W1 := by rw [hW1]; exact ((LW.trans (L.mono LW.size)).alloc (Nat.le_trans LW.size L.size) _).alloc (by simp; exact Nat.le_succ_of_le (Nat.le_trans LW.size L.size)) _
  rw [← hW1, ← hgs]
  clear hW1 hgs HF0 L LW ns nd hdm
  have L : Below W1.heap.size W1 W1 := Below.refl _ _
  obtain ⟨⟨⟨x0, x1, y0, y1⟩, hx, hy⟩, ⟨⟨s0, s1⟩, ns⟩, ⟨d0, d1⟩, nd⟩ := HF1.out _ L
  go_wp2_with (go_at_call 15; refine (hform _ hx hy).mono ?_; rintro e w1 ⟨rfl, hb⟩; have L := below_on L hb; clear x0 x1 y0 y1 hx hy s0 s1 ns d0 d1 nd hb; refine Hid.out ?_)
  refine Lib.hid ?_
  clear hform
  obtain ⟨⟨⟨x0, x1, y0, y1⟩, hx, hy⟩, ⟨⟨s0, s1⟩, ns⟩, ⟨d0, d1⟩, nd⟩ := HF1.out _ L
  rw [H0.out] at y1
  have h00 : (((0 : Nat) : Int) == 0) = true := rfl
  have his := fun A c w => is_err A none c 0 false 0 6 w (by simp)
  go_wp2_with (go_at_call 16; refine (his As cs _).mono ?_; rintro e w1 ⟨rfl, hb⟩; have L := below_on L hb; clear x0 x1 y0 y1 hx hy s0 s1 ns d0 d1 nd hb; refine Hid.out ?_)
  refine Lib.hid ?_
  obtain ⟨⟨⟨x0, x1, y0, y1⟩, hx, hy⟩, ⟨⟨s0, s1⟩, ns⟩, ⟨d0, d1⟩, nd⟩ := HF1.out _ L
  go_wp2_with (go_at_call 16; refine (his Ad cd _).mono ?_; rintro e w1 ⟨rfl, hb⟩; have L := below_on L hb; clear hb)
  go_ret
  exact ⟨rfl, LW1.trans (L.mono LW1.size)⟩
set_option maxHeartbeats 4000000 in
theorem quotients_good (hx : Nums w A xs) (hy : Nums w B ys) (hl : xs.length ≤ 9223372036854775807) (hl' : ys.length ≤ 9223372036854775807) (hg : goodB n1 xs = true) (hk : goodB n2 ys = true) (h0 : 0 < ys.length) :
    Calls Tryd.prog 3 #[.agg #[.bool n1, .slice A xs.length c], .agg #[.bool n2, .slice B ys.length d]] w (LawTrue w) := by
  obtain ⟨W0, hW0⟩ : ∃ W0, W0 = two w n1 n2 A B c d xs ys := ⟨_, rfl⟩
  have LW : Below w.heap.size w W0 := by rw [hW0]; exact two_below ..
  have HF0 : Hid (Pers W0 (Two w n1 n2 A B c d xs ys)) := fun b1 hb => by rw [hW0] at hb; exact two_since hx hy hb
  have hform := fun w hx hy => lform_any n1 n2 A B c d xs ys w hx hy hl hl'
  rw [hg, hk] at hform
  have hfo : formE true true = 0 := rfl
  rw [hfo] at hform
  have hofx := fun w hx => rof_any n1 A c xs w hx hg
  have hofy := fun w hy => rof_any n2 B d ys w hy hk
  have hni := num_lt hg
  have hnj := num_lt hk
  have hdm := fun w hx hy => divmod_ok A B c d xs ys w n1 n2 hx hy hg hk h0
  have hn1 := neg_num hg
  have hn2 := neg_num hk
  have hv1 := num_natAbs n1 xs
  have hv2 := num_natAbs n2 ys
  have hj0 : num n2 ys ≠ 0 := fun e => by rw [e] at hv2; exact absurd ((val_zero_iff hk).1 (by omega)) (by omega)
  have HTI := Lib.hid (tens_length hni)
  have HTJ := Lib.hid (tens_length hnj)
  have hqb := dq_lt (n1 := n1) (n2 := n2) (X := val B18 xs) (Y := val B18 ys) (by rw [← hv1]; exact hni) (by rw [← hv2]; omega)
  have hrb := dr_lt (n1 := n1) (n2 := n2) (X := val B18 xs) (Y := val B18 ys) (by rw [← hv2]; exact hnj) (by rw [← hv2]; omega)
  have hrdm := fun A B c d w hx hy => rdivmod_any A B c d (num n1 xs) (num n2 ys) w hx hy (by have := HTI.out; omega) (by have := HTJ.out; omega) hj0
  have hde1 : dq (decide (num n1 xs < 0)) (decide (num n2 ys < 0)) (num n1 xs).natAbs (num n2 ys).natAbs = dq n1 n2 (val B18 xs) (val B18 ys) := by rw [hn1, hn2, hv1, hv2]
  have hde2 : dr (decide (num n1 xs < 0)) (decide (num n2 ys < 0)) (num n1 xs).natAbs (num n2 ys).natAbs = dr n1 n2 (val B18 xs) (val B18 ys) := by rw [hn1, hn2, hv1, hv2]
  rw [hde1, hde2] at hrdm
  clear hde1 hde2
  obtain ⟨i, hi⟩ : ∃ i, i = num n1 xs := ⟨_, rfl⟩
  obtain ⟨j, hj⟩ : ∃ j, j = num n2 ys := ⟨_, rfl⟩
  rw [← hi] at hofx HTI hn1
  rw [← hj] at hofy HTJ hn2
  rw [← hi, ← hj] at hrdm
  obtain ⟨q, hq⟩ : ∃ q, q = dq n1 n2 (val B18 xs) (val B18 ys) := ⟨_, rfl⟩
  obtain ⟨r, hr⟩ : ∃ r, r = dr n1 n2 (val B18 xs) (val B18 ys) := ⟨_, rfl⟩
  rw [← hq, ← hr] at hdm hrdm
  rw [← hq] at hqb
  rw [← hr] at hrb
  have hdm := fun w hx hy => (hdm w hx hy).mono fun e w' h => retTwo_four h
  have HLQ := Lib.hid (limbs_31 hqb); have HLR := Lib.hid (limbs_length hrb)
  have HTQ := Lib.hid (tens_31 hqb); have HTR := Lib.hid (tens_length hrb)
  have H0 : Hid (((ys.length : Int) == 0) = false) := by show _ = _; exact beq_eq_false_iff_ne.2 (by omega)
  have HN1 := Lib.hid hn1; have HN2 := Lib.hid hn2
  clear hq hr hi hj hfo hni hnj hg hk hl hl' h0 hj0 hv1 hv2 hn1 hn2 hqb hrb
  clear hx hy
  unfold two at hW0
  go_enter Tryd.func3, Tryd.ntmps3
  go_upto_region 1 with fail
  rw [← hW0]
  clear hW0
  have L : Below W0.heap.size W0 W0 := Below.refl _ _
  go_wp2_with (go_at_call 13; refine (known_any _).mono ?_; rintro e w1 ⟨rfl, hb⟩; have L := below_on L hb; clear hb; refine Hid.out ?_)
  refine Lib.hid ?_
  obtain ⟨⟨x0, x1, y0, y1⟩, hx, hy⟩ := HF0.out _ L
  go_wp2_with (go_at_call 14; refine (hdm _ hx hy).mono ?_; rintro e w1 ⟨As, cs, Ad, cd, rfl, hos, hod, hb⟩; have L := below_on L hb; clear x0 x1 y0 y1 hx hy hb; refine Hid.out ?_)
  refine Lib.hid ?_
  go_upto_region 4 with fail
  obtain ⟨W1, hW1⟩ : ∃ W1, W1 = (w1.alloc (.cells #[.bool (decide (q < 0)), .slice As (limbs q).length cs] 24)).alloc (.cells #[.bool (decide (r < 0)), .slice Ad (limbs r).length cd] 24) := ⟨_, rfl⟩
  obtain ⟨gs, hgs⟩ : ∃ gs, gs = w1.heap.size := ⟨_, rfl⟩
  have HF1 : Hid (Pers W1 (fun b => Two w n1 n2 A B c d xs ys b ∧ (Box gs 24 (.bool (decide (q < 0))) (.slice As (limbs q).length cs) b ∧ Nums b As (limbs q)) ∧ Box (gs + 1) 24 (.bool (decide (r < 0))) (.slice Ad (limbs r).length cd) b ∧ Nums b Ad (limbs r))) := by
    have k1 : Below w1.heap.size w1 W1 := by rw [hW1]; exact ((Below.refl _ _).alloc (Nat.le_refl _) _).alloc (by simp) _
    have k2 : Blk W1 gs 24 #[.bool (decide (q < 0)), .slice As (limbs q).length cs] := by rw [hW1, hgs]; exact Blk.first _ _ _ _
    have k3 : Blk W1 (gs + 1) 24 #[.bool (decide (r < 0)), .slice Ad (limbs r).length cd] := by rw [hW1, hgs]; exact Blk.new1 _ _ _ _
    exact (HF0.out.on (below_on L k1)).and (((Pers.box k2).and (Pers.nums (hos.nums.since k1))).and ((Pers.box k3).and (Pers.nums (hod.nums.since k1))))
  have LW1 : Below w.heap.size w W1 := by rw [hW1]; exact ((LW.trans (L.mono LW.size)).alloc (Nat.le_trans LW.size L.size) _).alloc (by simp; exact Nat.le_succ_of_le (Nat.le_trans LW.size L.size)) _
  rw [← hW1, ← hgs]
  clear hW1 hgs HF0 L LW hos hod hdm
  have L : Below W1.heap.size W1 W1 := Below.refl _ _
  obtain ⟨⟨⟨x0, x1, y0, y1⟩, hx, hy⟩, ⟨⟨s0, s1⟩, ns⟩, ⟨d0, d1⟩, nd⟩ := HF1.out _ L
  go_wp2_with (go_at_call 15; refine (hform _ hx hy).mono ?_; rintro e w1 ⟨rfl, hb⟩; have L := below_on L hb; clear x0 x1 y0 y1 hx hy s0 s1 ns d0 d1 nd hb; refine Hid.out ?_)
  refine Lib.hid ?_
  clear hform
  obtain ⟨⟨⟨x0, x1, y0, y1⟩, hx, hy⟩, ⟨⟨s0, s1⟩, ns⟩, ⟨d0, d1⟩, nd⟩ := HF1.out _ L
  have hy0 := H0.out
  go_upto_region 9 with fail
  clear hy0
  go_cut [9, 10] (fun s9 s10 wx => ∃ (g9 g10 : Nat) (A5 : Option Addr) (c5 : Nat) (A6 : Option Addr) (c6 : Nat), s9 = .pointer (some ⟨g9, 0, none⟩) ∧ s10 = .pointer (some ⟨g10, 0, none⟩) ∧ Blk wx g9 33 #[.bool (decide (q < 0)), .slice A5 (tens q).length c5] ∧ Blk wx g10 33 #[.bool (decide (r < 0)), .slice A6 (tens r).length c6] ∧ Own8 wx 0 A5 c5 (tens q) ∧ Own8 wx 0 A6 c6 (tens r) ∧ Below W1.heap.size W1 wx)
  case first =>
    have HS : Hid (∀ b, Below W1.heap.size W1 b → b.cell? ⟨w.heap.size, 0, none⟩ = some (.bool n1) ∧ b.cell? ⟨w.heap.size, 1, none⟩ = some (.slice A xs.length c) ∧ b.cell? ⟨w.heap.size + 1, 0, none⟩ = some (.bool n2) ∧ b.cell? ⟨w.heap.size + 1, 1, none⟩ = some (.slice B ys.length d)) := fun b hb => have h := HF1.out b hb; ⟨h.1.1.1, h.1.1.2.1, h.1.1.2.2.1, h.1.1.2.2.2⟩
    have HN : Hid (∀ b, Below W1.heap.size W1 b → Nums b A xs ∧ Nums b B ys) := fun b hb => have h := HF1.out b hb; ⟨h.1.2.1, h.1.2.2⟩
    clear HF1 LW1 HTQ HTR HLQ HLR HTI HTJ H0 HN1 HN2 x0 x1 y0 y1 hx hy s0 s1 ns d0 d1 nd
    have hL0 := L.size
    obtain ⟨r0, r1, r2, r3⟩ := HS.out _ L
    go_region_held3 (fun b => b.cell? ⟨w.heap.size, 0, none⟩ = some (.bool n1) ∧ b.cell? ⟨w.heap.size, 1, none⟩ = some (.slice A xs.length c) ∧ b.cell? ⟨w.heap.size + 1, 0, none⟩ = some (.bool n2) ∧ b.cell? ⟨w.heap.size + 1, 1, none⟩ = some (.slice B ys.length d))
      (first | (with_reducible exact ⟨r0, r1, r2, r3⟩) | (exact HS.out _ (by repeat (first | with_reducible exact L | with_reducible apply Below.drew | (with_reducible refine Below.alloc ?_ (by have hh := L.size; first | exact hh | (simp only [World.size_alloc, World.size_drew]; omega) | (simp at hh ⊢; omega)) _) | (with_reducible refine Below.setCell ?_ (by have hh := L.size; first | exact hh | (simp only [World.size_alloc, World.size_drew]; omega) | (simp at hh ⊢; omega)) _)))))
      (first
        | (go_at_call_of 18 (Value.agg #[Value.bool n1, Value.slice A xs.length c]); refine (hofx _ (by exact (HN.out _ (by repeat (first | with_reducible exact L | with_reducible apply Below.drew | (with_reducible refine Below.alloc ?_ (by have hh := L.size; first | exact hh | (simp only [World.size_alloc, World.size_drew]; omega) | (simp at hh ⊢; omega)) _) | (with_reducible refine Below.setCell ?_ (by have hh := L.size; first | exact hh | (simp only [World.size_alloc, World.size_drew]; omega) | (simp at hh ⊢; omega)) _)))).1)).mono ?_; rintro e wx ⟨A3, c3, rfl, ho3, hbx⟩; have ho3 := ho3.mono (Nat.zero_le _); have L : Below W1.heap.size W1 wx := below_on (b := _) (by repeat (first | with_reducible exact L | with_reducible apply Below.drew | (with_reducible refine Below.alloc ?_ (by have hh := L.size; first | exact hh | (simp only [World.size_alloc, World.size_drew]; omega) | (simp at hh ⊢; omega)) _) | (with_reducible refine Below.setCell ?_ (by have hh := L.size; first | exact hh | (simp only [World.size_alloc, World.size_drew]; omega) | (simp at hh ⊢; omega)) _))) hbx; (try (have ho4 : Own8 wx 0 A4 c4 (tens j) := Own8.below (w := _) (by repeat (first | with_reducible exact ho4 | with_reducible apply Own8.alloc | with_reducible apply Own8.drew)) hbx (Nat.le_refl _))); (try (have ho5 : Own8 wx 0 A5 c5 (tens q) := Own8.below (w := _) (by repeat (first | with_reducible exact ho5 | with_reducible apply Own8.alloc | with_reducible apply Own8.drew)) hbx (Nat.le_refl _))); (try (have ho6 : Own8 wx 0 A6 c6 (tens r) := Own8.below (w := _) (by repeat (first | with_reducible exact ho6 | with_reducible apply Own8.alloc | with_reducible apply Own8.drew)) hbx (Nat.le_refl _))); obtain ⟨hccx, hffx⟩ := bcell hbx; have hssx := hbx.size; (try (simp only [World.size_drew] at hccx hffx hssx)); (try (simp only [World.size_alloc] at hccx hffx hssx)); (try (have hspy := Nat.lt_of_lt_of_le hspy (show _ ≤ wx.heap.size by omega))); (try (have hsqy := Nat.lt_of_lt_of_le hsqy (show _ ≤ wx.heap.size by omega))); (try (have hspt := Nat.lt_of_lt_of_le hspt (show _ ≤ wx.heap.size by omega))); (try (have hsqt := Nat.lt_of_lt_of_le hsqt (show _ ≤ wx.heap.size by omega))); (try (have hspx := Nat.lt_of_succ_le hssx; (try (have hsqx := Nat.lt_of_succ_lt hspx)))); clear r0 r1 r2 r3; obtain ⟨r0, r1, r2, r3⟩ := HS.out _ L)
        | (go_at_call 18; refine (hofy _ (by exact (HN.out _ (by repeat (first | with_reducible exact L | with_reducible apply Below.drew | (with_reducible refine Below.alloc ?_ (by have hh := L.size; first | exact hh | (simp only [World.size_alloc, World.size_drew]; omega) | (simp at hh ⊢; omega)) _) | (with_reducible refine Below.setCell ?_ (by have hh := L.size; first | exact hh | (simp only [World.size_alloc, World.size_drew]; omega) | (simp at hh ⊢; omega)) _)))).2)).mono ?_; rintro e wy ⟨A4, c4, rfl, ho4, hby⟩; have ho4 := ho4.mono (Nat.zero_le _); have L : Below W1.heap.size W1 wy := below_on (b := _) (by repeat (first | with_reducible exact L | with_reducible apply Below.drew | (with_reducible refine Below.alloc ?_ (by have hh := L.size; first | exact hh | (simp only [World.size_alloc, World.size_drew]; omega) | (simp at hh ⊢; omega)) _) | (with_reducible refine Below.setCell ?_ (by have hh := L.size; first | exact hh | (simp only [World.size_alloc, World.size_drew]; omega) | (simp at hh ⊢; omega)) _))) hby; (try (have ho3 : Own8 wy 0 A3 c3 (tens i) := Own8.below (w := _) (by repeat (first | with_reducible exact ho3 | with_reducible apply Own8.alloc | with_reducible apply Own8.drew)) hby (Nat.le_refl _))); (try (have ho5 : Own8 wy 0 A5 c5 (tens q) := Own8.below (w := _) (by repeat (first | with_reducible exact ho5 | with_reducible apply Own8.alloc | with_reducible apply Own8.drew)) hby (Nat.le_refl _))); (try (have ho6 : Own8 wy 0 A6 c6 (tens r) := Own8.below (w := _) (by repeat (first | with_reducible exact ho6 | with_reducible apply Own8.alloc | with_reducible apply Own8.drew)) hby (Nat.le_refl _))); obtain ⟨hccy, hffy⟩ := bcell hby; have hssy := hby.size; (try (simp only [World.size_drew] at hccy hffy hssy)); (try (simp only [World.size_alloc] at hccy hffy hssy)); (try (have hspx := Nat.lt_of_lt_of_le hspx (show _ ≤ wy.heap.size by omega))); (try (have hsqx := Nat.lt_of_lt_of_le hsqx (show _ ≤ wy.heap.size by omega))); (try (have hspt := Nat.lt_of_lt_of_le hspt (show _ ≤ wy.heap.size by omega))); (try (have hsqt := Nat.lt_of_lt_of_le hsqt (show _ ≤ wy.heap.size by omega))); (try (have hspy := Nat.lt_of_succ_le hssy; (try (have hsqy := Nat.lt_of_succ_lt hspy)))); clear r0 r1 r2 r3; obtain ⟨r0, r1, r2, r3⟩ := HS.out _ L)
        | (go_at_call 17; refine (hrdm A3 A4 c3 c4 _ (Own8.nums (by repeat (first | with_reducible exact ho3 | with_reducible apply Own8.alloc | with_reducible apply Own8.drew))) (Own8.nums (by repeat (first | with_reducible exact ho4 | with_reducible apply Own8.alloc | with_reducible apply Own8.drew)))).mono ?_; rintro e wt ⟨A5, c5, A6, c6, rfl, ho5, ho6, hbt⟩; have ho5 := ho5.mono (Nat.zero_le _); have ho6 := ho6.mono (Nat.zero_le _); have L : Below W1.heap.size W1 wt := below_on (b := _) (by repeat (first | with_reducible exact L | with_reducible apply Below.drew | (with_reducible refine Below.alloc ?_ (by have hh := L.size; first | exact hh | (simp only [World.size_alloc, World.size_drew]; omega) | (simp at hh ⊢; omega)) _) | (with_reducible refine Below.setCell ?_ (by have hh := L.size; first | exact hh | (simp only [World.size_alloc, World.size_drew]; omega) | (simp at hh ⊢; omega)) _))) hbt; (try (have ho3 : Own8 wt 0 A3 c3 (tens i) := Own8.below (w := _) (by repeat (first | with_reducible exact ho3 | with_reducible apply Own8.alloc | with_reducible apply Own8.drew)) hbt (Nat.le_refl _))); (try (have ho4 : Own8 wt 0 A4 c4 (tens j) := Own8.below (w := _) (by repeat (first | with_reducible exact ho4 | with_reducible apply Own8.alloc | with_reducible apply Own8.drew)) hbt (Nat.le_refl _))); obtain ⟨hcct, hfft⟩ := bcell hbt; have hsst := hbt.size; (try (simp only [World.size_drew] at hcct hfft hsst)); (try (simp only [World.size_alloc] at hcct hfft hsst)); (try (have hspx := Nat.lt_of_lt_of_le hspx (show _ ≤ wt.heap.size by omega))); (try (have hsqx := Nat.lt_of_lt_of_le hsqx (show _ ≤ wt.heap.size by omega))); (try (have hspy := Nat.lt_of_lt_of_le hspy (show _ ≤ wt.heap.size by omega))); (try (have hsqy := Nat.lt_of_lt_of_le hsqy (show _ ≤ wt.heap.size by omega))); (try (have hspt := Nat.lt_of_succ_le hsst; (try (have hsqt := Nat.lt_of_succ_lt hspt)))); clear r0 r1 r2 r3; obtain ⟨r0, r1, r2, r3⟩ := HS.out _ L))
    all_goals (go_wp2_with fail)
    all_goals go_meet
    all_goals
      refine ⟨_, _, A5, c5, A6, c6, rfl, rfl, ?_, ?_, ?_, ?_, ?_⟩
      all_goals (repeat' (first | with_reducible assumption | with_reducible exact Blk.new _ _ _ | with_reducible exact Blk.new1 _ _ _ _ | (with_reducible refine Blk.newAt ?_; (first | omega | (simp; done) | (simp; omega))) | with_reducible apply Blk.alloc | with_reducible apply Blk.drew | with_reducible refine Blk.set2 (x := .bool false) (y := .slice none 0 0) ?_ _ _ | with_reducible refine Blk.far ?_ ?_ _ | with_reducible refine Blk.below (w := _) ?_ hbx ?_ | with_reducible refine Blk.below (w := _) ?_ hby ?_ | with_reducible refine Blk.below (w := _) ?_ hbt ?_ | with_reducible apply Own8.alloc | with_reducible apply Own8.drew | with_reducible apply Own.alloc | with_reducible apply Own.drew | with_reducible refine Own8.set2 (x := .bool false) (y := .slice none 0 0) (t := 33) ?_ ?_ ?_ _ _ | with_reducible refine Own.set2 (x := .bool false) (y := .slice none 0 0) (t := 33) ?_ ?_ ?_ _ _ | with_reducible apply Below.drew | with_reducible refine Below.alloc ?_ ?_ _ | with_reducible refine Below.setCell ?_ ?_ _ | omega | (simp; omega) | (simp; done) | decide))
  case rest =>
    obtain ⟨g9, g10, A5, c5, A6, c6, rfl, rfl, Z9, Z10, ho5, ho6, LC⟩ := hcut
    obtain ⟨W2, rfl⟩ : ∃ W2, W2 = wc := ⟨_, rfl⟩
    have HF2 : Hid (Pers W2 (fun b => (Two w n1 n2 A B c d xs ys b ∧ (Box gs 24 (.bool (decide (q < 0))) (.slice As (limbs q).length cs) b ∧ Nums b As (limbs q)) ∧ Box (gs + 1) 24 (.bool (decide (r < 0))) (.slice Ad (limbs r).length cd) b ∧ Nums b Ad (limbs r)) ∧ (Box g9 33 (.bool (decide (q < 0))) (.slice A5 (tens q).length c5) b ∧ Nums8 b A5 (tens q)) ∧ (Box g10 33 (.bool (decide (r < 0))) (.slice A6 (tens r).length c6) b ∧ Nums8 b A6 (tens r)))) := (HF1.out.on LC).and (((Pers.box Z9).and (Pers.nums8 ho5.nums)).and ((Pers.box Z10).and (Pers.nums8 ho6.nums)))
    have LW2 : Below w.heap.size w W2 := LW1.trans (LC.mono LW1.size)
    clear x0 x1 y0 y1 hx hy s0 s1 ns d0 d1 nd L LW1 HF1 Z9 Z10 ho5 ho6 LC hofx hofy hrdm HTI HTJ
    have hisq := fun w hx hy => is_ok As A5 cs c5 q w hx hy (by have := HLQ.out; omega) (by have := HTQ.out; omega)
    have hisr := fun w hx hy => is_ok Ad A6 cd c6 r w hx hy (by have := HLR.out; omega) (by have := HTR.out; omega)
    have L : Below W2.heap.size W2 W2 := Below.refl _ _
    obtain ⟨⟨⟨⟨x0, x1, y0, y1⟩, hx, hy⟩, ⟨⟨s0, s1⟩, ns⟩, ⟨d0, d1⟩, nd⟩, ⟨⟨a0, a1⟩, na⟩, ⟨⟨b0, b1⟩, nb⟩⟩ := HF2.out _ L
    go_wp2_with (go_at_call 16; refine (hisq _ ns na).mono ?_; rintro e w1 ⟨rfl, hb⟩; have L := below_on L hb; clear x0 x1 y0 y1 hx hy s0 s1 ns d0 d1 nd a0 a1 na b0 b1 nb hb; refine Hid.out ?_)
    refine Lib.hid ?_
    obtain ⟨⟨⟨⟨x0, x1, y0, y1⟩, hx, hy⟩, ⟨⟨s0, s1⟩, ns⟩, ⟨d0, d1⟩, nd⟩, ⟨⟨a0, a1⟩, na⟩, ⟨⟨b0, b1⟩, nb⟩⟩ := HF2.out _ L
    go_wp2_with (go_at_call 16; refine (hisr _ nd nb).mono ?_; rintro e w1 ⟨rfl, hb⟩; have L := below_on L hb; clear hb)
    go_ret
    exact ⟨rfl, LW2.trans (L.mono LW2.size)⟩
end
/-- WholeQuotients answers true at every two numbers. -/
theorem quotients_law (n1 : Bool) (A : Option Addr) (c : Nat) (xs : List Nat) (n2 : Bool) (B : Option Addr) (d : Nat) (ys : List Nat) (w : World) (hx : Nums w A xs) (hl : xs.length ≤ 9223372036854775807) (hy : Nums w B ys) (hl' : ys.length ≤ 9223372036854775807) :
    Calls Tryd.prog 3 #[.agg #[.bool n1, .slice A xs.length c], .agg #[.bool n2, .slice B ys.length d]] w fun e w' => e = .returned (.bool true) ∧ Below w.heap.size w w' := by
  cases hok : (goodB n1 xs && goodB n2 ys)
  · exact quotients_bad n1 n2 A B c d xs ys w hx hy hl hl' hok
  · obtain ⟨hg, hk⟩ := Bool.and_eq_true_iff.1 hok
    by_cases h0 : ys.length = 0
    · exact quotients_zero n1 n2 A B c d xs ys w hx hy hl hl' hg hk h0
    · exact quotients_good n1 n2 A B c d xs ys w hx hy hl hl' hg hk (by omega)
end Go.Proofs.YteggjfmcpodepaaDoor

/- The walks of whole.Add. -/
import Derived.Test.YteggjfmcpodepaaDoorWSign
import Derived.Test.YteggjfmcpodepaaDoorWLess
namespace Go.Proofs.YteggjfmcpodepaaDoor
open Go.RowKit

section
variable (A B : Option Addr) (c d : Nat) (xs ys : List Nat) (w : World)
set_option maxRecDepth 100000

set_option maxHeartbeats 800000 in
theorem add_bad_x (n1 n2 : Bool) (hx : Nums w A xs) (hy : Nums w B ys) (hl : xs.length ≤ 9223372036854775807) (hl' : ys.length ≤ 9223372036854775807) (hg : goodB n1 xs = false) :
    Calls Tryd.prog 27 #[.agg #[.bool n1, .slice A xs.length c], .agg #[.bool n2, .slice B ys.length d]] w (RetBigErr w 0 3) := by
  go_enter Tryd.func27, Tryd.ntmps27
  go_wp2_with fail
  refine (good_any n1 c _ A xs hl (((hx.alloc _).alloc _).alloc _)).mono ?_
  rintro e w1 ⟨rfl, hb1⟩
  have X1 := (((Blk.new w 24 #[.bool n1, .slice A xs.length c]).alloc (.cells #[.bool n2, .slice B ys.length d] 24)).alloc (.cells #[.bool false, .slice none 0 0] 24)).below hb1 (by simp; omega)
  have Y1 := ((Blk.new (w.alloc (.cells #[.bool n1, .slice A xs.length c] 24)) 24 #[.bool n2, .slice B ys.length d]).alloc (.cells #[.bool false, .slice none 0 0] 24)).below hb1 (by simp)
  have R1 := (Blk.new ((w.alloc (.cells #[.bool n1, .slice A xs.length c] 24)).alloc (.cells #[.bool n2, .slice B ys.length d] 24)) 24 #[.bool false, .slice none 0 0]).below hb1 (by simp)
  have hx1 := (((hx.alloc (.cells #[.bool n1, .slice A xs.length c] 24)).alloc (.cells #[.bool n2, .slice B ys.length d] 24)).alloc (.cells #[.bool false, .slice none 0 0] 24)).below hb1 (Nat.le_refl _)
  have hy1 := (((hy.alloc (.cells #[.bool n1, .slice A xs.length c] 24)).alloc (.cells #[.bool n2, .slice B ys.length d] 24)).alloc (.cells #[.bool false, .slice none 0 0] 24)).below hb1 (Nat.le_refl _)
  have L1 : Below w.heap.size w w1 := ((((Below.refl _ _).alloc (Nat.le_refl _) _).alloc (by simp) _).alloc (by simp; omega) _).trans (hb1.mono (by simp; omega))
  simp only [World.size_alloc] at X1 Y1 R1
  clear hb1
  obtain ⟨x0, x1, x2, x3⟩ := X1.two
  obtain ⟨y0, y1, y2, y3⟩ := Y1.two
  obtain ⟨r0, r1, r2, r3⟩ := R1.two
  go_wp2
  refine bodyPost_ret (v := .tuple #[.agg #[.bool false, .slice none 0 0], .int .i64 3]) (by simp [results, Tryd.results27, go_sem, r0, r1]) rfl ?_
  exact fin_zero L1 (by omega) _ _

set_option maxHeartbeats 800000 in
theorem add_bad_y (n1 n2 : Bool) (hx : Nums w A xs) (hy : Nums w B ys) (hl : xs.length ≤ 9223372036854775807) (hl' : ys.length ≤ 9223372036854775807) (hg : goodB n1 xs = true) (hk : goodB n2 ys = false) :
    Calls Tryd.prog 27 #[.agg #[.bool n1, .slice A xs.length c], .agg #[.bool n2, .slice B ys.length d]] w (RetBigErr w 0 3) := by
  go_enter Tryd.func27, Tryd.ntmps27
  go_wp2_with fail
  refine (good_any n1 c _ A xs hl (((hx.alloc _).alloc _).alloc _)).mono ?_
  rintro e w1 ⟨rfl, hb1⟩
  have X1 := (((Blk.new w 24 #[.bool n1, .slice A xs.length c]).alloc (.cells #[.bool n2, .slice B ys.length d] 24)).alloc (.cells #[.bool false, .slice none 0 0] 24)).below hb1 (by simp; omega)
  have Y1 := ((Blk.new (w.alloc (.cells #[.bool n1, .slice A xs.length c] 24)) 24 #[.bool n2, .slice B ys.length d]).alloc (.cells #[.bool false, .slice none 0 0] 24)).below hb1 (by simp)
  have R1 := (Blk.new ((w.alloc (.cells #[.bool n1, .slice A xs.length c] 24)).alloc (.cells #[.bool n2, .slice B ys.length d] 24)) 24 #[.bool false, .slice none 0 0]).below hb1 (by simp)
  have hx1 := (((hx.alloc (.cells #[.bool n1, .slice A xs.length c] 24)).alloc (.cells #[.bool n2, .slice B ys.length d] 24)).alloc (.cells #[.bool false, .slice none 0 0] 24)).below hb1 (Nat.le_refl _)
  have hy1 := (((hy.alloc (.cells #[.bool n1, .slice A xs.length c] 24)).alloc (.cells #[.bool n2, .slice B ys.length d] 24)).alloc (.cells #[.bool false, .slice none 0 0] 24)).below hb1 (Nat.le_refl _)
  have L1 : Below w.heap.size w w1 := ((((Below.refl _ _).alloc (Nat.le_refl _) _).alloc (by simp) _).alloc (by simp; omega) _).trans (hb1.mono (by simp; omega))
  simp only [World.size_alloc] at X1 Y1 R1
  clear hb1
  obtain ⟨x0, x1, x2, x3⟩ := X1.two
  obtain ⟨y0, y1, y2, y3⟩ := Y1.two
  go_wp2_with fail
  refine (good_any n2 d _ B ys hl' hy1).mono ?_
  rintro e w2 ⟨rfl, hb2⟩
  have X2 := X1.below hb2 X1.lt; have Y2 := Y1.below hb2 Y1.lt; have R2 := R1.below hb2 R1.lt
  have hx2 := hx1.below hb2 (Nat.le_refl _); have hy2 := hy1.below hb2 (Nat.le_refl _)
  have L2 := L1.trans (hb2.mono L1.size)
  clear x0 x1 x2 x3 y0 y1 y2 y3 X1 Y1 R1 hx1 hy1 L1 hb2
  obtain ⟨x0, x1, x2, x3⟩ := X2.two
  obtain ⟨y0, y1, y2, y3⟩ := Y2.two
  have hz : w.heap.size + 1 + 1 < w2.heap.size := R2.lt
  obtain ⟨r0, r1, r2, r3⟩ := R2.two
  go_wp2
  refine bodyPost_ret (v := .tuple #[.agg #[.bool false, .slice none 0 0], .int .i64 3]) (by simp [results, Tryd.results27, go_sem, r0, r1]) rfl ?_
  exact fin_zero L2 (by omega) _ _

set_option maxHeartbeats 800000 in
theorem add_same_yes (neg : Bool) (hx : Nums w A xs) (hy : Nums w B ys) (hg : goodB neg xs = true) (hk : goodB neg ys = true) (hf : (num neg xs + num neg ys).natAbs < B18 ^ 30) :
    Calls Tryd.prog 27 #[.agg #[.bool neg, .slice A xs.length c], .agg #[.bool neg, .slice B ys.length d]] w (RetBigErr w (num neg xs + num neg ys) 0) := by
  obtain ⟨hs, hn, hl, _⟩ := good_parts hg
  obtain ⟨ht, hm, hl', _⟩ := good_parts hk
  have hsum : ∀ zs, val B18 zs = val B18 xs + val B18 ys → sgn neg (val B18 zs) = num neg xs + num neg ys := fun zs h => by
    rw [h, num_eq, num_eq]; cases neg <;> simp [sgn] <;> omega
  have hfit : ∀ zs, val B18 zs = val B18 xs + val B18 ys → val B18 zs < B18 ^ 30 := fun zs h => by
    have := hsum zs h; rw [← this, sgn_natAbs] at hf; exact hf
  have HS := Lib.hid hsum; have HF := Lib.hid hfit
  clear hsum hfit hf
  go_enter Tryd.func27, Tryd.ntmps27
  go_wp2_with fail
  refine (good_any neg c _ A xs (by omega) (((hx.alloc _).alloc _).alloc _)).mono ?_
  rintro e w1 ⟨rfl, hb1⟩
  have X1 := (((Blk.new w 24 #[.bool neg, .slice A xs.length c]).alloc (.cells #[.bool neg, .slice B ys.length d] 24)).alloc (.cells #[.bool false, .slice none 0 0] 24)).below hb1 (by simp; omega)
  have Y1 := ((Blk.new (w.alloc (.cells #[.bool neg, .slice A xs.length c] 24)) 24 #[.bool neg, .slice B ys.length d]).alloc (.cells #[.bool false, .slice none 0 0] 24)).below hb1 (by simp)
  have R1 := (Blk.new ((w.alloc (.cells #[.bool neg, .slice A xs.length c] 24)).alloc (.cells #[.bool neg, .slice B ys.length d] 24)) 24 #[.bool false, .slice none 0 0]).below hb1 (by simp)
  have hx1 := (((hx.alloc (.cells #[.bool neg, .slice A xs.length c] 24)).alloc (.cells #[.bool neg, .slice B ys.length d] 24)).alloc (.cells #[.bool false, .slice none 0 0] 24)).below hb1 (Nat.le_refl _)
  have hy1 := (((hy.alloc (.cells #[.bool neg, .slice A xs.length c] 24)).alloc (.cells #[.bool neg, .slice B ys.length d] 24)).alloc (.cells #[.bool false, .slice none 0 0] 24)).below hb1 (Nat.le_refl _)
  have L1 : Below w.heap.size w w1 := ((((Below.refl _ _).alloc (Nat.le_refl _) _).alloc (by simp) _).alloc (by simp; omega) _).trans (hb1.mono (by simp; omega))
  simp only [World.size_alloc] at X1 Y1 R1
  clear hb1
  obtain ⟨x0, x1, x2, x3⟩ := X1.two
  obtain ⟨y0, y1, y2, y3⟩ := Y1.two
  go_wp2_with fail
  refine (good_any neg d _ B ys (by omega) hy1).mono ?_
  rintro e w2 ⟨rfl, hb2⟩
  have X2 := X1.below hb2 X1.lt; have Y2 := Y1.below hb2 Y1.lt; have R2 := R1.below hb2 R1.lt
  have hx2 := hx1.below hb2 (Nat.le_refl _); have hy2 := hy1.below hb2 (Nat.le_refl _)
  have L2 := L1.trans (hb2.mono L1.size)
  clear x0 x1 x2 x3 y0 y1 y2 y3 X1 Y1 R1 hx1 hy1 L1 hb2
  obtain ⟨x0, x1, x2, x3⟩ := X2.two
  obtain ⟨y0, y1, y2, y3⟩ := Y2.two
  have hz : w.heap.size + 1 + 1 < w2.heap.size := R2.lt
  go_wp2_with fail
  go_region_held3 (fun w' => w'.cell? ⟨w.heap.size, 0, none⟩ = some (.bool neg) ∧ w'.cell? ⟨w.heap.size, 1, none⟩ = some (.slice A xs.length c) ∧ w'.cell? ⟨w.heap.size + 1, 1, none⟩ = some (.slice B ys.length d))
    (first | exact ⟨x0, x1, y1⟩ | exact ⟨u0, u1, v1⟩ | exact ⟨p0, p1, q1⟩ | (refine ⟨?_, ?_, ?_⟩ <;> (rw [World.cell?_setCell_other _ _ _ _ (by simp), World.cell?_setCell_other _ _ _ _ (by simp)]; assumption)))
    (first
      | (go_at_call 50; refine (more_any A B c d xs ys _ (by exact hx2.drew) (by exact hy2.drew) hs ht (by omega) (by omega)).mono ?_; rintro e w3 ⟨g, zs, rfl, hrow, hzl, hzs, hzv, hge, hb3⟩; have X3 := X2.drew.below hb3 X2.lt; have Y3 := Y2.drew.below hb3 Y2.lt; have R3 := R2.drew.below hb3 R2.lt; have L3 := L2.drew.trans (hb3.mono L2.size); obtain ⟨u0, u1, u2, u3⟩ := X3.two; obtain ⟨v0, v1, v2, v3⟩ := Y3.two; have HZ := Lib.hid hzl; have HE := Lib.hid (HS.out zs hzv); have HW := Lib.hid hzv; clear hzl hzv)
      | (go_at_call 56; refine (fits_yes neg _ _ zs _ (by exact hrow.nums HZ.out (small64 hzs)) hzs (by have := HZ.out; omega) (HF.out zs HW.out)).mono ?_; rintro e w4 ⟨A4, c4, rfl, hown, hb4⟩; rw [HE.out] at hown ⊢; obtain ⟨p0, p1, p2, p3⟩ := (X3.below hb4 X3.lt).two; obtain ⟨q0, q1, q2, q3⟩ := (Y3.below hb4 Y3.lt).two; obtain ⟨r0, r1, r2, r3⟩ := (R3.below hb4 R3.lt).two; have L4 := L3.trans (hb4.mono L3.size); have hr3 := R3.lt))
  go_wp2
  refine bodyPost_ret (v := .tuple #[.agg #[.bool (decide (num neg xs + num neg ys < 0)), .slice A4 (limbs (num neg xs + num neg ys)).length c4], .int .i64 0]) (by simp [results, Tryd.results27, go_sem, r0, r1]) rfl ?_
  exact fin_big hown L4 (by omega) hr3 _ _

set_option maxHeartbeats 800000 in
theorem add_same_no (neg : Bool) (hx : Nums w A xs) (hy : Nums w B ys) (hg : goodB neg xs = true) (hk : goodB neg ys = true) (hf : B18 ^ 30 ≤ (num neg xs + num neg ys).natAbs) :
    Calls Tryd.prog 27 #[.agg #[.bool neg, .slice A xs.length c], .agg #[.bool neg, .slice B ys.length d]] w (RetBigErr w 0 7) := by
  obtain ⟨hs, hn, hl, _⟩ := good_parts hg
  obtain ⟨ht, hm, hl', _⟩ := good_parts hk
  have hsum : ∀ zs, val B18 zs = val B18 xs + val B18 ys → sgn neg (val B18 zs) = num neg xs + num neg ys := fun zs h => by
    rw [h, num_eq, num_eq]; cases neg <;> simp [sgn] <;> omega
  have hfit : ∀ zs, val B18 zs = val B18 xs + val B18 ys → B18 ^ 30 ≤ val B18 zs := fun zs h => by
    have := hsum zs h; rw [← this, sgn_natAbs] at hf; exact hf
  have HS := Lib.hid hsum; have HF := Lib.hid hfit
  clear hsum hfit hf
  go_enter Tryd.func27, Tryd.ntmps27
  go_wp2_with fail
  refine (good_any neg c _ A xs (by omega) (((hx.alloc _).alloc _).alloc _)).mono ?_
  rintro e w1 ⟨rfl, hb1⟩
  have X1 := (((Blk.new w 24 #[.bool neg, .slice A xs.length c]).alloc (.cells #[.bool neg, .slice B ys.length d] 24)).alloc (.cells #[.bool false, .slice none 0 0] 24)).below hb1 (by simp; omega)
  have Y1 := ((Blk.new (w.alloc (.cells #[.bool neg, .slice A xs.length c] 24)) 24 #[.bool neg, .slice B ys.length d]).alloc (.cells #[.bool false, .slice none 0 0] 24)).below hb1 (by simp)
  have R1 := (Blk.new ((w.alloc (.cells #[.bool neg, .slice A xs.length c] 24)).alloc (.cells #[.bool neg, .slice B ys.length d] 24)) 24 #[.bool false, .slice none 0 0]).below hb1 (by simp)
  have hx1 := (((hx.alloc (.cells #[.bool neg, .slice A xs.length c] 24)).alloc (.cells #[.bool neg, .slice B ys.length d] 24)).alloc (.cells #[.bool false, .slice none 0 0] 24)).below hb1 (Nat.le_refl _)
  have hy1 := (((hy.alloc (.cells #[.bool neg, .slice A xs.length c] 24)).alloc (.cells #[.bool neg, .slice B ys.length d] 24)).alloc (.cells #[.bool false, .slice none 0 0] 24)).below hb1 (Nat.le_refl _)
  have L1 : Below w.heap.size w w1 := ((((Below.refl _ _).alloc (Nat.le_refl _) _).alloc (by simp) _).alloc (by simp; omega) _).trans (hb1.mono (by simp; omega))
  simp only [World.size_alloc] at X1 Y1 R1
  clear hb1
  obtain ⟨x0, x1, x2, x3⟩ := X1.two
  obtain ⟨y0, y1, y2, y3⟩ := Y1.two
  go_wp2_with fail
  refine (good_any neg d _ B ys (by omega) hy1).mono ?_
  rintro e w2 ⟨rfl, hb2⟩
  have X2 := X1.below hb2 X1.lt; have Y2 := Y1.below hb2 Y1.lt; have R2 := R1.below hb2 R1.lt
  have hx2 := hx1.below hb2 (Nat.le_refl _); have hy2 := hy1.below hb2 (Nat.le_refl _)
  have L2 := L1.trans (hb2.mono L1.size)
  clear x0 x1 x2 x3 y0 y1 y2 y3 X1 Y1 R1 hx1 hy1 L1 hb2
  obtain ⟨x0, x1, x2, x3⟩ := X2.two
  obtain ⟨y0, y1, y2, y3⟩ := Y2.two
  have hz : w.heap.size + 1 + 1 < w2.heap.size := R2.lt
  go_wp2_with fail
  go_region_held3 (fun w' => w'.cell? ⟨w.heap.size, 0, none⟩ = some (.bool neg) ∧ w'.cell? ⟨w.heap.size, 1, none⟩ = some (.slice A xs.length c) ∧ w'.cell? ⟨w.heap.size + 1, 1, none⟩ = some (.slice B ys.length d))
    (first | exact ⟨x0, x1, y1⟩ | exact ⟨u0, u1, v1⟩ | exact ⟨p0, p1, q1⟩ | (refine ⟨?_, ?_, ?_⟩ <;> (rw [World.cell?_setCell_other _ _ _ _ (by simp), World.cell?_setCell_other _ _ _ _ (by simp)]; assumption)))
    (first
      | (go_at_call 50; refine (more_any A B c d xs ys _ (by exact hx2.drew) (by exact hy2.drew) hs ht (by omega) (by omega)).mono ?_; rintro e w3 ⟨g, zs, rfl, hrow, hzl, hzs, hzv, hge, hb3⟩; have X3 := X2.drew.below hb3 X2.lt; have Y3 := Y2.drew.below hb3 Y2.lt; have R3 := R2.drew.below hb3 R2.lt; have L3 := L2.drew.trans (hb3.mono L2.size); obtain ⟨u0, u1, u2, u3⟩ := X3.two; obtain ⟨v0, v1, v2, v3⟩ := Y3.two; have HZ := Lib.hid hzl; have HE := Lib.hid (HS.out zs hzv); have HW := Lib.hid hzv; clear hzl hzv)
      | (go_at_call 56; refine (fits_no neg _ _ zs _ (by exact hrow.nums HZ.out (small64 hzs)) hzs (by have := HZ.out; omega) (HF.out zs HW.out)).mono ?_; rintro e w4 ⟨A4, c4, rfl, hown, hb4⟩; have _t := HE; obtain ⟨p0, p1, p2, p3⟩ := (X3.below hb4 X3.lt).two; obtain ⟨q0, q1, q2, q3⟩ := (Y3.below hb4 Y3.lt).two; obtain ⟨r0, r1, r2, r3⟩ := (R3.below hb4 R3.lt).two; have L4 := L3.trans (hb4.mono L3.size); have hr3 := R3.lt))
  go_wp2
  refine bodyPost_ret (v := .tuple #[.agg #[.bool (decide ((0 : Int) < 0)), .slice A4 (limbs 0).length c4], .int .i64 7]) (by simp [results, Tryd.results27, go_sem, r0, r1]) rfl ?_
  exact fin_big hown L4 (by omega) hr3 _ _

set_option maxHeartbeats 800000 in
theorem add_diff_ge (n1 n2 : Bool) (hx : Nums w A xs) (hy : Nums w B ys) (hg : goodB n1 xs = true) (hk : goodB n2 ys = true) (hne : (n1 == n2) = false) (hle : val B18 ys ≤ val B18 xs) :
    Calls Tryd.prog 27 #[.agg #[.bool n1, .slice A xs.length c], .agg #[.bool n2, .slice B ys.length d]] w (RetBigErr w (num n1 xs + num n2 ys) 0) := by
  obtain ⟨hs, hn, hl, _⟩ := good_parts hg
  obtain ⟨ht, hm, hl', _⟩ := good_parts hk
  have hsum : ∀ zs, val B18 zs = val B18 xs - val B18 ys → sgn n1 (val B18 zs) = num n1 xs + num n2 ys := fun zs h => by
    rw [h, num_eq, num_eq]; cases n1 <;> cases n2 <;> simp [sgn] at hne ⊢ <;> omega
  have hfit : ∀ zs, val B18 zs = val B18 xs - val B18 ys → val B18 zs < B18 ^ 30 := fun zs h => by
    have := val_lt hs
    have h3 : B18 ^ xs.length ≤ B18 ^ 30 := Nat.pow_le_pow_right (by unfold B18; omega) (by omega)
    omega
  have hlen : ys.length ≤ xs.length := by
    rcases Nat.lt_or_ge xs.length ys.length with h | h
    · have := val_lt_of_length B18_two hs hm h; omega
    · exact h
  have hq : ¬ cmpN (val B18 xs) (val B18 ys) < 0 := by unfold cmpN; split <;> (try split) <;> omega
  have HS := Lib.hid hsum; have HF := Lib.hid hfit; have HL := Lib.hid hlen; have HLE := Lib.hid hle
  clear hsum hfit hlen hle
  go_enter Tryd.func27, Tryd.ntmps27
  go_wp2_with fail
  refine (good_any n1 c _ A xs (by omega) (((hx.alloc _).alloc _).alloc _)).mono ?_
  rintro e w1 ⟨rfl, hb1⟩
  have X1 := (((Blk.new w 24 #[.bool n1, .slice A xs.length c]).alloc (.cells #[.bool n2, .slice B ys.length d] 24)).alloc (.cells #[.bool false, .slice none 0 0] 24)).below hb1 (by simp; omega)
  have Y1 := ((Blk.new (w.alloc (.cells #[.bool n1, .slice A xs.length c] 24)) 24 #[.bool n2, .slice B ys.length d]).alloc (.cells #[.bool false, .slice none 0 0] 24)).below hb1 (by simp)
  have R1 := (Blk.new ((w.alloc (.cells #[.bool n1, .slice A xs.length c] 24)).alloc (.cells #[.bool n2, .slice B ys.length d] 24)) 24 #[.bool false, .slice none 0 0]).below hb1 (by simp)
  have hx1 := (((hx.alloc (.cells #[.bool n1, .slice A xs.length c] 24)).alloc (.cells #[.bool n2, .slice B ys.length d] 24)).alloc (.cells #[.bool false, .slice none 0 0] 24)).below hb1 (Nat.le_refl _)
  have hy1 := (((hy.alloc (.cells #[.bool n1, .slice A xs.length c] 24)).alloc (.cells #[.bool n2, .slice B ys.length d] 24)).alloc (.cells #[.bool false, .slice none 0 0] 24)).below hb1 (Nat.le_refl _)
  have L1 : Below w.heap.size w w1 := ((((Below.refl _ _).alloc (Nat.le_refl _) _).alloc (by simp) _).alloc (by simp; omega) _).trans (hb1.mono (by simp; omega))
  simp only [World.size_alloc] at X1 Y1 R1
  clear hb1
  obtain ⟨x0, x1, x2, x3⟩ := X1.two
  obtain ⟨y0, y1, y2, y3⟩ := Y1.two
  go_wp2_with fail
  refine (good_any n2 d _ B ys (by omega) hy1).mono ?_
  rintro e w2 ⟨rfl, hb2⟩
  have X2 := X1.below hb2 X1.lt; have Y2 := Y1.below hb2 Y1.lt; have R2 := R1.below hb2 R1.lt
  have hx2 := hx1.below hb2 (Nat.le_refl _); have hy2 := hy1.below hb2 (Nat.le_refl _)
  have L2 := L1.trans (hb2.mono L1.size)
  clear x0 x1 x2 x3 y0 y1 y2 y3 X1 Y1 R1 hx1 hy1 L1 hb2
  obtain ⟨x0, x1, x2, x3⟩ := X2.two
  obtain ⟨y0, y1, y2, y3⟩ := Y2.two
  have hz : w.heap.size + 1 + 1 < w2.heap.size := R2.lt
  go_wp2_with fail
  refine (size_any A B c d xs ys _ hx2 hy2 hs ht hn hm (by omega) (by omega)).mono ?_
  rintro e w2' ⟨rfl, nq, rfl⟩
  generalize cmpN (val B18 xs) (val B18 ys) = q at hq ⊢
  have X2 := X2.drewN nq; have Y2 := Y2.drewN nq; have R2 := R2.drewN nq
  have hx2 := hx2.drewN nq; have hy2 := hy2.drewN nq
  have L2 := below_drewN L2 nq
  generalize w2.drewN nq = wq at *
  obtain ⟨x0, x1, x2, x3⟩ := X2.two
  obtain ⟨y0, y1, y2, y3⟩ := Y2.two
  have hz : w.heap.size + 1 + 1 < wq.heap.size := R2.lt
  go_wp2_with fail
  go_region_held3 (fun w' => w'.cell? ⟨w.heap.size, 0, none⟩ = some (.bool n1) ∧ w'.cell? ⟨w.heap.size, 1, none⟩ = some (.slice A xs.length c) ∧ w'.cell? ⟨w.heap.size + 1, 1, none⟩ = some (.slice B ys.length d))
    (first | exact ⟨x0, x1, y1⟩ | exact ⟨u0, u1, v1⟩ | exact ⟨p0, p1, q1⟩ | (refine ⟨?_, ?_, ?_⟩ <;> (rw [World.cell?_setCell_other _ _ _ _ (by simp), World.cell?_setCell_other _ _ _ _ (by simp)]; assumption)))
    (first
      | (go_at_call 51; refine (less_any A B c d xs ys _ (by exact hx2.drew) (by exact hy2.drew) hs ht (by omega) HL.out HLE.out).mono ?_; rintro e w3 ⟨g, zs, rfl, hrow, hzl, hzs, hzv, hge, hb3⟩; have X3 := X2.drew.below hb3 X2.lt; have Y3 := Y2.drew.below hb3 Y2.lt; have R3 := R2.drew.below hb3 R2.lt; have L3 := L2.drew.trans (hb3.mono L2.size); obtain ⟨u0, u1, u2, u3⟩ := X3.two; obtain ⟨v0, v1, v2, v3⟩ := Y3.two; have HZ := Lib.hid hzl; have HE := Lib.hid (HS.out zs hzv); have HW := Lib.hid hzv; clear hzl hzv)
      | (go_at_call 56; refine (fits_yes n1 _ _ zs _ (by exact hrow.nums HZ.out (small64 hzs)) hzs (by have := HZ.out; omega) (HF.out zs HW.out)).mono ?_; rintro e w4 ⟨A4, c4, rfl, hown, hb4⟩; rw [HE.out] at hown ⊢; obtain ⟨p0, p1, p2, p3⟩ := (X3.below hb4 X3.lt).two; obtain ⟨q0, q1, q2, q3⟩ := (Y3.below hb4 Y3.lt).two; obtain ⟨r0, r1, r2, r3⟩ := (R3.below hb4 R3.lt).two; have L4 := L3.trans (hb4.mono L3.size); have hr3 := R3.lt))
  go_wp2
  refine bodyPost_ret (v := .tuple #[.agg #[.bool (decide (num n1 xs + num n2 ys < 0)), .slice A4 (limbs (num n1 xs + num n2 ys)).length c4], .int .i64 0]) (by simp [results, Tryd.results27, go_sem, r0, r1]) rfl ?_
  exact fin_big hown L4 (by omega) hr3 _ _

set_option maxHeartbeats 800000 in
theorem add_diff_lt (n1 n2 : Bool) (hx : Nums w A xs) (hy : Nums w B ys) (hg : goodB n1 xs = true) (hk : goodB n2 ys = true) (hne : (n1 == n2) = false) (hle : val B18 xs < val B18 ys) :
    Calls Tryd.prog 27 #[.agg #[.bool n1, .slice A xs.length c], .agg #[.bool n2, .slice B ys.length d]] w (RetBigErr w (num n1 xs + num n2 ys) 0) := by
  obtain ⟨hs, hn, hl, _⟩ := good_parts hg
  obtain ⟨ht, hm, hl', _⟩ := good_parts hk
  have hsum : ∀ zs, val B18 zs = val B18 ys - val B18 xs → sgn n2 (val B18 zs) = num n1 xs + num n2 ys := fun zs h => by
    rw [h, num_eq, num_eq]; cases n1 <;> cases n2 <;> simp [sgn] at hne ⊢ <;> omega
  have hfit : ∀ zs, val B18 zs = val B18 ys - val B18 xs → val B18 zs < B18 ^ 30 := fun zs h => by
    have := val_lt ht
    have h3 : B18 ^ ys.length ≤ B18 ^ 30 := Nat.pow_le_pow_right (by unfold B18; omega) (by omega)
    omega
  have hlen : xs.length ≤ ys.length := by
    rcases Nat.lt_or_ge ys.length xs.length with h | h
    · have := val_lt_of_length B18_two ht hn h; omega
    · exact h
  have hq : cmpN (val B18 xs) (val B18 ys) < 0 := by unfold cmpN; rw [if_pos hle]; omega
  have HS := Lib.hid hsum; have HF := Lib.hid hfit; have HL := Lib.hid hlen; have HLE := Lib.hid hle
  clear hsum hfit hlen hle
  go_enter Tryd.func27, Tryd.ntmps27
  go_wp2_with fail
  refine (good_any n1 c _ A xs (by omega) (((hx.alloc _).alloc _).alloc _)).mono ?_
  rintro e w1 ⟨rfl, hb1⟩
  have X1 := (((Blk.new w 24 #[.bool n1, .slice A xs.length c]).alloc (.cells #[.bool n2, .slice B ys.length d] 24)).alloc (.cells #[.bool false, .slice none 0 0] 24)).below hb1 (by simp; omega)
  have Y1 := ((Blk.new (w.alloc (.cells #[.bool n1, .slice A xs.length c] 24)) 24 #[.bool n2, .slice B ys.length d]).alloc (.cells #[.bool false, .slice none 0 0] 24)).below hb1 (by simp)
  have R1 := (Blk.new ((w.alloc (.cells #[.bool n1, .slice A xs.length c] 24)).alloc (.cells #[.bool n2, .slice B ys.length d] 24)) 24 #[.bool false, .slice none 0 0]).below hb1 (by simp)
  have hx1 := (((hx.alloc (.cells #[.bool n1, .slice A xs.length c] 24)).alloc (.cells #[.bool n2, .slice B ys.length d] 24)).alloc (.cells #[.bool false, .slice none 0 0] 24)).below hb1 (Nat.le_refl _)
  have hy1 := (((hy.alloc (.cells #[.bool n1, .slice A xs.length c] 24)).alloc (.cells #[.bool n2, .slice B ys.length d] 24)).alloc (.cells #[.bool false, .slice none 0 0] 24)).below hb1 (Nat.le_refl _)
  have L1 : Below w.heap.size w w1 := ((((Below.refl _ _).alloc (Nat.le_refl _) _).alloc (by simp) _).alloc (by simp; omega) _).trans (hb1.mono (by simp; omega))
  simp only [World.size_alloc] at X1 Y1 R1
  clear hb1
  obtain ⟨x0, x1, x2, x3⟩ := X1.two
  obtain ⟨y0, y1, y2, y3⟩ := Y1.two
  go_wp2_with fail
  refine (good_any n2 d _ B ys (by omega) hy1).mono ?_
  rintro e w2 ⟨rfl, hb2⟩
  have X2 := X1.below hb2 X1.lt; have Y2 := Y1.below hb2 Y1.lt; have R2 := R1.below hb2 R1.lt
  have hx2 := hx1.below hb2 (Nat.le_refl _); have hy2 := hy1.below hb2 (Nat.le_refl _)
  have L2 := L1.trans (hb2.mono L1.size)
  clear x0 x1 x2 x3 y0 y1 y2 y3 X1 Y1 R1 hx1 hy1 L1 hb2
  obtain ⟨x0, x1, x2, x3⟩ := X2.two
  obtain ⟨y0, y1, y2, y3⟩ := Y2.two
  have hz : w.heap.size + 1 + 1 < w2.heap.size := R2.lt
  go_wp2_with fail
  refine (size_any A B c d xs ys _ hx2 hy2 hs ht hn hm (by omega) (by omega)).mono ?_
  rintro e w2' ⟨rfl, nq, rfl⟩
  generalize cmpN (val B18 xs) (val B18 ys) = q at hq ⊢
  have X2 := X2.drewN nq; have Y2 := Y2.drewN nq; have R2 := R2.drewN nq
  have hx2 := hx2.drewN nq; have hy2 := hy2.drewN nq
  have L2 := below_drewN L2 nq
  generalize w2.drewN nq = wq at *
  obtain ⟨x0, x1, x2, x3⟩ := X2.two
  obtain ⟨y0, y1, y2, y3⟩ := Y2.two
  have hz : w.heap.size + 1 + 1 < wq.heap.size := R2.lt
  go_wp2_with fail
  have X4 := (((X2.set_ 0 (.bool n2)).set_ 1 (.slice B ys.length d)).far (p := ⟨w.heap.size + 1, 0, none⟩) (by simp) (.bool n1)).far (p := ⟨w.heap.size + 1, 1, none⟩) (by simp) (.slice A xs.length c)
  have Y4 := (((Y2.far (p := ⟨w.heap.size, 0, none⟩) (by simp) (.bool n2)).far (p := ⟨w.heap.size, 1, none⟩) (by simp) (.slice B ys.length d)).set_ 0 (.bool n1)).set_ 1 (.slice A xs.length c)
  have R4 := (((R2.far (p := ⟨w.heap.size, 0, none⟩) (by simp; omega) (.bool n2)).far (p := ⟨w.heap.size, 1, none⟩) (by simp; omega) (.slice B ys.length d)).far (p := ⟨w.heap.size + 1, 0, none⟩) (by simp) (.bool n1)).far (p := ⟨w.heap.size + 1, 1, none⟩) (by simp) (.slice A xs.length c)
  have L4 := (((L2.setCell (p := ⟨w.heap.size, 0, none⟩) (by simp) (.bool n2)).setCell (p := ⟨w.heap.size, 1, none⟩) (by simp) (.slice B ys.length d)).setCell (p := ⟨w.heap.size + 1, 0, none⟩) (by simp) (.bool n1)).setCell (p := ⟨w.heap.size + 1, 1, none⟩) (by simp) (.slice A xs.length c)
  clear X2 Y2 R2 L2 x0 x1 x2 x3 y0 y1 y2 y3 hz hx2 hy2
  generalize (((wq.setCell ⟨w.heap.size, 0, none⟩ (.bool n2)).setCell ⟨w.heap.size, 1, none⟩ (.slice B ys.length d)).setCell ⟨w.heap.size + 1, 0, none⟩ (.bool n1)).setCell ⟨w.heap.size + 1, 1, none⟩ (.slice A xs.length c) = wz at *
  have X5 : Blk wz w.heap.size 24 #[.bool n2, .slice B ys.length d] := X4
  have Y5 : Blk wz (w.heap.size + 1) 24 #[.bool n1, .slice A xs.length c] := Y4
  obtain ⟨x0, x1, x2, x3⟩ := X5.two
  obtain ⟨y0, y1, y2, y3⟩ := Y5.two
  have hz : w.heap.size + 1 + 1 < wz.heap.size := R4.lt
  go_region_held3 (fun w' => w'.cell? ⟨w.heap.size, 0, none⟩ = some (.bool n2) ∧ w'.cell? ⟨w.heap.size, 1, none⟩ = some (.slice B ys.length d) ∧ w'.cell? ⟨w.heap.size + 1, 1, none⟩ = some (.slice A xs.length c))
    (first | exact ⟨x0, x1, y1⟩ | exact ⟨u0, u1, v1⟩ | exact ⟨p0, p1, q1⟩ | (refine ⟨?_, ?_, ?_⟩ <;> (rw [World.cell?_setCell_other _ _ _ _ (by simp), World.cell?_setCell_other _ _ _ _ (by simp)]; assumption)))
    (first
      | (go_at_call 51; refine (less_any B A d c ys xs _ (by exact hy.below L4.drew (Nat.le_refl _)) (by exact hx.below L4.drew (Nat.le_refl _)) ht hs (by omega) HL.out (Nat.le_of_lt HLE.out)).mono ?_; rintro e w3 ⟨g, zs, rfl, hrow, hzl, hzs, hzv, hge, hb3⟩; have X3 := X5.drew.below hb3 X5.lt; have Y3 := Y5.drew.below hb3 Y5.lt; have R3 := R4.drew.below hb3 R4.lt; have L3 := L4.drew.trans (hb3.mono L4.size); obtain ⟨u0, u1, u2, u3⟩ := X3.two; obtain ⟨v0, v1, v2, v3⟩ := Y3.two; have HZ := Lib.hid hzl; have HE := Lib.hid (HS.out zs hzv); have HW := Lib.hid hzv; clear hzl hzv)
      | (go_at_call 56; refine (fits_yes n2 _ _ zs _ (by exact hrow.nums HZ.out (small64 hzs)) hzs (by have := HZ.out; omega) (HF.out zs HW.out)).mono ?_; rintro e w4 ⟨A4, c4, rfl, hown, hb4⟩; rw [HE.out] at hown ⊢; obtain ⟨p0, p1, p2, p3⟩ := (X3.below hb4 X3.lt).two; obtain ⟨q0, q1, q2, q3⟩ := (Y3.below hb4 Y3.lt).two; obtain ⟨r0, r1, r2, r3⟩ := (R3.below hb4 R3.lt).two; have L6 := L3.trans (hb4.mono L3.size); have hr3 := R3.lt))
  go_wp2
  refine bodyPost_ret (v := .tuple #[.agg #[.bool (decide (num n1 xs + num n2 ys < 0)), .slice A4 (limbs (num n1 xs + num n2 ys)).length c4], .int .i64 0]) (by simp [results, Tryd.results27, go_sem, r0, r1]) rfl ?_
  exact fin_big hown L6 (by omega) hr3 _ _

theorem add_form (n1 n2 : Bool) (hx : Nums w A xs) (hy : Nums w B ys) (hl : xs.length ≤ 9223372036854775807) (hl' : ys.length ≤ 9223372036854775807) (hg : (goodB n1 xs && goodB n2 ys) = false) :
    Calls Tryd.prog 27 #[.agg #[.bool n1, .slice A xs.length c], .agg #[.bool n2, .slice B ys.length d]] w (RetBigErr w 0 3) := by
  cases h : goodB n1 xs
  · exact add_bad_x A B c d xs ys w n1 n2 hx hy hl hl' h
  · exact add_bad_y A B c d xs ys w n1 n2 hx hy hl hl' h (by simpa [h] using hg)
theorem sum_lt {n1 n2 : Bool} {xs ys : List Nat} (hg : goodB n1 xs = true) (hk : goodB n2 ys = true) (hne : (n1 == n2) = false) : (num n1 xs + num n2 ys).natAbs < B18 ^ 30 := by
  have h1 := num_lt hg
  have h2 := num_lt hk
  have e1 := num_natAbs n1 xs
  have e2 := num_natAbs n2 ys
  rw [num_eq, num_eq] at *
  cases n1 <;> cases n2 <;> simp [sgn] at hne h1 h2 ⊢ <;> omega
theorem add_ok (n1 n2 : Bool) (hx : Nums w A xs) (hy : Nums w B ys) (hg : goodB n1 xs = true) (hk : goodB n2 ys = true) (hf : (num n1 xs + num n2 ys).natAbs < B18 ^ 30) :
    Calls Tryd.prog 27 #[.agg #[.bool n1, .slice A xs.length c], .agg #[.bool n2, .slice B ys.length d]] w (RetBigErr w (num n1 xs + num n2 ys) 0) := by
  cases h : n1 == n2
  · rcases Nat.lt_or_ge (val B18 xs) (val B18 ys) with h1 | h1
    · exact add_diff_lt A B c d xs ys w n1 n2 hx hy hg hk h h1
    · exact add_diff_ge A B c d xs ys w n1 n2 hx hy hg hk h h1
  · obtain rfl : n1 = n2 := by simpa using h
    exact add_same_yes A B c d xs ys w n1 hx hy hg hk hf
theorem add_range (n1 n2 : Bool) (hx : Nums w A xs) (hy : Nums w B ys) (hg : goodB n1 xs = true) (hk : goodB n2 ys = true) (hf : B18 ^ 30 ≤ (num n1 xs + num n2 ys).natAbs) :
    Calls Tryd.prog 27 #[.agg #[.bool n1, .slice A xs.length c], .agg #[.bool n2, .slice B ys.length d]] w (RetBigErr w 0 7) := by
  cases h : n1 == n2
  · have := sum_lt hg hk h; omega
  · obtain rfl : n1 = n2 := by simpa using h
    exact add_same_no A B c d xs ys w n1 hx hy hg hk hf

end
end Go.Proofs.YteggjfmcpodepaaDoor


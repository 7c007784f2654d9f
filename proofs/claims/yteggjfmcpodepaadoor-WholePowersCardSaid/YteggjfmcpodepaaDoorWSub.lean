/- Add in one statement; the walk of whole.Sub. -/
import Derived.Test.YteggjfmcpodepaaDoorWAdd
namespace Go.Proofs.YteggjfmcpodepaaDoor
open Go.RowKit

/-- The number, and the error's number, that a sum or a product in the range answers. -/
@[irreducible] def outV (ok : Bool) (s : Int) : Int := if ok then (if s.natAbs < B18 ^ 30 then s else 0) else 0
@[irreducible] def outE (ok : Bool) (s : Int) : Int := if ok then (if s.natAbs < B18 ^ 30 then 0 else 7) else 3
theorem outV_ok {s : Int} (h : s.natAbs < B18 ^ 30) : outV true s = s := by unfold outV; rw [if_pos rfl, if_pos h]
theorem outE_ok {s : Int} (h : s.natAbs < B18 ^ 30) : outE true s = 0 := by unfold outE; rw [if_pos rfl, if_pos h]
theorem outV_big {s : Int} (h : B18 ^ 30 ≤ s.natAbs) : outV true s = 0 := by unfold outV; rw [if_pos rfl, if_neg (by omega)]
theorem outE_big {s : Int} (h : B18 ^ 30 ≤ s.natAbs) : outE true s = 7 := by unfold outE; rw [if_pos rfl, if_neg (by omega)]
theorem outV_bad (s : Int) : outV false s = 0 := by unfold outV; rfl
theorem outE_bad (s : Int) : outE false s = 3 := by unfold outE; rfl

section
variable (A B : Option Addr) (c d : Nat) (xs ys : List Nat) (w : World)
set_option maxRecDepth 100000
theorem add_any (n1 n2 : Bool) (hx : Nums w A xs) (hy : Nums w B ys) (hl : xs.length ≤ 9223372036854775807) (hl' : ys.length ≤ 9223372036854775807) :
    Calls Tryd.prog 27 #[.agg #[.bool n1, .slice A xs.length c], .agg #[.bool n2, .slice B ys.length d]] w
      (RetBigErr w (outV (goodB n1 xs && goodB n2 ys) (num n1 xs + num n2 ys)) (outE (goodB n1 xs && goodB n2 ys) (num n1 xs + num n2 ys))) := by
  cases h : (goodB n1 xs && goodB n2 ys)
  · rw [outV_bad, outE_bad]; exact add_form A B c d xs ys w n1 n2 hx hy hl hl' h
  · obtain ⟨hg, hk⟩ := Bool.and_eq_true_iff.1 h
    rcases Nat.lt_or_ge (num n1 xs + num n2 ys).natAbs (B18 ^ 30) with hf | hf
    · rw [outV_ok hf, outE_ok hf]; exact add_ok A B c d xs ys w n1 n2 hx hy hg hk hf
    · rw [outV_big hf, outE_big hf]; exact add_range A B c d xs ys w n1 n2 hx hy hg hk hf

set_option maxHeartbeats 1000000 in
theorem sub_bad (n1 n2 : Bool) (hy : Nums w B ys) (hl' : ys.length ≤ 9223372036854775807) (hk : goodB n2 ys = false) :
    Calls Tryd.prog 28 #[.agg #[.bool n1, .slice A xs.length c], .agg #[.bool n2, .slice B ys.length d]] w (RetBigErr w 0 3) := by
  go_enter Tryd.func28, Tryd.ntmps28
  go_wp2_with fail
  refine (good_any n2 d _ B ys hl' (((hy.alloc _).alloc _).alloc _)).mono ?_
  rintro e w1 ⟨rfl, hb1⟩
  have R1 := (Blk.new ((w.alloc (.cells #[.bool n1, .slice A xs.length c] 24)).alloc (.cells #[.bool n2, .slice B ys.length d] 24)) 24 #[.bool false, .slice none 0 0]).below hb1 (by simp)
  have L1 : Below w.heap.size w w1 := ((((Below.refl _ _).alloc (Nat.le_refl _) _).alloc (by simp) _).alloc (by simp; omega) _).trans (hb1.mono (by simp; omega))
  simp only [World.size_alloc] at R1
  clear hb1
  obtain ⟨r0, r1, r2, r3⟩ := R1.two
  go_wp2_with fail
  refine bodyPost_ret (v := .tuple #[.agg #[.bool false, .slice none 0 0], .int .i64 3]) (by simp [results, Tryd.results28, go_sem, r0, r1]) rfl ?_
  exact fin_zero L1 (by omega) _ _
set_option maxHeartbeats 1000000 in
theorem sub_good (n1 n2 : Bool) (hx : Nums w A xs) (hy : Nums w B ys) (hl : xs.length ≤ 9223372036854775807) (hk : goodB n2 ys = true) :
    Calls Tryd.prog 28 #[.agg #[.bool n1, .slice A xs.length c], .agg #[.bool n2, .slice B ys.length d]] w
      (RetBigErr w (outV (goodB n1 xs) (num n1 xs - num n2 ys)) (outE (goodB n1 xs) (num n1 xs - num n2 ys))) := by
  obtain ⟨_, _, hl', _⟩ := good_parts hk
  have hv := num_lt hk
  have hgl := good_limbs (i := - num n2 ys) (by rw [Int.natAbs_neg]; exact hv)
  have hnl := num_limbs (- num n2 ys)
  obtain ⟨y', hy'⟩ : ∃ y', y' = - num n2 ys := ⟨_, rfl⟩
  rw [← hy'] at hgl hnl
  have hll := (good_parts hgl).2.2.1
  have HV : Hid (outV (goodB n1 xs && goodB (decide (y' < 0)) (limbs y')) (num n1 xs + num (decide (y' < 0)) (limbs y')) = outV (goodB n1 xs) (num n1 xs - num n2 ys)) := by
    show _ = _; rw [hgl, hnl, Bool.and_true, hy', Int.sub_eq_add_neg]
  have HE : Hid (outE (goodB n1 xs && goodB (decide (y' < 0)) (limbs y')) (num n1 xs + num (decide (y' < 0)) (limbs y')) = outE (goodB n1 xs) (num n1 xs - num n2 ys)) := by
    show _ = _; rw [hgl, hnl, Bool.and_true, hy', Int.sub_eq_add_neg]
  have HY := Lib.hid hy'
  clear hv hgl hnl hy'
  go_enter Tryd.func28, Tryd.ntmps28
  go_wp2_with fail
  refine (good_any n2 d _ B ys (by omega) (((hy.alloc _).alloc _).alloc _)).mono ?_
  rintro e w1 ⟨rfl, hb1⟩
  have X1 := (((Blk.new w 24 #[.bool n1, .slice A xs.length c]).alloc (.cells #[.bool n2, .slice B ys.length d] 24)).alloc (.cells #[.bool false, .slice none 0 0] 24)).below hb1 (by simp; omega)
  have Y1 := ((Blk.new (w.alloc (.cells #[.bool n1, .slice A xs.length c] 24)) 24 #[.bool n2, .slice B ys.length d]).alloc (.cells #[.bool false, .slice none 0 0] 24)).below hb1 (by simp)
  have R1 := (Blk.new ((w.alloc (.cells #[.bool n1, .slice A xs.length c] 24)).alloc (.cells #[.bool n2, .slice B ys.length d] 24)) 24 #[.bool false, .slice none 0 0]).below hb1 (by simp)
  have L1 : Below w.heap.size w w1 := ((((Below.refl _ _).alloc (Nat.le_refl _) _).alloc (by simp) _).alloc (by simp; omega) _).trans (hb1.mono (by simp; omega))
  simp only [World.size_alloc] at X1 Y1 R1
  clear hb1
  have hx1 := hx.below L1 (Nat.le_refl _); have hy1 := hy.below L1 (Nat.le_refl _)
  obtain ⟨x0, x1, x2, x3⟩ := X1.two
  obtain ⟨y0, y1, y2, y3⟩ := Y1.two
  have hz : w.heap.size + 1 + 1 < w1.heap.size := R1.lt
  go_wp2_with fail
  go_region_held3 (fun w' => w'.cell? ⟨w.heap.size, 0, none⟩ = some (.bool n1) ∧ w'.cell? ⟨w.heap.size, 1, none⟩ = some (.slice A xs.length c) ∧ w'.cell? ⟨w.heap.size + 1, 0, none⟩ = some (.bool n2) ∧ w'.cell? ⟨w.heap.size + 1, 1, none⟩ = some (.slice B ys.length d))
    (first | (with_reducible exact ⟨x0, x1, y0, y1⟩) | (with_reducible exact ⟨u0, u1, v0, v1⟩) | (with_reducible exact ⟨p0, p1, q0, q1⟩) | (go_simp; done))
    (first
      | (go_at_call 31; refine (neg_good B d ys _ n2 (by repeat (first | with_reducible exact hy1 | with_reducible apply Nums.drew)) hk).mono ?_; rintro e w2 ⟨A2, c2, rfl, hown2, hb2⟩; rw [← HY.out] at hown2 ⊢; have X2 := Blk.below (w := _) (by repeat (first | with_reducible exact X1 | with_reducible apply Blk.drew)) hb2 X1.lt; have Y2 := Blk.below (w := _) (by repeat (first | with_reducible exact Y1 | with_reducible apply Blk.drew)) hb2 Y1.lt; have R2 := Blk.below (w := _) (by repeat (first | with_reducible exact R1 | with_reducible apply Blk.drew)) hb2 R1.lt; have hx2 := Nums.below (w := _) (by repeat (first | with_reducible exact hx1 | with_reducible apply Nums.drew)) hb2 (Nat.le_refl _); have L2 := Below.trans (b := _) (by repeat (first | with_reducible exact L1 | with_reducible apply Below.drew)) (hb2.mono L1.size); have hn2 := hown2.nums; obtain ⟨u0, u1, u2, u3⟩ := X2.two; obtain ⟨v0, v1, v2, v3⟩ := Y2.two)
      | (go_at_call 27; refine (add_any A A2 c c2 xs (limbs y') _ n1 (decide (y' < 0)) (by repeat (first | with_reducible exact hx2 | with_reducible apply Nums.drew)) (by repeat (first | with_reducible exact hn2 | with_reducible apply Nums.drew)) hl (by omega)).mono ?_; rintro e w3 ⟨A3, c3, rfl, hown3, hb3⟩; rw [HV.out] at hown3 ⊢; rw [HE.out]; have X3 := Blk.below (w := _) (by repeat (first | with_reducible exact X2 | with_reducible apply Blk.drew)) hb3 X2.lt; have Y3 := Blk.below (w := _) (by repeat (first | with_reducible exact Y2 | with_reducible apply Blk.drew)) hb3 Y2.lt; have R3 := Blk.below (w := _) (by repeat (first | with_reducible exact R2 | with_reducible apply Blk.drew)) hb3 R2.lt; have L3 := Below.trans (b := _) (by repeat (first | with_reducible exact L2 | with_reducible apply Below.drew)) (hb3.mono L2.size); have hrz := R2.lt; obtain ⟨p0, p1, p2, p3⟩ := X3.two; obtain ⟨q0, q1, q2, q3⟩ := Y3.two; obtain ⟨r0, r1, r2, r3⟩ := R3.two))
  all_goals
    go_wp2_with fail
    refine bodyPost_ret (v := .tuple #[.agg #[.bool (decide (outV (goodB n1 xs) (num n1 xs - num n2 ys) < 0)), .slice A3 (limbs (outV (goodB n1 xs) (num n1 xs - num n2 ys))).length c3], .int .i64 (outE (goodB n1 xs) (num n1 xs - num n2 ys))]) (by simp [results, Tryd.results28, go_sem, r0, r1]) rfl ?_
    exact fin_big hown3 L3 (by omega) hrz _ _
theorem sub_any (n1 n2 : Bool) (hx : Nums w A xs) (hy : Nums w B ys) (hl : xs.length ≤ 9223372036854775807) (hl' : ys.length ≤ 9223372036854775807) :
    Calls Tryd.prog 28 #[.agg #[.bool n1, .slice A xs.length c], .agg #[.bool n2, .slice B ys.length d]] w
      (RetBigErr w (outV (goodB n1 xs && goodB n2 ys) (num n1 xs - num n2 ys)) (outE (goodB n1 xs && goodB n2 ys) (num n1 xs - num n2 ys))) := by
  cases hk : goodB n2 ys
  · rw [Bool.and_false, outV_bad, outE_bad]; exact sub_bad A B c d xs ys w n1 n2 hy hl' hk
  · rw [Bool.and_true]; exact sub_good A B c d xs ys w n1 n2 hx hy hl hk
end
end Go.Proofs.YteggjfmcpodepaaDoor

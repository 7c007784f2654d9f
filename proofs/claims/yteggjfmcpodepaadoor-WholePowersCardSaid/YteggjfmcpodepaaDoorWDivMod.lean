/- The walk of whole.DivMod. -/
import Derived.Test.YteggjfmcpodepaaDoorWAdd
import Derived.Test.YteggjfmcpodepaaDoorWDivOne
namespace Go.Proofs.YteggjfmcpodepaaDoor
open Go.RowKit

/-- What a call leaves that answers two numbers and an error. -/
def RetTwo (W : World) (i j : Int) (f : Int) (e : Ending) (w' : World) : Prop :=
  ∃ A c B d, e = .returned (.tuple #[.agg #[.bool (decide (i < 0)), .slice A (limbs i).length c], .agg #[.bool (decide (j < 0)), .slice B (limbs j).length d], .int .i64 f]) ∧
    Own w' W.heap.size A c (limbs i) ∧ Own w' W.heap.size B d (limbs j) ∧ Below W.heap.size W w' ∧ (∀ p q, A = some p → B = some q → p.block ≠ q.block)
/-- The quotient rounded down, and the rest. -/
@[irreducible] def dq (n1 n2 : Bool) (X Y : Nat) : Int := if n1 = n2 then ((X / Y : Nat) : Int) else if X % Y = 0 then -((X / Y : Nat) : Int) else -((X / Y + 1 : Nat) : Int)
@[irreducible] def dr (n1 n2 : Bool) (X Y : Nat) : Int := if n1 = n2 then sgn n1 (X % Y) else if X % Y = 0 then 0 else sgn n2 (Y - X % Y)
theorem dq_plain {n1 n2 : Bool} {X Y : Nat} (h : n1 = n2 ∨ X % Y = 0) : sgn (n1 != n2) (X / Y) = dq n1 n2 X Y := by
  unfold dq sgn
  by_cases h1 : n1 = n2
  · subst h1; simp
  · rcases h with h | h
    · exact absurd h h1
    · simp [h1, h]
theorem dr_plain {n1 n2 : Bool} {X Y : Nat} (h : n1 = n2 ∨ X % Y = 0) : sgn n1 (X % Y) = dr n1 n2 X Y := by
  unfold dr
  by_cases h1 : n1 = n2
  · rw [if_pos h1]
  · rcases h with h | h
    · exact absurd h h1
    · rw [if_neg h1, if_pos h, h]; cases n1 <;> rfl

theorem fin_two {W wc : World} {i j f : Int} {A4 A5 : Option Addr} {c4 c5 base g0 g1 : Nat} (h4 : Own wc base A4 c4 (limbs i)) (h5 : Own wc base A5 c5 (limbs j)) (L : Below W.heap.size W wc)
    (hg : W.heap.size ≤ g0) (hgb : g0 < base) (hg' : W.heap.size ≤ g1) (hgb' : g1 < base) (hd : ∀ p q, A4 = some p → A5 = some q → p.block ≠ q.block) (u v u' v' : Value) :
    RetTwo W i j f (.returned (.tuple #[.agg #[.bool (decide (i < 0)), .slice A4 (limbs i).length c4], .agg #[.bool (decide (j < 0)), .slice A5 (limbs j).length c5], .int .i64 f])) ((((wc.setCell ⟨g0, 0, none⟩ u).setCell ⟨g0, 1, none⟩ v).setCell ⟨g1, 0, none⟩ u').setCell ⟨g1, 1, none⟩ v').drew :=
  ⟨A4, c4, A5, c5, rfl, (((((h4.setBelow hgb _).setBelow hgb _).setBelow hgb' _).setBelow hgb' _).mono (by omega)).drew, (((((h5.setBelow hgb _).setBelow hgb _).setBelow hgb' _).setBelow hgb' _).mono (by omega)).drew,
    ((((L.setCell hg _).setCell hg _).setCell hg' _).setCell hg' _).drew, hd⟩

theorem val_limbs (i : Int) : val B18 (limbs i) = i.natAbs := by rw [limbs_eq, val_digs B18_two]
theorem turn_facts {n1 n2 bq : Bool} {xs ys qs rs : List Nat} {qi ri : Int} (hp : ¬ (n1 = n2 ∨ val B18 xs % val B18 ys = 0)) (hs : small B18 xs) (hl : xs.length ≤ 30) (ht : small B18 ys)
    (hqv : val B18 qs = val B18 xs / val B18 ys) (hrv : val B18 rs = val B18 xs % val B18 ys) (hqi : qi = sgn bq (val B18 qs)) (hri : ri = sgn n1 (val B18 rs)) (hbq : bq = (n1 != n2)) (hy0 : 0 < val B18 ys) :
    qi.natAbs = val B18 xs / val B18 ys ∧ val B18 (limbs qi) = val B18 xs / val B18 ys ∧ val B18 (limbs ri) = val B18 xs % val B18 ys ∧ (limbs qi).length ≤ 30 ∧ (limbs ri).length ≤ ys.length ∧ 0 < (limbs ri).length ∧
      val B18 (limbs ri) ≤ val B18 ys ∧ bq = true ∧ Hid (sgn true (val B18 xs / val B18 ys + 1) = dq n1 n2 (val B18 xs) (val B18 ys)) ∧ Hid (sgn n2 (val B18 ys - val B18 xs % val B18 ys) = dr n1 n2 (val B18 xs) (val B18 ys)) := by
  obtain ⟨h1, h2⟩ := not_or.1 hp
  have ha : qi.natAbs = val B18 xs / val B18 ys := by rw [hqi, sgn_natAbs, hqv]
  have hb : ri.natAbs = val B18 xs % val B18 ys := by rw [hri, sgn_natAbs, hrv]
  have hX : val B18 xs < B18 ^ 30 := Nat.lt_of_lt_of_le (val_lt hs) (Nat.pow_le_pow_right (by unfold B18; omega) hl)
  have hY := val_lt ht
  have hmod : val B18 xs % val B18 ys < val B18 ys := by
    exact Nat.mod_lt _ hy0
  have hl1 : (limbs qi).length ≤ 30 := by
    rw [limbs_eq, digs_length_le B18_two, ha]
    exact Nat.lt_of_le_of_lt (Nat.div_le_self _ _) hX
  have hl2 : (limbs ri).length ≤ ys.length := by
    rw [limbs_eq, digs_length_le B18_two, hb]; omega
  refine ⟨ha, by rw [val_limbs, ha], by rw [val_limbs, hb], hl1, hl2, ?_, by rw [val_limbs, hb]; omega, by rw [hbq]; cases n1 <;> cases n2 <;> simp_all, ?_, ?_⟩
  · rcases Nat.eq_zero_or_pos (limbs ri).length with h0 | h0
    · have := val_limbs ri
      rw [List.eq_nil_of_length_eq_zero h0, hb] at this
      exact absurd this.symm h2
    · exact h0
  · show _ = _
    unfold dq sgn; rw [if_neg h1, if_neg h2]; simp
  · show _ = _
    unfold dr; rw [if_neg h1, if_neg h2]

section
variable (A B : Option Addr) (c d : Nat) (xs ys : List Nat) (w : World)
set_option maxRecDepth 100000
set_option maxHeartbeats 4000000 in
theorem divmod_good (hdiv : ∀ w : World, Nums w A xs → Nums w B ys → Calls Tryd.prog 48 #[.slice A xs.length c, .slice B ys.length d] w (DivPost w (val B18 xs) (val B18 ys)))
    (n1 n2 : Bool) (hx : Nums w A xs) (hy : Nums w B ys) (hg : goodB n1 xs = true) (hk : goodB n2 ys = true) (h0 : 0 < ys.length) :
    Calls Tryd.prog 14 #[.agg #[.bool n1, .slice A xs.length c], .agg #[.bool n2, .slice B ys.length d]] w (RetTwo w (dq n1 n2 (val B18 xs) (val B18 ys)) (dr n1 n2 (val B18 xs) (val B18 ys)) 0) := by
  obtain ⟨hs, hn, hl, _⟩ := good_parts hg
  obtain ⟨ht, hm, hl', _⟩ := good_parts hk
  have HD := Lib.hid hdiv
  have hy0 : 0 < val B18 ys := Nat.pos_of_ne_zero (val_ne_zero B18_two hm (by omega))
  have h00 : ((ys.length : Int) == 0) = false := beq_eq_false_iff_ne.2 (by omega)
  clear hdiv
  go_enter Tryd.func14, Tryd.ntmps14
  go_wp2_with fail
  refine (good_any n1 c _ A xs (by omega) ((((hx.alloc _).alloc _).alloc _).alloc _)).mono ?_
  rintro e w1 ⟨rfl, hb1⟩
  have X1 := ((((Blk.new w 24 #[.bool n1, .slice A xs.length c]).alloc (.cells #[.bool n2, .slice B ys.length d] 24)).alloc (.cells #[.bool false, .slice none 0 0] 24)).alloc (.cells #[.bool false, .slice none 0 0] 24)).below hb1 (by simp; omega)
  have Y1 := (((Blk.new (w.alloc (.cells #[.bool n1, .slice A xs.length c] 24)) 24 #[.bool n2, .slice B ys.length d]).alloc (.cells #[.bool false, .slice none 0 0] 24)).alloc (.cells #[.bool false, .slice none 0 0] 24)).below hb1 (by simp; try omega)
  have R1 := ((Blk.new ((w.alloc (.cells #[.bool n1, .slice A xs.length c] 24)).alloc (.cells #[.bool n2, .slice B ys.length d] 24)) 24 #[.bool false, .slice none 0 0]).alloc (.cells #[.bool false, .slice none 0 0] 24)).below hb1 (by simp)
  have S1 := (Blk.new (((w.alloc (.cells #[.bool n1, .slice A xs.length c] 24)).alloc (.cells #[.bool n2, .slice B ys.length d] 24)).alloc (.cells #[.bool false, .slice none 0 0] 24)) 24 #[.bool false, .slice none 0 0]).below hb1 (by simp)
  have L1 : Below w.heap.size w w1 := (((((Below.refl _ _).alloc (Nat.le_refl _) _).alloc (by simp) _).alloc (by simp; omega) _).alloc (by simp; omega) _).trans (hb1.mono (by simp; omega))
  simp only [World.size_alloc] at X1 Y1 R1 S1
  clear hb1
  obtain ⟨x0, x1, x2, x3⟩ := X1.two
  obtain ⟨y0, y1, y2, y3⟩ := Y1.two
  go_wp2_with fail
  refine (good_any n2 d _ B ys (by omega) (hy.below L1 (Nat.le_refl _))).mono ?_
  rintro e w2 ⟨rfl, hb2⟩
  have X2 := X1.below hb2 X1.lt; have Y2 := Y1.below hb2 Y1.lt; have R2 := R1.below hb2 R1.lt; have S2 := S1.below hb2 S1.lt
  have L2 := L1.trans (hb2.mono L1.size)
  clear x0 x1 x2 x3 y0 y1 y2 y3 X1 Y1 R1 S1 L1 hb2
  obtain ⟨x0, x1, x2, x3⟩ := X2.two
  obtain ⟨y0, y1, y2, y3⟩ := Y2.two
  go_wp2_with fail
  refine (HD.out _ (hx.below L2 (Nat.le_refl _)) (hy.below L2 (Nat.le_refl _))).mono ?_
  rintro e w3 ⟨A1, c1, qs, A2, c2, rs, rfl, hq, hr, hqs, hrs, hql, hrl, hqv, hrv, hb3⟩
  have X3 := X2.below hb3 X2.lt; have Y3 := Y2.below hb3 Y2.lt; have R3 := R2.below hb3 R2.lt; have S3 := S2.below hb3 S2.lt
  have L3 := L2.trans (hb3.mono L2.size)
  have HQV := Lib.hid hqv; have HRV := Lib.hid hrv
  clear x0 x1 x2 x3 y0 y1 y2 y3 X2 Y2 R2 S2 L2 hb3 hqv hrv
  obtain ⟨x0, x1, x2, x3⟩ := X3.two
  obtain ⟨y0, y1, y2, y3⟩ := Y3.two
  obtain ⟨bq, hbq⟩ : ∃ b, b = (n1 != n2) := ⟨_, rfl⟩
  have hbn : (!(n1 == n2)) = bq := by rw [hbq]; cases n1 <;> cases n2 <;> rfl
  have hbn2 : (n1 != n2) = bq := hbq.symm
  have HBQ := Lib.hid hbq
  clear hbq
  have hzx3 := X3.lt; have hzy3 := Y3.lt; have hR3 : w.heap.size + 1 + 1 < w3.heap.size := R3.lt; have hS3 : w.heap.size + 1 + 1 + 1 < w3.heap.size := S3.lt
  obtain ⟨qi, hqi⟩ : ∃ qi, qi = sgn bq (val B18 qs) := ⟨_, rfl⟩
  obtain ⟨ri, hri⟩ : ∃ ri, ri = sgn n1 (val B18 rs) := ⟨_, rfl⟩
  have HQI := Lib.hid hqi; have HRI := Lib.hid hri
  clear hqi hri
  go_upto_region 6 with fail
  go_cut [9, 10] (fun s9 s10 wx => ∃ (g9 g10 : Nat) (A4 : Option Addr) (c4 : Nat) (A5 : Option Addr) (c5 : Nat), s9 = .pointer (some ⟨g9, 0, none⟩) ∧ s10 = .pointer (some ⟨g10, 0, none⟩) ∧ g9 ≠ g10 ∧ w3.heap.size ≤ g9 ∧ w3.heap.size ≤ g10 ∧
      Blk wx g9 24 #[.bool (decide (qi < 0)), .slice A4 (limbs qi).length c4] ∧ Blk wx g10 24 #[.bool (decide (ri < 0)), .slice A5 (limbs ri).length c5] ∧
      Own wx w3.heap.size A4 c4 (limbs qi) ∧ Own wx w3.heap.size A5 c5 (limbs ri) ∧ Below w3.heap.size w3 wx ∧ Hid (∀ p q, A4 = some p → A5 = some q → p.block ≠ q.block))
  case first =>
    go_region_held3 (fun w' => w'.cell? ⟨w.heap.size, 0, none⟩ = some (.bool n1) ∧ w'.cell? ⟨w.heap.size + 1, 0, none⟩ = some (.bool n2))
      (first | (with_reducible exact ⟨x0, y0⟩) | (with_reducible exact ⟨u0, v0⟩) | (with_reducible exact ⟨p0, q0⟩) | (go_simp; done))
      (first
        | (go_at_call_of 49 (Value.slice A1 qs.length c1); refine (form_any bq A1 c1 qs _ (by repeat (first | with_reducible exact hq | with_reducible apply Nums.alloc | with_reducible apply Nums.drew)) hqs hql).mono ?_; rintro e w4 ⟨A4, c4, rfl, hown4, hb4⟩; rw [← HQI.out] at hown4 ⊢; have X4 : Blk w4 w.heap.size 24 #[.bool n1, .slice A xs.length c] := Blk.below (w := _) (by repeat (first | with_reducible exact X3 | with_reducible apply Blk.alloc | with_reducible apply Blk.drew)) hb4 (by first | exact X3.lt | (simp; omega)); have Y4 : Blk w4 (w.heap.size + 1) 24 #[.bool n2, .slice B ys.length d] := Blk.below (w := _) (by repeat (first | with_reducible exact Y3 | with_reducible apply Blk.alloc | with_reducible apply Blk.drew)) hb4 (by first | exact Y3.lt | (simp; omega)); have hr4 : Nums w4 A2 rs := Nums.below (w := _) (by repeat (first | with_reducible exact hr | with_reducible apply Nums.alloc | with_reducible apply Nums.drew)) hb4 (Nat.le_refl _); obtain ⟨u0, u1, u2, u3⟩ := X4.two; obtain ⟨v0, v1, v2, v3⟩ := Y4.two; have hzx4 := X4.lt; have hzy4 := Y4.lt; obtain ⟨hcc4, hff4⟩ := bcell hb4; have hss4 := hb4.size; (try (simp only [World.size_drew] at hcc4 hff4 hss4)); (try (simp only [World.size_alloc] at hcc4 hff4 hss4)); have ha4 : w3.heap.size ≤ w4.heap.size := (by omega); (first | (have hs4a : w3.heap.size < w4.heap.size := Nat.lt_of_succ_le hss4) | (have hs4a : w3.heap.size < w4.heap.size := Nat.lt_of_succ_lt (Nat.lt_of_succ_le hss4); have hs4b : w3.heap.size + 1 < w4.heap.size := Nat.lt_of_succ_le hss4) | skip); (first | (refine (fun (Z4a : Blk w4 w3.heap.size 24 #[.bool false, .slice none 0 0]) => ?_) ?_; rotate_left; focus (refine Blk.below (w := _) ?_ hb4 ?_; all_goals (first | omega | (simp; done) | (simp; omega) | ((repeat (first | with_reducible exact Blk.new _ _ _ | with_reducible apply Blk.alloc | with_reducible apply Blk.drew)); done)))) | skip); (first | (refine (fun (Z4b : Blk w4 (w3.heap.size + 1) 24 #[.bool false, .slice none 0 0]) => ?_) ?_; rotate_left; focus (refine Blk.below (w := _) ?_ hb4 ?_; all_goals (first | omega | (simp; done) | (simp; omega) | ((repeat (first | with_reducible exact Blk.new1 _ _ _ _ | with_reducible apply Blk.alloc | with_reducible apply Blk.drew)); done)))) | skip); have ho4 : Own w4 w3.heap.size A4 c4 (limbs qi) := hown4.mono (by first | exact Nat.le_refl _ | (simp; done) | (simp; omega)); have l4 : Below w3.heap.size w3 w4 := Below.trans (b := _) (by repeat (first | with_reducible exact Below.refl _ _ | (with_reducible refine Below.alloc ?_ (by first | exact Nat.le_refl _ | (simp; done) | (simp; omega)) _) | with_reducible apply Below.drew)) (hb4.mono (by first | exact Nat.le_refl _ | (simp; done) | (simp; omega))))
        | (go_at_call_of 49 (Value.slice A2 rs.length c2); refine (form_any n1 A2 c2 rs _ (by repeat (first | with_reducible exact hr4 | with_reducible apply Nums.alloc | with_reducible apply Nums.drew)) hrs hrl).mono ?_; rintro e w5 ⟨A5, c5, rfl, hown5, hb5⟩; rw [← HRI.out] at hown5 ⊢; have X5 : Blk w5 w.heap.size 24 #[.bool n1, .slice A xs.length c] := Blk.below (w := _) (by repeat (first | with_reducible exact X4 | with_reducible apply Blk.alloc | with_reducible apply Blk.drew)) hb5 (by first | exact X4.lt | (simp; omega)); have Y5 : Blk w5 (w.heap.size + 1) 24 #[.bool n2, .slice B ys.length d] := Blk.below (w := _) (by repeat (first | with_reducible exact Y4 | with_reducible apply Blk.alloc | with_reducible apply Blk.drew)) hb5 (by first | exact Y4.lt | (simp; omega)); obtain ⟨p0, p1, p2, p3⟩ := X5.two; obtain ⟨q0, q1, q2, q3⟩ := Y5.two; have hzx5 := X5.lt; have hzy5 := Y5.lt; obtain ⟨hcc5, hff5⟩ := bcell hb5; have hss5 := hb5.size; (try (simp only [World.size_drew] at hcc5 hff5 hss5)); (try (simp only [World.size_alloc] at hcc5 hff5 hss5)); have ha5 : w4.heap.size ≤ w5.heap.size := (by omega); (first | (have hs5a : w4.heap.size < w5.heap.size := Nat.lt_of_succ_le hss5) | (have hs5a : w4.heap.size < w5.heap.size := Nat.lt_of_succ_lt (Nat.lt_of_succ_le hss5); have hs5b : w4.heap.size + 1 < w5.heap.size := Nat.lt_of_succ_le hss5) | skip); (first | (have hhs4a5 := Nat.lt_of_lt_of_le hs4a ha5) | skip); (first | (have hhs4b5 := Nat.lt_of_lt_of_le hs4b ha5) | skip); (first | (refine (fun (Z5a : Blk w5 w3.heap.size 24 #[.bool false, .slice none 0 0]) => ?_) ?_; rotate_left; focus (refine Blk.below (w := _) ?_ hb5 ?_; all_goals (first | omega | (simp; done) | (simp; omega) | ((repeat (first | with_reducible exact Z4a | with_reducible apply Blk.alloc | with_reducible apply Blk.drew)); done)))) | skip); (first | (refine (fun (Z5b : Blk w5 (w3.heap.size + 1) 24 #[.bool false, .slice none 0 0]) => ?_) ?_; rotate_left; focus (refine Blk.below (w := _) ?_ hb5 ?_; all_goals (first | omega | (simp; done) | (simp; omega) | ((repeat (first | with_reducible exact Z4b | with_reducible apply Blk.alloc | with_reducible apply Blk.drew)); done)))) | skip); (first | (refine (fun (Z5c : Blk w5 w4.heap.size 24 #[.bool false, .slice none 0 0]) => ?_) ?_; rotate_left; focus (refine Blk.below (w := _) ?_ hb5 ?_; all_goals (first | omega | (simp; done) | (simp; omega) | ((repeat (first | with_reducible exact Blk.new _ _ _ | with_reducible apply Blk.alloc | with_reducible apply Blk.drew)); done)))) | skip); (first | (refine (fun (Z5d : Blk w5 (w4.heap.size + 1) 24 #[.bool false, .slice none 0 0]) => ?_) ?_; rotate_left; focus (refine Blk.below (w := _) ?_ hb5 ?_; all_goals (first | omega | (simp; done) | (simp; omega) | ((repeat (first | with_reducible exact Blk.new1 _ _ _ _ | with_reducible apply Blk.alloc | with_reducible apply Blk.drew)); done)))) | skip); have ho45 : Own w5 w3.heap.size A4 c4 (limbs (qi)) := Own.below (w := _) (by repeat (first | with_reducible exact ho4 | with_reducible apply Own.alloc | with_reducible apply Own.drew)) hb5 (Nat.le_refl _); have ho5 : Own w5 w3.heap.size A5 c5 (limbs ri) := hown5.mono (by first | omega | (simp; omega)); have l5 : Below w3.heap.size w3 w5 := Below.trans (b := _) (by repeat (first | with_reducible exact l4 | (with_reducible refine Below.alloc ?_ (by first | omega | (simp; omega)) _) | with_reducible apply Below.drew)) (hb5.mono (by first | omega | (simp; omega))); have hdis : Hid (∀ p q, A4 = some p → A5 = some q → p.block ≠ q.block) := (fun p q hp hq' => by have h1 := ho4.ge p hp; have h2 := hown5.ge q hq'; (try simp at h2); omega)))
    all_goals (go_wp2_with fail)
    all_goals go_meet
    all_goals
      refine ⟨_, _, A4, c4, A5, c5, rfl, rfl, ?_, ?_, ?_, ?_, ?_, ?_, ?_, ?_, hdis⟩
      all_goals (repeat' (first | with_reducible assumption | with_reducible exact Blk.new _ _ _ | with_reducible exact Blk.new1 _ _ _ _ | (with_reducible refine Blk.newAt ?_; (first | omega | (simp; done) | (simp; omega))) | with_reducible apply Blk.alloc | with_reducible refine Blk.set2 (x := .bool false) (y := .slice none 0 0) ?_ _ _ | with_reducible refine Blk.far ?_ ?_ _ | with_reducible apply Own.alloc | with_reducible refine Own.set2 (x := .bool false) (y := .slice none 0 0) (t := 24) ?_ ?_ ?_ _ _ | with_reducible refine Below.alloc ?_ ?_ _ | with_reducible refine Below.setCell ?_ ?_ _ | omega | (simp; omega) | (simp; done) | decide))
  case rest =>
    obtain ⟨g9, g10, A4, c4, A5, c5, rfl, rfl, hne, hg9, hg10, Z9, Z10, ho4, ho5, l5, hdis⟩ := hcut
    have X5 := X3.below l5 X3.lt; have Y5 := Y3.below l5 Y3.lt; have R5 := R3.below l5 R3.lt; have S5 := S3.below l5 S3.lt
    have L5 := L3.trans (l5.mono L3.size)
    clear x0 x1 x2 x3 y0 y1 y2 y3 X3 Y3 R3 S3 l5 L3
    obtain ⟨x0, x1, x2, x3⟩ := X5.two
    obtain ⟨y0, y1, y2, y3⟩ := Y5.two
    obtain ⟨u0, u1, u2, u3⟩ := Z9.two
    obtain ⟨v0, v1, v2, v3⟩ := Z10.two
    obtain ⟨r0, r1, r2, r3⟩ := R5.two
    obtain ⟨s0, s1, s2, s3⟩ := S5.two
    have hr3 : w.heap.size + 1 + 1 < w3.heap.size := hR3
    have hs3 : w.heap.size + 1 + 1 + 1 < w3.heap.size := hS3
    have e1 : w.heap.size + 1 + 1 ≠ g9 := by omega
    have e2 : w.heap.size + 1 + 1 ≠ g10 := by omega
    have e3 : w.heap.size + 1 + 1 + 1 ≠ g9 := by omega
    have e4 : w.heap.size + 1 + 1 + 1 ≠ g10 := by omega
    by_cases hp : n1 = n2 ∨ val B18 xs % val B18 ys = 0
    · obtain ⟨L, hL⟩ : ∃ L : Nat, L = (limbs ri).length := ⟨_, rfl⟩
      have HQ := Lib.hid (dq_plain hp); have HR := Lib.hid (dr_plain hp)
      have hfin : n1 = n2 ∨ L = 0 := by
        rcases hp with h | h
        · exact Or.inl h
        · right
          rw [hL, HRI.out, HRV.out, h]; cases n1 <;> simp [sgn, limbs_zero]
      have hnn : n1 ≠ n2 → L = 0 := fun h => hfin.resolve_left h
      rw [← hL] at v1
      clear hfin hp
      have HQV' : Hid (qi = dq n1 n2 (val B18 xs) (val B18 ys)) := by show _ = _; rw [HQI.out, HQV.out, HBQ.out]; exact HQ.out
      have HRV' : Hid (ri = dr n1 n2 (val B18 xs) (val B18 ys)) := by show _ = _; rw [HRI.out, HRV.out]; exact HR.out
      by_cases h7 : L = 0
      · have h7' : decide ((0 : Int) < (L : Int)) = false := by simp [h7]
        have hlt : ¬ ((0 : Int) < (L : Int)) := by omega
        clear h7 hnn
        go_upto_region 10 with fail
        go_region
        go_wp2_with fail
        rw [← HQV'.out, ← HRV'.out]
        refine bodyPost_ret (v := .tuple #[.agg #[.bool (decide (qi < 0)), .slice A4 (limbs qi).length c4], .agg #[.bool (decide (ri < 0)), .slice A5 (limbs ri).length c5], .int .i64 0]) (by simp [results, Tryd.results14, go_sem, r0, r1, s0, s1]) rfl ?_
        exact fin_two ho4 ho5 L5 (by omega) hr3 (by omega) hs3 hdis.out _ _ _ _
      · have h12 : n1 = n2 := Classical.byContradiction fun h => h7 (hnn h)
        subst h12
        have h7' : decide ((0 : Int) < (L : Int)) = true := by simp; omega
        have hlt : (0 : Int) < (L : Int) := by omega
        clear h7 hnn
        go_upto_region 10 with fail
        go_region
        go_wp2_with fail
        rw [← HQV'.out, ← HRV'.out]
        refine bodyPost_ret (v := .tuple #[.agg #[.bool (decide (qi < 0)), .slice A4 (limbs qi).length c4], .agg #[.bool (decide (ri < 0)), .slice A5 (limbs ri).length c5], .int .i64 0]) (by simp [results, Tryd.results14, go_sem, r0, r1, s0, s1]) rfl ?_
        exact fin_two ho4 ho5 L5 (by omega) hr3 (by omega) hs3 hdis.out _ _ _ _
    · obtain ⟨hqx, hqv, hrv, hql4, hrl4, hL0, hle, hbt, HQV', HRV'⟩ := turn_facts hp hs hl ht HQV.out HRV.out HQI.out HRI.out HBQ.out hy0
      have HX := Lib.hid hp; have HL := Lib.hid hle; have HV := Lib.hid hqv; have HW := Lib.hid hrv
      clear hp hle hqv hrv hqx
      subst hbt
      obtain ⟨L, hL⟩ : ∃ L : Nat, L = (limbs ri).length := ⟨_, rfl⟩
      rw [← hL] at v1
      have h7' : decide ((0 : Int) < (L : Int)) = true := by simp; omega
      have hlt : (0 : Int) < (L : Int) := by omega
      have hq5 := ho4.nums; have hr5 := ho5.nums
      go_wp2_with fail
      refine (more_any A4 _ c4 1 (limbs qi) [1] _ (hq5.alloc _) (nums_one wc 1 1 rfl (by omega)) (limbs_small _) (by intro x hx; simp at hx; subst hx; unfold B18; omega) (by omega) (by simp)).mono ?_
      rintro e w4 ⟨g, zs, rfl, hrow, hzl, hzs, hzv, hge, hb4⟩
      have hcx := X5.lt; have hcy := Y5.lt; have hcr := R5.lt; have hcs := S5.lt
      have X6 := (X5.alloc _).below hb4 (by simp; omega); have Y6 := (Y5.alloc _).below hb4 (by simp; omega); have R6 := (R5.alloc _).below hb4 (by simp; omega); have S6 := (S5.alloc _).below hb4 (by simp; omega)
      have hz9 := Z9.lt; have hz10 := Z10.lt
      have Z96 := (Z9.alloc _).below hb4 (by simp; omega); have Z106 := (Z10.alloc _).below hb4 (by simp; omega)
      have ho56 := (ho5.alloc _).below hb4 (Nat.le_refl _)
      have L6 := (L5.alloc L5.size _).trans (hb4.mono (by have := L5.size; simp; omega))
      have hbs4 := hb4.size
      simp only [World.size_alloc] at hbs4
      have HZV : Hid (sgn true (val B18 zs) = dq n1 n2 (val B18 xs) (val B18 ys)) := by
        show _ = _; rw [hzv, HV.out]; exact HQV'.out
      have hzlen : zs.length ≤ 1048576 := by rw [hzl]; simp; omega
      have hzn := hrow.nums hzl (small64 hzs)
      clear hb4 hzl hzv hrow X5 Y5 R5 S5 Z9 Z10 ho4 ho5 L5 hq5 hr5 x0 x1 x2 x3 y0 y1 y2 y3 u0 u1 u2 u3 v0 v1 v2 v3 r0 r1 r2 r3 s0 s1 s2 s3
      go_wp2_with fail
      refine (form_any true _ _ zs _ hzn hzs hzlen).mono ?_
      rintro e w5 ⟨A6, c6, rfl, ho6, hb5⟩
      rw [HZV.out] at ho6 ⊢
      have X7 := X6.below hb5 X6.lt; have Y7 := Y6.below hb5 Y6.lt; have R7 := R6.below hb5 R6.lt; have S7 := S6.below hb5 S6.lt
      have Z97 := Z96.below hb5 Z96.lt; have Z107 := Z106.below hb5 Z106.lt
      have ho57 := ho56.below hb5 (Nat.le_refl _)
      have L7 := L6.trans (hb5.mono L6.size)
      have hbs5 := hb5.size
      clear hb5 X6 Y6 R6 S6 Z96 Z106 ho56 L6
      obtain ⟨u0, u1, u2, u3⟩ := Z97.two
      go_upto_region 9 with fail
      have e9x : w.heap.size ≠ g9 := by omega
      have e9y : w.heap.size + 1 ≠ g9 := by omega
      obtain ⟨W, hW⟩ : ∃ W, W = (w5.setCell ⟨g9, 0, none⟩ (.bool (decide (dq n1 n2 (val B18 xs) (val B18 ys) < 0)))).setCell ⟨g9, 1, none⟩ (.slice A6 (limbs (dq n1 n2 (val B18 xs) (val B18 ys))).length c6) := ⟨_, rfl⟩
      have X8 : Blk W w.heap.size 24 #[.bool n1, .slice A xs.length c] := by rw [hW]; exact (X7.far e9x _).far e9x _
      have Y8 : Blk W (w.heap.size + 1) 24 #[.bool n2, .slice B ys.length d] := by rw [hW]; exact (Y7.far e9y _).far e9y _
      have R8 : Blk W (w.heap.size + 1 + 1) 24 #[.bool false, .slice none 0 0] := by rw [hW]; exact (R7.far e1 _).far e1 _
      have S8 : Blk W (w.heap.size + 1 + 1 + 1) 24 #[.bool false, .slice none 0 0] := by rw [hW]; exact (S7.far e3 _).far e3 _
      have Z98 : Blk W g9 24 #[.bool (decide (dq n1 n2 (val B18 xs) (val B18 ys) < 0)), .slice A6 (limbs (dq n1 n2 (val B18 xs) (val B18 ys))).length c6] := by rw [hW]; exact Z97.set2 _ _
      have Z108 : Blk W g10 24 #[.bool (decide (ri < 0)), .slice A5 L c5] := by rw [hW, hL]; exact (Z107.far hne.symm _).far hne.symm _
      have ho58 : Own W w3.heap.size A5 c5 (limbs ri) := by rw [hW]; exact ho57.set2 Z97 (by decide) _ _
      have ho68 : Own W w4.heap.size A6 c6 (limbs (dq n1 n2 (val B18 xs) (val B18 ys))) := by rw [hW]; exact ho6.set2 Z97 (by decide) _ _
      have L8 : Below w.heap.size w W := by rw [hW]; exact (L7.setCell (by show w.heap.size ≤ g9; omega) _).setCell (by show w.heap.size ≤ g9; omega) _
      have hWs : W.heap.size = w5.heap.size := by rw [hW]; simp
      rw [← hW]
      clear hW X7 Y7 R7 S7 Z97 Z107 ho57 ho6 L7 u0 u1 u2 u3
      have hr8 := ho58.nums
      have hy8 := hy.below L8 (Nat.le_refl _)
      obtain ⟨x0, x1, x2, x3⟩ := X8.two
      obtain ⟨y0, y1, y2, y3⟩ := Y8.two
      obtain ⟨v0, v1, v2, v3⟩ := Z108.two
      subst hL
      go_region_with
        (first
          | (go_at_call 51; refine (less_any B A5 d c5 ys (limbs ri) _ (by repeat (first | with_reducible exact hy8 | with_reducible apply Nums.drew)) (by repeat (first | with_reducible exact hr8 | with_reducible apply Nums.drew)) ht (limbs_small _) (by omega) hrl4 HL.out).mono ?_; rintro e w6 ⟨g2, z2, rfl, hrow2, hzl2, hzs2, hzv2, hge2, hb6⟩; (try (simp only [World.size_drew] at hge2)); have Y9 := Blk.below (w := _) (by repeat (first | with_reducible exact Y8 | with_reducible apply Blk.drew)) hb6 Y8.lt; have R9 := Blk.below (w := _) (by repeat (first | with_reducible exact R8 | with_reducible apply Blk.drew)) hb6 R8.lt; have S9 := Blk.below (w := _) (by repeat (first | with_reducible exact S8 | with_reducible apply Blk.drew)) hb6 S8.lt; have Z99 := Blk.below (w := _) (by repeat (first | with_reducible exact Z98 | with_reducible apply Blk.drew)) hb6 Z98.lt; have Z109 := Blk.below (w := _) (by repeat (first | with_reducible exact Z108 | with_reducible apply Blk.drew)) hb6 Z108.lt; have ho69 := Own.below (w := _) (by repeat (first | with_reducible exact ho68 | with_reducible apply Own.drew)) hb6 (Nat.le_refl _); have L9 := Below.trans (b := _) (by repeat (first | with_reducible exact L8 | with_reducible apply Below.drew)) (hb6.mono L8.size); have hbs6 := hb6.size; (try (simp only [World.size_drew] at hbs6)); have HZV2 : Hid (sgn n2 (val B18 z2) = dr n1 n2 (val B18 xs) (val B18 ys)) := (by show _ = _; rw [hzv2, HW.out]; exact HRV'.out); have hzlen2 : z2.length ≤ 1048576 := (by rw [hzl2]; omega); have hzn2 := hrow2.nums hzl2 (small64 hzs2); clear hzv2 hzl2; obtain ⟨p0, p1, p2, p3⟩ := Y9.two; obtain ⟨q0, q1, q2, q3⟩ := Z109.two)
          | (go_at_call 49; refine (form_any n2 _ _ z2 _ (by repeat (first | with_reducible exact hzn2 | with_reducible apply Nums.drew)) hzs2 hzlen2).mono ?_; rintro e w7 ⟨A7, c7, rfl, ho7, hb7⟩; rw [HZV2.out] at ho7 ⊢; have Y10 := Blk.below (w := _) (by repeat (first | with_reducible exact Y9 | with_reducible apply Blk.drew)) hb7 Y9.lt; have R10 := Blk.below (w := _) (by repeat (first | with_reducible exact R9 | with_reducible apply Blk.drew)) hb7 R9.lt; have S10 := Blk.below (w := _) (by repeat (first | with_reducible exact S9 | with_reducible apply Blk.drew)) hb7 S9.lt; have Z910 := Blk.below (w := _) (by repeat (first | with_reducible exact Z99 | with_reducible apply Blk.drew)) hb7 Z99.lt; have Z1010 := Blk.below (w := _) (by repeat (first | with_reducible exact Z109 | with_reducible apply Blk.drew)) hb7 Z109.lt; have ho610 := Own.below (w := _) (by repeat (first | with_reducible exact ho69 | with_reducible apply Own.drew)) hb7 (Nat.le_refl _); have L10 := Below.trans (b := _) (by repeat (first | with_reducible exact L9 | with_reducible apply Below.drew)) (hb7.mono L9.size); have hbs7 := hb7.size; (try (simp only [World.size_drew] at hbs7)); have hdis7 : Hid (∀ p q, A6 = some p → A7 = some q → p.block ≠ q.block) := (fun p q hp hq' => by have h1 := ho69.ge p hp; have h2 := ho7.ge q hq'; (try simp at h1 h2); omega); obtain ⟨k0, k1, k2, k3⟩ := Y10.two; obtain ⟨l0, l1, l2, l3⟩ := Z1010.two; obtain ⟨m0, m1, m2, m3⟩ := Z910.two; obtain ⟨r0, r1, r2, r3⟩ := R10.two; obtain ⟨s0, s1, s2, s3⟩ := S10.two))
      all_goals
        obtain ⟨V, hV⟩ : ∃ V, V = (w7.setCell ⟨g10, 0, none⟩ (.bool (decide (dr n1 n2 (val B18 xs) (val B18 ys) < 0)))).setCell ⟨g10, 1, none⟩ (.slice A7 (limbs (dr n1 n2 (val B18 xs) (val B18 ys))).length c7) := ⟨_, rfl⟩
        have R11 : Blk V (w.heap.size + 1 + 1) 24 #[.bool false, .slice none 0 0] := by rw [hV]; exact (R10.far e2 _).far e2 _
        have S11 : Blk V (w.heap.size + 1 + 1 + 1) 24 #[.bool false, .slice none 0 0] := by rw [hV]; exact (S10.far e4 _).far e4 _
        have Z911 : Blk V g9 24 #[.bool (decide (dq n1 n2 (val B18 xs) (val B18 ys) < 0)), .slice A6 (limbs (dq n1 n2 (val B18 xs) (val B18 ys))).length c6] := by rw [hV]; exact (Z910.far hne _).far hne _
        have Z1011 : Blk V g10 24 #[.bool (decide (dr n1 n2 (val B18 xs) (val B18 ys) < 0)), .slice A7 (limbs (dr n1 n2 (val B18 xs) (val B18 ys))).length c7] := by rw [hV]; exact Z1010.set2 _ _
        have ho611 : Own V w4.heap.size A6 c6 (limbs (dq n1 n2 (val B18 xs) (val B18 ys))) := by rw [hV]; exact ho610.set2 Z1010 (by decide) _ _
        have ho711 : Own V w6.heap.size A7 c7 (limbs (dr n1 n2 (val B18 xs) (val B18 ys))) := by rw [hV]; exact ho7.set2 Z1010 (by decide) _ _
        have L11 : Below w.heap.size w V := by rw [hV]; exact (L10.setCell (by show w.heap.size ≤ g10; omega) _).setCell (by show w.heap.size ≤ g10; omega) _
        rw [← hV]
        clear hV R10 S10 Z910 Z1010 ho610 ho7 L10 k0 k1 k2 k3 l0 l1 l2 l3 m0 m1 m2 m3 r0 r1 r2 r3 s0 s1 s2 s3 p0 p1 p2 p3 q0 q1 q2 q3 x0 x1 x2 x3 y0 y1 y2 y3 v0 v1 v2 v3
        obtain ⟨u0, u1, u2, u3⟩ := Z911.two
        obtain ⟨v0, v1, v2, v3⟩ := Z1011.two
        obtain ⟨r0, r1, r2, r3⟩ := R11.two
        obtain ⟨s0, s1, s2, s3⟩ := S11.two
        go_upto_region 10 with fail
        go_region
        go_wp2_with fail
        refine bodyPost_ret (v := .tuple #[.agg #[.bool (decide (dq n1 n2 (val B18 xs) (val B18 ys) < 0)), .slice A6 (limbs (dq n1 n2 (val B18 xs) (val B18 ys))).length c6], .agg #[.bool (decide (dr n1 n2 (val B18 xs) (val B18 ys) < 0)), .slice A7 (limbs (dr n1 n2 (val B18 xs) (val B18 ys))).length c7], .int .i64 0]) (by simp [results, Tryd.results14, go_sem, r0, r1, s0, s1]) rfl ?_
        exact fin_two (ho611.mono (b' := w3.heap.size) (by omega)) (ho711.mono (b' := w3.heap.size) (by omega)) L11 (by omega) hr3 (by omega) hs3 hdis7.out _ _ _ _
end
end Go.Proofs.YteggjfmcpodepaaDoor

/- The walk of whole.DivMod, where a number is out of form or the divisor is 0; whole.divide in one statement. -/
import Derived.Test.YteggjfmcpodepaaDoorWDivMod
import Derived.Test.YteggjfmcpodepaaDoorWDivLong
namespace Go.Proofs.YteggjfmcpodepaaDoor
open Go.RowKit

theorem fin_two_zero {W wc : World} {f : Int} {g0 g1 : Nat} (L : Below W.heap.size W wc)
    (hg : W.heap.size ≤ g0) (hg' : W.heap.size ≤ g1) (u v u' v' : Value) :
    RetTwo W 0 0 f (.returned (.tuple #[.agg #[.bool false, .slice none 0 0], .agg #[.bool false, .slice none 0 0], .int .i64 f])) ((((wc.setCell ⟨g0, 0, none⟩ u).setCell ⟨g0, 1, none⟩ v).setCell ⟨g1, 0, none⟩ u').setCell ⟨g1, 1, none⟩ v') :=
  ⟨none, 0, none, 0, by rw [limbs_zero]; rfl, by rw [limbs_zero]; exact Own.nil _ _, by rw [limbs_zero]; exact Own.nil _ _, (((L.setCell hg _).setCell hg _).setCell hg' _).setCell hg' _, fun _ _ h => by cases h⟩

section
variable (A B : Option Addr) (c d : Nat) (xs ys : List Nat) (w : World)
set_option maxRecDepth 100000
set_option maxHeartbeats 1000000 in
theorem divmod_bad_x (n1 n2 : Bool) (hx : Nums w A xs) (hl : xs.length ≤ 9223372036854775807) (hg : goodB n1 xs = false) :
    Calls Tryd.prog 14 #[.agg #[.bool n1, .slice A xs.length c], .agg #[.bool n2, .slice B ys.length d]] w (RetTwo w 0 0 3) := by
  go_enter Tryd.func14, Tryd.ntmps14
  go_wp2_with fail
  refine (good_any n1 c _ A xs (by omega) ((((hx.alloc _).alloc _).alloc _).alloc _)).mono ?_
  rintro e w1 ⟨rfl, hb1⟩
  have Y1 := (((Blk.new (w.alloc (.cells #[.bool n1, .slice A xs.length c] 24)) 24 #[.bool n2, .slice B ys.length d]).alloc (.cells #[.bool false, .slice none 0 0] 24)).alloc (.cells #[.bool false, .slice none 0 0] 24)).below hb1 (by simp; try omega)
  have R1 := ((Blk.new ((w.alloc (.cells #[.bool n1, .slice A xs.length c] 24)).alloc (.cells #[.bool n2, .slice B ys.length d] 24)) 24 #[.bool false, .slice none 0 0]).alloc (.cells #[.bool false, .slice none 0 0] 24)).below hb1 (by simp)
  have S1 := (Blk.new (((w.alloc (.cells #[.bool n1, .slice A xs.length c] 24)).alloc (.cells #[.bool n2, .slice B ys.length d] 24)).alloc (.cells #[.bool false, .slice none 0 0] 24)) 24 #[.bool false, .slice none 0 0]).below hb1 (by simp)
  have L1 : Below w.heap.size w w1 := (((((Below.refl _ _).alloc (Nat.le_refl _) _).alloc (by simp) _).alloc (by simp; omega) _).alloc (by simp; omega) _).trans (hb1.mono (by simp; omega))
  simp only [World.size_alloc] at Y1 R1 S1
  clear hb1
  obtain ⟨y0, y1, y2, y3⟩ := Y1.two
  obtain ⟨r0, r1, r2, r3⟩ := R1.two
  obtain ⟨s0, s1, s2, s3⟩ := S1.two
  go_wp2_with fail
  refine bodyPost_ret (v := .tuple #[.agg #[.bool false, .slice none 0 0], .agg #[.bool false, .slice none 0 0], .int .i64 3]) (by simp [results, Tryd.results14, go_sem, r0, r1, s0, s1]) rfl ?_
  exact fin_two_zero L1 (by omega) (by omega) _ _ _ _
set_option maxHeartbeats 1000000 in
theorem divmod_bad_y (n1 n2 : Bool) (hx : Nums w A xs) (hy : Nums w B ys) (hl : ys.length ≤ 9223372036854775807) (hg : goodB n1 xs = true) (hk : goodB n2 ys = false) :
    Calls Tryd.prog 14 #[.agg #[.bool n1, .slice A xs.length c], .agg #[.bool n2, .slice B ys.length d]] w (RetTwo w 0 0 3) := by
  obtain ⟨_, _, hlx, _⟩ := good_parts hg
  go_enter Tryd.func14, Tryd.ntmps14
  go_wp2_with fail
  refine (good_any n1 c _ A xs (by omega) ((((hx.alloc _).alloc _).alloc _).alloc _)).mono ?_
  rintro e w1 ⟨rfl, hb1⟩
  have Y1 := (((Blk.new (w.alloc (.cells #[.bool n1, .slice A xs.length c] 24)) 24 #[.bool n2, .slice B ys.length d]).alloc (.cells #[.bool false, .slice none 0 0] 24)).alloc (.cells #[.bool false, .slice none 0 0] 24)).below hb1 (by simp; try omega)
  have R1 := ((Blk.new ((w.alloc (.cells #[.bool n1, .slice A xs.length c] 24)).alloc (.cells #[.bool n2, .slice B ys.length d] 24)) 24 #[.bool false, .slice none 0 0]).alloc (.cells #[.bool false, .slice none 0 0] 24)).below hb1 (by simp)
  have S1 := (Blk.new (((w.alloc (.cells #[.bool n1, .slice A xs.length c] 24)).alloc (.cells #[.bool n2, .slice B ys.length d] 24)).alloc (.cells #[.bool false, .slice none 0 0] 24)) 24 #[.bool false, .slice none 0 0]).below hb1 (by simp)
  have L1 : Below w.heap.size w w1 := (((((Below.refl _ _).alloc (Nat.le_refl _) _).alloc (by simp) _).alloc (by simp; omega) _).alloc (by simp; omega) _).trans (hb1.mono (by simp; omega))
  simp only [World.size_alloc] at Y1 R1 S1
  clear hb1
  obtain ⟨y0, y1, y2, y3⟩ := Y1.two
  go_wp2_with fail
  refine (good_any n2 d _ B ys (by omega) (hy.below L1 (Nat.le_refl _))).mono ?_
  rintro e w2 ⟨rfl, hb2⟩
  have R2 := R1.below hb2 R1.lt; have S2 := S1.below hb2 S1.lt
  have L2 := L1.trans (hb2.mono L1.size)
  clear y0 y1 y2 y3 Y1 R1 S1 L1 hb2
  obtain ⟨r0, r1, r2, r3⟩ := R2.two
  obtain ⟨s0, s1, s2, s3⟩ := S2.two
  go_wp2_with fail
  refine bodyPost_ret (v := .tuple #[.agg #[.bool false, .slice none 0 0], .agg #[.bool false, .slice none 0 0], .int .i64 3]) (by simp [results, Tryd.results14, go_sem, r0, r1, s0, s1]) rfl ?_
  exact fin_two_zero L2 (by omega) (by omega) _ _ _ _
set_option maxHeartbeats 1000000 in
theorem divmod_zero (n1 n2 : Bool) (hx : Nums w A xs) (hy : Nums w B ys) (hg : goodB n1 xs = true) (hk : goodB n2 ys = true) (h0 : ys.length = 0) :
    Calls Tryd.prog 14 #[.agg #[.bool n1, .slice A xs.length c], .agg #[.bool n2, .slice B ys.length d]] w (RetTwo w 0 0 6) := by
  obtain ⟨_, _, hlx, _⟩ := good_parts hg
  have h00 : ((ys.length : Int) == 0) = true := beq_iff_eq.2 (by omega)
  have hly : ys.length ≤ 9223372036854775807 := by omega
  clear h0
  go_enter Tryd.func14, Tryd.ntmps14
  go_wp2_with fail
  refine (good_any n1 c _ A xs (by omega) ((((hx.alloc _).alloc _).alloc _).alloc _)).mono ?_
  rintro e w1 ⟨rfl, hb1⟩
  have Y1 := (((Blk.new (w.alloc (.cells #[.bool n1, .slice A xs.length c] 24)) 24 #[.bool n2, .slice B ys.length d]).alloc (.cells #[.bool false, .slice none 0 0] 24)).alloc (.cells #[.bool false, .slice none 0 0] 24)).below hb1 (by simp; try omega)
  have R1 := ((Blk.new ((w.alloc (.cells #[.bool n1, .slice A xs.length c] 24)).alloc (.cells #[.bool n2, .slice B ys.length d] 24)) 24 #[.bool false, .slice none 0 0]).alloc (.cells #[.bool false, .slice none 0 0] 24)).below hb1 (by simp)
  have S1 := (Blk.new (((w.alloc (.cells #[.bool n1, .slice A xs.length c] 24)).alloc (.cells #[.bool n2, .slice B ys.length d] 24)).alloc (.cells #[.bool false, .slice none 0 0] 24)) 24 #[.bool false, .slice none 0 0]).below hb1 (by simp)
  have L1 : Below w.heap.size w w1 := (((((Below.refl _ _).alloc (Nat.le_refl _) _).alloc (by simp) _).alloc (by simp; omega) _).alloc (by simp; omega) _).trans (hb1.mono (by simp; omega))
  simp only [World.size_alloc] at Y1 R1 S1
  clear hb1
  obtain ⟨y0, y1, y2, y3⟩ := Y1.two
  go_wp2_with fail
  refine (good_any n2 d _ B ys (by omega) (hy.below L1 (Nat.le_refl _))).mono ?_
  rintro e w2 ⟨rfl, hb2⟩
  have Y2 := Y1.below hb2 Y1.lt; have R2 := R1.below hb2 R1.lt; have S2 := S1.below hb2 S1.lt
  have L2 := L1.trans (hb2.mono L1.size)
  clear y0 y1 y2 y3 Y1 R1 S1 L1 hb2
  obtain ⟨y0, y1, y2, y3⟩ := Y2.two
  obtain ⟨r0, r1, r2, r3⟩ := R2.two
  obtain ⟨s0, s1, s2, s3⟩ := S2.two
  go_wp2_with fail
  refine bodyPost_ret (v := .tuple #[.agg #[.bool false, .slice none 0 0], .agg #[.bool false, .slice none 0 0], .int .i64 6]) (by simp [results, Tryd.results14, go_sem, r0, r1, s0, s1]) rfl ?_
  exact fin_two_zero L2 (by omega) (by omega) _ _ _ _
theorem divide_any (hx : Nums w A xs) (hy : Nums w B ys) (hs : small B18 xs) (ht : small B18 ys) (hl : xs.length ≤ 1000) (hl' : ys.length ≤ 1000) (h0 : 0 < val B18 ys) :
    Calls Tryd.prog 48 #[.slice A xs.length c, .slice B ys.length d] w (DivPost w (val B18 xs) (val B18 ys)) := by
  have hp := digs_pos B9_two (n := val B18 ys) (by omega)
  by_cases h1 : (digs B9 (val B18 ys)).length = 1
  · exact divide_one A B c d xs ys w hx hy hs ht hl hl' h1
  by_cases h2 : (digs B9 (val B18 xs)).length < (digs B9 (val B18 ys)).length
  · exact divide_less A B c d xs ys w hx hy hs ht hl hl' h1 h2
  exact divide_long A B c d xs ys w hx hy hs ht hl hl' ((digs B9 (val B18 ys)).length - 2) (by omega) (by omega)
theorem divmod_ok (n1 n2 : Bool) (hx : Nums w A xs) (hy : Nums w B ys) (hg : goodB n1 xs = true) (hk : goodB n2 ys = true) (h0 : 0 < ys.length) :
    Calls Tryd.prog 14 #[.agg #[.bool n1, .slice A xs.length c], .agg #[.bool n2, .slice B ys.length d]] w (RetTwo w (dq n1 n2 (val B18 xs) (val B18 ys)) (dr n1 n2 (val B18 xs) (val B18 ys)) 0) := by
  obtain ⟨hs, _, hl, _⟩ := good_parts hg
  obtain ⟨ht, hm, hl', _⟩ := good_parts hk
  exact divmod_good A B c d xs ys w (fun w' hx' hy' => divide_any A B c d xs ys w' hx' hy' hs ht (by omega) (by omega) (Nat.pos_of_ne_zero (val_ne_zero B18_two hm (by omega)))) n1 n2 hx hy hg hk h0
end
end Go.Proofs.YteggjfmcpodepaaDoor

/- The walk of whole.Cmp; Neg and Sign in one statement each. -/
import Derived.Test.YteggjfmcpodepaaDoorWSub
namespace Go.Proofs.YteggjfmcpodepaaDoor
open Go.RowKit

theorem Below.drewN {B : Nat} {a w : World} (h : Below B a w) (n : Nat) : Below B a (w.drewN n) := ⟨h.os, h.tape, h.output, h.size, h.block⟩
/-- How two numbers stand, 0 where one is out of form. -/
@[irreducible] def cmpO (ok : Bool) (i j : Int) : Int := if ok then cmpI i j else 0
theorem cmp_pos {xs ys : List Nat} : cmpN (val B18 xs) (val B18 ys) = cmpI (num false xs) (num false ys) := by
  rw [num_eq, num_eq]; unfold cmpI cmpN sgn
  by_cases h1 : val B18 xs < val B18 ys
  · simp [h1]
  · by_cases h2 : val B18 ys < val B18 xs <;> simp [h1, h2]
theorem cmp_neg {xs ys : List Nat} : cmpN (val B18 ys) (val B18 xs) = cmpI (num true xs) (num true ys) := by
  rw [num_eq, num_eq]; unfold cmpI cmpN sgn
  by_cases h1 : val B18 ys < val B18 xs
  · simp [h1]
  · by_cases h2 : val B18 xs < val B18 ys <;> simp [h1, h2]
theorem cmp_lt {xs ys : List Nat} (hg : goodB true xs = true) : cmpI (num true xs) (num false ys) = -1 := by
  have h := neg_num hg
  have h1 : num true xs < 0 := by simpa using h
  have h2 : (0 : Int) ≤ num false ys := by rw [num_eq]; unfold sgn; simp
  unfold cmpI; rw [if_pos (by omega)]
theorem cmp_gt {xs ys : List Nat} (hk : goodB true ys = true) : cmpI (num false xs) (num true ys) = 1 := by
  have h := neg_num hk
  have h1 : num true ys < 0 := by simpa using h
  have h2 : (0 : Int) ≤ num false xs := by rw [num_eq]; unfold sgn; simp
  unfold cmpI; rw [if_neg (by omega), if_pos (by omega)]

section
variable (A B : Option Addr) (c d : Nat) (xs ys : List Nat) (w : World)
set_option maxRecDepth 100000
theorem neg_any (neg : Bool) (hx : Nums w A xs) (hl : xs.length ≤ 9223372036854775807) :
    Calls Tryd.prog 31 #[.agg #[.bool neg, .slice A xs.length c]] w (RetBig w (if goodB neg xs then - num neg xs else 0)) := by
  cases h : goodB neg xs
  · exact neg_bad A c xs w neg hx hl h
  · exact neg_good A c xs w neg hx h
theorem sign_any (neg : Bool) (hx : Nums w A xs) (hl : xs.length ≤ 9223372036854775807) :
    Calls Tryd.prog 30 #[.agg #[.bool neg, .slice A xs.length c]] w fun e w' => e = .returned (.int .i64 (cmpO (goodB neg xs) (num neg xs) 0)) ∧ Below w.heap.size w w' := by
  unfold cmpO
  cases h : goodB neg xs
  · exact sign_bad A c xs w neg hx hl h
  · exact sign_good A c xs w neg hx h

set_option maxHeartbeats 1000000 in
theorem cmp_bad_x (n1 n2 : Bool) (hx : Nums w A xs) (hl : xs.length ≤ 9223372036854775807) (hg : goodB n1 xs = false) :
    Calls Tryd.prog 29 #[.agg #[.bool n1, .slice A xs.length c], .agg #[.bool n2, .slice B ys.length d]] w fun e w' => e = .returned (.int .i64 0) ∧ Below w.heap.size w w' := by
  go_enter Tryd.func29, Tryd.ntmps29
  go_wp2_with fail
  refine (good_any n1 c _ A xs hl ((hx.alloc _).alloc _)).mono ?_
  rintro e w1 ⟨rfl, hb1⟩
  have L1 : Below w.heap.size w w1 := (((Below.refl _ _).alloc (Nat.le_refl _) _).alloc (by simp) _).trans (hb1.mono (by simp; omega))
  go_wp2_with fail
  go_ret
  exact ⟨rfl, L1⟩
set_option maxHeartbeats 1000000 in
theorem cmp_bad_y (n1 n2 : Bool) (hx : Nums w A xs) (hy : Nums w B ys) (hl : ys.length ≤ 9223372036854775807) (hg : goodB n1 xs = true) (hk : goodB n2 ys = false) :
    Calls Tryd.prog 29 #[.agg #[.bool n1, .slice A xs.length c], .agg #[.bool n2, .slice B ys.length d]] w fun e w' => e = .returned (.int .i64 0) ∧ Below w.heap.size w w' := by
  obtain ⟨_, _, hlx, _⟩ := good_parts hg
  go_enter Tryd.func29, Tryd.ntmps29
  go_wp2_with fail
  refine (good_any n1 c _ A xs (by omega) ((hx.alloc _).alloc _)).mono ?_
  rintro e w1 ⟨rfl, hb1⟩
  have Y1 := (Blk.new (w.alloc (.cells #[.bool n1, .slice A xs.length c] 24)) 24 #[.bool n2, .slice B ys.length d]).below hb1 (by simp)
  have L1 : Below w.heap.size w w1 := (((Below.refl _ _).alloc (Nat.le_refl _) _).alloc (by simp) _).trans (hb1.mono (by simp; omega))
  simp only [World.size_alloc] at Y1
  obtain ⟨y0, y1, y2, y3⟩ := Y1.two
  go_wp2_with fail
  refine (good_any n2 d _ B ys hl (hy.below L1 (Nat.le_refl _))).mono ?_
  rintro e w2 ⟨rfl, hb2⟩
  have L2 := L1.trans (hb2.mono L1.size)
  go_wp2_with fail
  go_ret
  exact ⟨rfl, L2⟩
set_option maxHeartbeats 1000000 in
theorem cmp_good (n1 n2 : Bool) (hx : Nums w A xs) (hy : Nums w B ys) (hg : goodB n1 xs = true) (hk : goodB n2 ys = true) :
    Calls Tryd.prog 29 #[.agg #[.bool n1, .slice A xs.length c], .agg #[.bool n2, .slice B ys.length d]] w fun e w' => e = .returned (.int .i64 (cmpI (num n1 xs) (num n2 ys))) ∧ Below w.heap.size w w' := by
  obtain ⟨hs, hn, hlx, _⟩ := good_parts hg
  obtain ⟨ht, hm, hly, _⟩ := good_parts hk
  cases n1 <;> cases n2
  case false.false =>
    have HV := Lib.hid (cmp_pos (xs := xs) (ys := ys))
    go_enter Tryd.func29, Tryd.ntmps29
    go_wp2_with fail
    refine (good_any false c _ A xs (by omega) ((hx.alloc _).alloc _)).mono ?_
    rintro e w1 ⟨rfl, hb1⟩
    have X1 := (Blk.first w 24 #[.bool false, .slice A xs.length c] (.cells #[.bool false, .slice B ys.length d] 24)).below hb1 (by simp; omega)
    have Y1 := (Blk.new (w.alloc (.cells #[.bool false, .slice A xs.length c] 24)) 24 #[.bool false, .slice B ys.length d]).below hb1 (by simp)
    have L1 : Below w.heap.size w w1 := (((Below.refl _ _).alloc (Nat.le_refl _) _).alloc (by simp) _).trans (hb1.mono (by simp; omega))
    simp only [World.size_alloc] at X1 Y1
    clear hb1
    obtain ⟨y0, y1, y2, y3⟩ := Y1.two
    go_wp2_with fail
    refine (good_any false d _ B ys (by omega) (hy.below L1 (Nat.le_refl _))).mono ?_
    rintro e w2 ⟨rfl, hb2⟩
    have X2 := X1.below hb2 X1.lt; have Y2 := Y1.below hb2 Y1.lt
    have L2 := L1.trans (hb2.mono L1.size)
    clear y0 y1 y2 y3 X1 Y1 L1 hb2
    obtain ⟨x0, x1, x2, x3⟩ := X2.two
    obtain ⟨y0, y1, y2, y3⟩ := Y2.two
    go_wp2_with fail
    refine (size_any A B c d xs ys _ (hx.below L2 (Nat.le_refl _)) (hy.below L2 (Nat.le_refl _)) hs ht hn hm (by omega) (by omega)).mono ?_
    rintro e w3 ⟨rfl, n, rfl⟩
    rw [HV.out]
    go_wp2_with fail
    go_ret
    exact ⟨rfl, Below.drewN L2 n⟩
  case true.true =>
    have HV := Lib.hid (cmp_neg (xs := xs) (ys := ys))
    go_enter Tryd.func29, Tryd.ntmps29
    go_wp2_with fail
    refine (good_any true c _ A xs (by omega) ((hx.alloc _).alloc _)).mono ?_
    rintro e w1 ⟨rfl, hb1⟩
    have X1 := (Blk.first w 24 #[.bool true, .slice A xs.length c] (.cells #[.bool true, .slice B ys.length d] 24)).below hb1 (by simp; omega)
    have Y1 := (Blk.new (w.alloc (.cells #[.bool true, .slice A xs.length c] 24)) 24 #[.bool true, .slice B ys.length d]).below hb1 (by simp)
    have L1 : Below w.heap.size w w1 := (((Below.refl _ _).alloc (Nat.le_refl _) _).alloc (by simp) _).trans (hb1.mono (by simp; omega))
    simp only [World.size_alloc] at X1 Y1
    clear hb1
    obtain ⟨y0, y1, y2, y3⟩ := Y1.two
    go_wp2_with fail
    refine (good_any true d _ B ys (by omega) (hy.below L1 (Nat.le_refl _))).mono ?_
    rintro e w2 ⟨rfl, hb2⟩
    have X2 := X1.below hb2 X1.lt; have Y2 := Y1.below hb2 Y1.lt
    have L2 := L1.trans (hb2.mono L1.size)
    clear y0 y1 y2 y3 X1 Y1 L1 hb2
    obtain ⟨x0, x1, x2, x3⟩ := X2.two
    obtain ⟨y0, y1, y2, y3⟩ := Y2.two
    go_wp2_with fail
    refine (size_any B A d c ys xs _ (hy.below L2 (Nat.le_refl _)) (hx.below L2 (Nat.le_refl _)) ht hs hm hn (by omega) (by omega)).mono ?_
    rintro e w3 ⟨rfl, n, rfl⟩
    rw [HV.out]
    go_wp2_with fail
    go_ret
    exact ⟨rfl, Below.drewN L2 n⟩
  case true.false =>
    have HV := Lib.hid (cmp_lt (xs := xs) (ys := ys) hg)
    go_enter Tryd.func29, Tryd.ntmps29
    go_wp2_with fail
    refine (good_any true c _ A xs (by omega) ((hx.alloc _).alloc _)).mono ?_
    rintro e w1 ⟨rfl, hb1⟩
    have X1 := (Blk.first w 24 #[.bool true, .slice A xs.length c] (.cells #[.bool false, .slice B ys.length d] 24)).below hb1 (by simp; omega)
    have Y1 := (Blk.new (w.alloc (.cells #[.bool true, .slice A xs.length c] 24)) 24 #[.bool false, .slice B ys.length d]).below hb1 (by simp)
    have L1 : Below w.heap.size w w1 := (((Below.refl _ _).alloc (Nat.le_refl _) _).alloc (by simp) _).trans (hb1.mono (by simp; omega))
    simp only [World.size_alloc] at X1 Y1
    clear hb1
    obtain ⟨y0, y1, y2, y3⟩ := Y1.two
    go_wp2_with fail
    refine (good_any false d _ B ys (by omega) (hy.below L1 (Nat.le_refl _))).mono ?_
    rintro e w2 ⟨rfl, hb2⟩
    have X2 := X1.below hb2 X1.lt; have Y2 := Y1.below hb2 Y1.lt
    have L2 := L1.trans (hb2.mono L1.size)
    clear y0 y1 y2 y3 X1 Y1 L1 hb2
    obtain ⟨x0, x1, x2, x3⟩ := X2.two
    obtain ⟨y0, y1, y2, y3⟩ := Y2.two
    go_wp2_with fail
    go_ret
    exact ⟨ret_int' HV.out.symm, L2⟩
  case false.true =>
    have HV := Lib.hid (cmp_gt (xs := xs) (ys := ys) hk)
    go_enter Tryd.func29, Tryd.ntmps29
    go_wp2_with fail
    refine (good_any false c _ A xs (by omega) ((hx.alloc _).alloc _)).mono ?_
    rintro e w1 ⟨rfl, hb1⟩
    have X1 := (Blk.first w 24 #[.bool false, .slice A xs.length c] (.cells #[.bool true, .slice B ys.length d] 24)).below hb1 (by simp; omega)
    have Y1 := (Blk.new (w.alloc (.cells #[.bool false, .slice A xs.length c] 24)) 24 #[.bool true, .slice B ys.length d]).below hb1 (by simp)
    have L1 : Below w.heap.size w w1 := (((Below.refl _ _).alloc (Nat.le_refl _) _).alloc (by simp) _).trans (hb1.mono (by simp; omega))
    simp only [World.size_alloc] at X1 Y1
    clear hb1
    obtain ⟨y0, y1, y2, y3⟩ := Y1.two
    go_wp2_with fail
    refine (good_any true d _ B ys (by omega) (hy.below L1 (Nat.le_refl _))).mono ?_
    rintro e w2 ⟨rfl, hb2⟩
    have X2 := X1.below hb2 X1.lt; have Y2 := Y1.below hb2 Y1.lt
    have L2 := L1.trans (hb2.mono L1.size)
    clear y0 y1 y2 y3 X1 Y1 L1 hb2
    obtain ⟨x0, x1, x2, x3⟩ := X2.two
    obtain ⟨y0, y1, y2, y3⟩ := Y2.two
    go_wp2_with fail
    go_ret
    exact ⟨ret_int' HV.out.symm, L2⟩
theorem cmp_any (n1 n2 : Bool) (hx : Nums w A xs) (hy : Nums w B ys) (hl : xs.length ≤ 9223372036854775807) (hl' : ys.length ≤ 9223372036854775807) :
    Calls Tryd.prog 29 #[.agg #[.bool n1, .slice A xs.length c], .agg #[.bool n2, .slice B ys.length d]] w fun e w' => e = .returned (.int .i64 (cmpO (goodB n1 xs && goodB n2 ys) (num n1 xs) (num n2 ys))) ∧ Below w.heap.size w w' := by
  unfold cmpO
  cases hg : goodB n1 xs
  · exact cmp_bad_x A B c d xs ys w n1 n2 hx hl hg
  cases hk : goodB n2 ys
  · exact cmp_bad_y A B c d xs ys w n1 n2 hx hy hl' hg hk
  exact cmp_good A B c d xs ys w n1 n2 hx hy hg hk
end
end Go.Proofs.YteggjfmcpodepaaDoor

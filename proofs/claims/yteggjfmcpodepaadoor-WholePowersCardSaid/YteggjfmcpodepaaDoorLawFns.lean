/- The walks of the laws' own small functions: form, fits, is. -/
import Derived.Test.YteggjfmcpodepaaDoorLawWords
import Derived.Test.YteggjfmcpodepaaDoorWSub
namespace Go.Proofs.YteggjfmcpodepaaDoor
open Go.RowKit

theorem rfits_any (A : Option Addr) (c : Nat) (i : Int) (w : World) :
    Calls Tryd.prog 59 #[.agg #[.bool (decide (i < 0)), .slice A (tens i).length c]] w fun e w' => e = .returned (.bool (decide ((tens i).length ≤ 540))) ∧ Below w.heap.size w w' := by
  have hd : decide (((tens i).length : Int) ≤ 540) = decide ((tens i).length ≤ 540) := by
    by_cases h : (tens i).length ≤ 540
    · rw [decide_eq_true h, decide_eq_true (by omega)]
    · rw [decide_eq_false h, decide_eq_false (by omega)]
  go_enter Tryd.func59, Tryd.ntmps59
  go_wp2
  go_ret
  exact ⟨by first | rfl | rw [hd], (Below.refl _ _).alloc (Nat.le_refl _) _⟩
theorem tens_540 (i : Int) : (tens i).length ≤ 540 ↔ i.natAbs < B18 ^ 30 := by
  rw [tens_eq, B18_pow]
  exact digs_length_le (by decide) _ (18 * 30)
theorem outE_eq (i : Int) : outE true i = if (tens i).length ≤ 540 then 0 else 7 := by
  unfold outE
  rw [if_pos rfl]
  by_cases h : i.natAbs < B18 ^ 30
  · rw [if_pos h, if_pos ((tens_540 i).2 h)]
  · rw [if_neg h, if_neg (mt (tens_540 i).1 h)]
set_option maxHeartbeats 1000000 in
theorem lfits_any (A : Option Addr) (c : Nat) (i : Int) (w : World) :
    Calls Tryd.prog 34 #[.agg #[.bool (decide (i < 0)), .slice A (tens i).length c]] w fun e w' => e = .returned (.int .i64 (outE true i)) ∧ Below w.heap.size w w' := by
  rw [outE_eq]
  have L : Below w.heap.size w (w.alloc (.cells #[.bool (decide (i < 0)), .slice A (tens i).length c] 33)) := (Below.refl _ _).alloc (Nat.le_refl _) _
  have hfit := fun w => rfits_any A c i w
  by_cases h : (tens i).length ≤ 540
  · rw [if_pos h]
    rw [decide_eq_true h] at hfit
    clear h
    go_enter Tryd.func34, Tryd.ntmps34
    go_wp2_with (go_at_call 59; refine (hfit _).mono ?_; rintro e w1 ⟨rfl, hb⟩; have L := below_on L hb; clear hb)
    go_ret
    exact ⟨rfl, L⟩
  · rw [if_neg h]
    rw [decide_eq_false h] at hfit
    clear h
    go_enter Tryd.func34, Tryd.ntmps34
    go_wp2_with (go_at_call 59; refine (hfit _).mono ?_; rintro e w1 ⟨rfl, hb⟩; have L := below_on L hb; clear hb)
    go_ret
    exact ⟨rfl, L⟩

/-- Two words boxed: what stands in every later world. -/
def Two (w : World) (n1 n2 : Bool) (A B : Option Addr) (c d : Nat) (xs ys : List Nat) (b : World) : Prop :=
  (b.cell? ⟨w.heap.size, 0, none⟩ = some (.bool n1) ∧ b.cell? ⟨w.heap.size, 1, none⟩ = some (.slice A xs.length c) ∧
  b.cell? ⟨w.heap.size + 1, 0, none⟩ = some (.bool n2) ∧ b.cell? ⟨w.heap.size + 1, 1, none⟩ = some (.slice B ys.length d)) ∧ Nums b A xs ∧ Nums b B ys
def two (w : World) (n1 n2 : Bool) (A B : Option Addr) (c d : Nat) (xs ys : List Nat) : World :=
  (w.alloc (.cells #[.bool n1, .slice A xs.length c] 24)).alloc (.cells #[.bool n2, .slice B ys.length d] 24)
theorem two_below (w : World) (n1 n2 : Bool) (A B : Option Addr) (c d : Nat) (xs ys : List Nat) : Below w.heap.size w (two w n1 n2 A B c d xs ys) :=
  ((Below.refl _ _).alloc (Nat.le_refl _) _).alloc (by simp) _
theorem two_since {w b : World} {n1 n2 : Bool} {A B : Option Addr} {c d : Nat} {xs ys : List Nat} (hx : Nums w A xs) (hy : Nums w B ys) (hb : Below (two w n1 n2 A B c d xs ys).heap.size (two w n1 n2 A B c d xs ys) b) : Two w n1 n2 A B c d xs ys b := by
  have X : Blk (two w n1 n2 A B c d xs ys) w.heap.size 24 #[.bool n1, .slice A xs.length c] := (Blk.new _ _ _).alloc _
  have Y : Blk (two w n1 n2 A B c d xs ys) (w.heap.size + 1) 24 #[.bool n2, .slice B ys.length d] := Blk.new1 _ _ _ _
  have x := (X.below hb X.lt).two; have y := (Y.below hb Y.lt).two
  exact ⟨⟨x.1, x.2.1, y.1, y.2.1⟩, (hx.since (two_below w n1 n2 A B c d xs ys)).since hb, (hy.since (two_below w n1 n2 A B c d xs ys)).since hb⟩

/-- The number of the error that the laws expect of two numbers. -/
def formE (g1 g2 : Bool) : Int := if g1 && g2 then 0 else 3
set_option maxRecDepth 100000
set_option maxHeartbeats 1000000 in
theorem lform_any (n1 n2 : Bool) (A B : Option Addr) (c d : Nat) (xs ys : List Nat) (w : World) (hx : Nums w A xs) (hy : Nums w B ys) (hl : xs.length ≤ 9223372036854775807) (hl' : ys.length ≤ 9223372036854775807) :
    Calls Tryd.prog 15 #[.agg #[.bool n1, .slice A xs.length c], .agg #[.bool n2, .slice B ys.length d]] w fun e w' => e = .returned (.int .i64 (formE (goodB n1 xs) (goodB n2 ys))) ∧ Below w.heap.size w w' := by
  obtain ⟨W0, hW0⟩ : ∃ W0, W0 = two w n1 n2 A B c d xs ys := ⟨_, rfl⟩
  have LW : Below w.heap.size w W0 := by rw [hW0]; exact two_below ..
  have HF : Hid (∀ b1, Below W0.heap.size W0 b1 → Two w n1 n2 A B c d xs ys b1) := fun b1 hb => by rw [hW0] at hb; exact two_since hx hy hb
  have hg1 := fun w hx => rgood_any n1 c w A xs hl hx
  have hg2 := fun w hy => rgood_any n2 d w B ys hl' hy
  clear hx hy
  unfold two at hW0
  have L : Below W0.heap.size W0 W0 := Below.refl _ _
  obtain ⟨⟨x0, x1, y0, y1⟩, hx, hy⟩ := HF.out _ L
  go_enter Tryd.func15, Tryd.ntmps15
  cases h1 : goodB n1 xs
  · rw [h1] at hg1
    go_upto_region 1 with fail
    rw [← hW0]
    clear h1 hW0
    go_wp2_with (go_at_call 20; refine (hg1 _ hx).mono ?_; rintro e w1 ⟨rfl, hb⟩; have L := below_on L hb; clear hb)
    go_ret
    exact ⟨rfl, LW.trans (L.mono LW.size)⟩
  · rw [h1] at hg1
    go_upto_region 1 with fail
    rw [← hW0]
    clear h1 hW0
    go_wp2_with (go_at_call 20; refine (hg1 _ hx).mono ?_; rintro e w1 ⟨rfl, hb⟩; have L := below_on L hb; clear x0 x1 y0 y1 hx hy hb; obtain ⟨⟨x0, x1, y0, y1⟩, hx, hy⟩ := HF.out _ L; refine Hid.out ?_)
    refine Lib.hid ?_
    cases h2 : goodB n2 ys
    · rw [h2] at hg2
      have H2 := Lib.hid h2
      clear h2
      go_wp2_with (go_at_call 20; refine (hg2 _ hy).mono ?_; rintro e w1 ⟨rfl, hb⟩; have L := below_on L hb; clear hb)
      go_ret
      exact ⟨by rw [H2.out]; rfl, LW.trans (L.mono LW.size)⟩
    · rw [h2] at hg2
      have H2 := Lib.hid h2
      clear h2
      go_wp2_with (go_at_call 20; refine (hg2 _ hy).mono ?_; rintro e w1 ⟨rfl, hb⟩; have L := below_on L hb; clear hb)
      go_ret
      exact ⟨by rw [H2.out]; rfl, LW.trans (L.mono LW.size)⟩

/-- is, where the number is told: no error. -/
def isW (w : World) (b1 b2 : Bool) (A B : Option Addr) (c d n m : Nat) : World :=
  (w.alloc (.cells #[.bool b1, .slice A n c] 24)).alloc (.cells #[.bool b2, .slice B m d] 33)
set_option maxHeartbeats 1000000 in
theorem is_ok (A B : Option Addr) (c d : Nat) (i : Int) (w : World) (hx : Nums w A (limbs i)) (hy : Nums8 w B (tens i)) (hl : (limbs i).length ≤ 1048576) (hl' : (tens i).length ≤ 1048576) :
    Calls Tryd.prog 16 #[.agg #[.bool (decide (i < 0)), .slice A (limbs i).length c], .int .i64 0, .agg #[.bool (decide (i < 0)), .slice B (tens i).length d], .int .i64 0] w fun e w' => e = .returned (.bool true) ∧ Below w.heap.size w w' := by
  obtain ⟨W0, hW0⟩ : ∃ W0, W0 = isW w (decide (i < 0)) (decide (i < 0)) A B c d (limbs i).length (tens i).length := ⟨_, rfl⟩
  have LW : Below w.heap.size w W0 := by rw [hW0]; exact ((Below.refl _ _).alloc (Nat.le_refl _) _).alloc (by simp) _
  have HF : Hid (∀ b, Below W0.heap.size W0 b → (b.cell? ⟨w.heap.size, 0, none⟩ = some (.bool (decide (i < 0))) ∧ b.cell? ⟨w.heap.size, 1, none⟩ = some (.slice A (limbs i).length c) ∧
      b.cell? ⟨w.heap.size + 1, 0, none⟩ = some (.bool (decide (i < 0))) ∧ b.cell? ⟨w.heap.size + 1, 1, none⟩ = some (.slice B (tens i).length d)) ∧ Nums b A (limbs i) ∧ Nums8 b B (tens i)) := by
    intro b hb
    have X : Blk W0 w.heap.size 24 #[.bool (decide (i < 0)), .slice A (limbs i).length c] := by rw [hW0]; exact (Blk.new _ _ _).alloc _
    have Y : Blk W0 (w.heap.size + 1) 33 #[.bool (decide (i < 0)), .slice B (tens i).length d] := by rw [hW0]; exact Blk.new1 _ _ _ _
    have x := (X.below hb X.lt).two; have y := (Y.below hb Y.lt).two
    exact ⟨⟨x.1, x.2.1, y.1, y.2.1⟩, (hx.since LW).since hb, (hy.since LW).since hb⟩
  clear hx hy
  unfold isW at hW0
  have L : Below W0.heap.size W0 W0 := Below.refl _ _
  obtain ⟨⟨x0, x1, y0, y1⟩, hx, hy⟩ := HF.out _ L
  go_enter Tryd.func16, Tryd.ntmps16
  go_upto_region 1 with fail
  rw [← hW0]
  clear hW0
  go_wp2_with fail
  go_region_held3 (fun b => b.cell? ⟨w.heap.size, 0, none⟩ = some (.bool (decide (i < 0))) ∧ b.cell? ⟨w.heap.size, 1, none⟩ = some (.slice A (limbs i).length c) ∧
      b.cell? ⟨w.heap.size + 1, 0, none⟩ = some (.bool (decide (i < 0))) ∧ b.cell? ⟨w.heap.size + 1, 1, none⟩ = some (.slice B (tens i).length d))
    (first | (with_reducible exact ⟨x0, x1, y0, y1⟩) | (go_simp; done))
    (first
      | (go_at_call 23; refine (rto_any B d i _ (by first | exact hy | exact hy.drew) hl').mono ?_; rintro e w1 ⟨A1, c1, rfl, ho1, hb⟩; have ho1 := ho1.nums; have L := below_on L (by first | exact hb | exact below_undrew hb); clear x0 x1 y0 y1 hx hy hb; obtain ⟨⟨x0, x1, y0, y1⟩, hx, hy⟩ := HF.out _ L)
      | (go_at_call 21; refine (rsame_self A A1 c c1 _ (limbs i) _ hx ho1 hl).mono ?_; rintro e w1 ⟨rfl, hb⟩; have L := below_on L hb; clear x0 x1 y0 y1 hx hy hb; obtain ⟨⟨x0, x1, y0, y1⟩, hx, hy⟩ := HF.out _ L))
  all_goals
    go_wp2_with fail
    go_ret
    exact ⟨rfl, LW.trans (L.mono LW.size)⟩
/-- is, where an error is told: the number is nought. -/
theorem is_err (A B : Option Addr) (c d : Nat) (bn : Bool) (m : Nat) (f : Int) (w : World) (hf : f = 3 ∨ f = 6 ∨ f = 7 ∨ f = 1 ∨ f = 2 ∨ f = 4) :
    Calls Tryd.prog 16 #[.agg #[.bool false, .slice A 0 c], .int .i64 f, .agg #[.bool bn, .slice B m d], .int .i64 f] w fun e w' => e = .returned (.bool true) ∧ Below w.heap.size w w' := by
  have hn0 : (f != 0) = true := by rcases hf with rfl | rfl | rfl | rfl | rfl | rfl <;> rfl
  have hnf : (f != f) = false := by simp
  have hsame := fun w => rsame_self A none c 0 false [] w ⟨fun k => by rw [nth_nil]; decide, fun h => absurd h (by decide)⟩ ⟨fun k => by rw [nth_nil]; decide, fun h => absurd h (by decide)⟩ (by decide)
  have L : Below w.heap.size w ((w.alloc (.cells #[.bool false, .slice A 0 c] 24)).alloc (.cells #[.bool bn, .slice B m d] 33)) := ((Below.refl _ _).alloc (Nat.le_refl _) _).alloc (by simp) _
  clear hf
  go_enter Tryd.func16, Tryd.ntmps16
  go_wp2_with (go_at_call 21; refine (hsame _).mono ?_; rintro e w1 ⟨rfl, hb⟩; have L := below_on L hb; clear hb)
  go_ret
  exact ⟨rfl, L⟩
/-- is, at what a sum or product gives. -/
theorem is_out (A B : Option Addr) (c d : Nat) (i : Int) (w : World) (hx : Nums w A (limbs (outV true i))) (hy : Nums8 w B (tens i)) (hl' : (tens i).length ≤ 1048576) :
    Calls Tryd.prog 16 #[.agg #[.bool (decide (outV true i < 0)), .slice A (limbs (outV true i)).length c], .int .i64 (outE true i), .agg #[.bool (decide (i < 0)), .slice B (tens i).length d], .int .i64 (outE true i)] w fun e w' => e = .returned (.bool true) ∧ Below w.heap.size w w' := by
  by_cases h : i.natAbs < B18 ^ 30
  · rw [outV_ok h] at hx ⊢
    rw [outE_ok h]
    exact is_ok A B c d i w hx hy (by have := limbs_length h; omega) hl'
  · rw [outV_big (by omega)] at hx ⊢
    rw [outE_big (by omega), limbs_zero]
    exact is_err A B c d _ _ 7 w (by simp)
end Go.Proofs.YteggjfmcpodepaaDoor

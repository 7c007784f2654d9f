/- whole.Text at the numbers of one digit that the law's known asks. The walk of the law's known: the chapter's examples. -/
import Derived.Test.YteggjfmcpodepaaDoorK10
import Derived.Lib.SlBytesConst
namespace Go.Proofs.YteggjfmcpodepaaDoor
open Go.RowKit
set_option maxRecDepth 100000
theorem fmt4 (w : World) : Calls Tryd.prog 64 #[.int .u64 4, .int .i64 10] w fun e w' => e = .returned (.string ⟨#[52]⟩) ∧ w = w' := by
  go_enter Tryd.func64, Tryd.ntmps64
  go_wp2
  go_ret
  exact ⟨rfl, rfl⟩
theorem fmt1 (w : World) : Calls Tryd.prog 64 #[.int .u64 1, .int .i64 10] w fun e w' => e = .returned (.string ⟨#[49]⟩) ∧ w = w' := by
  go_enter Tryd.func64, Tryd.ntmps64
  go_wp2
  go_ret
  exact ⟨rfl, rfl⟩

set_option maxHeartbeats 1000000 in
theorem text_m4 (A : Option Addr) (c : Nat) (w : World) (hx : Nums w A [4]) :
    Calls Tryd.prog 46 #[.agg #[.bool true, .slice A 1 c]] w fun e w' => e = .returned (.string ⟨#[45, 52]⟩) ∧ Below w.heap.size w w' := by
  have L0 : Below w.heap.size w (w.alloc (.cells #[.bool true, .slice A 1 c] 24)) := (Below.refl _ _).alloc (Nat.le_refl _) _
  have hx2 := hx.alloc (.cells #[.bool true, .slice A 1 c] 24)
  have hgood := good_any true c _ A [4] (by decide) hx2
  have hgb : goodB true [4] = true := by simp [goodB, nth, allLt]
  rw [hgb] at hgood
  clear hgb
  have HX := Lib.hid hx
  clear hx hx2
  go_enter Tryd.func46, Tryd.ntmps46
  go_wp2_with (go_at_call 19; refine hgood.mono ?_; rintro e w1 ⟨rfl, hb1⟩; refine Hid.out ?_)
  refine Lib.hid ?_
  have R0 := (Blk.new w 24 #[.bool true, .slice A 1 c]).below hb1 (by simp)
  obtain ⟨r0, r1, r2, r3⟩ := R0.two
  have hx1 := HX.out.below (B := w.heap.size) (L0.trans (hb1.mono (by simp))) (Nat.le_refl _)
  obtain ⟨b, o, rfl, hb, hc⟩ := hx1.2 (by decide)
  have hcell : w1.cell? ⟨b, o, none⟩ = some (.int .u64 4) := by
    have h := hc 0 (by decide)
    have hn4 : nth [4] 0 = 4 := by simp [nth]
    rw [hn4] at h
    exact h
  clear hc
  go_wp2_with fail
  go_loop [3, 4, 5] (fun sv iv _ => (iv = .int .i64 0 ∧ sv = .string ⟨#[45]⟩) ∨ (iv = .int .i64 (-1) ∧ sv = .string ⟨#[45, 52]⟩)) (fun _ iv _ => (intOf iv + 1).toNat)
  case atStart => exact Or.inl ⟨rfl, rfl⟩
  case round =>
    rcases hrel with ⟨rfl, rfl⟩ | ⟨rfl, rfl⟩
    · go_wp2_with (go_at_call 64; refine (fmt4 _).mono ?_; rintro e w' ⟨rfl, rfl⟩)
      go_round
      case rel => exact Or.inr ⟨rfl, rfl⟩
      case measure => simp [intOf]
    · go_wp2
      go_ret
      exact ⟨rfl, L0.trans (hb1.mono (by simp))⟩

set_option maxHeartbeats 1000000 in
theorem text_1 (A : Option Addr) (c : Nat) (w : World) (hx : Nums w A [1]) :
    Calls Tryd.prog 46 #[.agg #[.bool false, .slice A 1 c]] w fun e w' => e = .returned (.string ⟨#[49]⟩) ∧ Below w.heap.size w w' := by
  have L0 : Below w.heap.size w (w.alloc (.cells #[.bool false, .slice A 1 c] 24)) := (Below.refl _ _).alloc (Nat.le_refl _) _
  have hx2 := hx.alloc (.cells #[.bool false, .slice A 1 c] 24)
  have hgood := good_any false c _ A [1] (by decide) hx2
  have hgb : goodB false [1] = true := by simp [goodB, nth, allLt]
  rw [hgb] at hgood
  clear hgb
  have HX := Lib.hid hx
  clear hx hx2
  go_enter Tryd.func46, Tryd.ntmps46
  go_wp2_with (go_at_call 19; refine hgood.mono ?_; rintro e w1 ⟨rfl, hb1⟩; refine Hid.out ?_)
  refine Lib.hid ?_
  have R0 := (Blk.new w 24 #[.bool false, .slice A 1 c]).below hb1 (by simp)
  obtain ⟨r0, r1, r2, r3⟩ := R0.two
  have hx1 := HX.out.below (B := w.heap.size) (L0.trans (hb1.mono (by simp))) (Nat.le_refl _)
  obtain ⟨b, o, rfl, hb, hc⟩ := hx1.2 (by decide)
  have hcell : w1.cell? ⟨b, o, none⟩ = some (.int .u64 1) := by
    have h := hc 0 (by decide)
    have hn4 : nth [1] 0 = 1 := by simp [nth]
    rw [hn4] at h
    exact h
  clear hc
  go_wp2_with fail
  go_loop [3, 4, 5] (fun sv iv _ => (iv = .int .i64 0 ∧ sv = .string ⟨#[]⟩) ∨ (iv = .int .i64 (-1) ∧ sv = .string ⟨#[49]⟩)) (fun _ iv _ => (intOf iv + 1).toNat)
  case atStart => exact Or.inl ⟨rfl, rfl⟩
  case round =>
    rcases hrel with ⟨rfl, rfl⟩ | ⟨rfl, rfl⟩
    · go_wp2_with (go_at_call 64; refine (fmt1 _).mono ?_; rintro e w' ⟨rfl, rfl⟩)
      go_round
      case rel => exact Or.inr ⟨rfl, rfl⟩
      case measure => simp [intOf]
    · go_wp2
      go_ret
      exact ⟨rfl, L0.trans (hb1.mono (by simp))⟩
end Go.Proofs.YteggjfmcpodepaaDoor
namespace Go.Proofs.YteggjfmcpodepaaDoor
open Go.RowKit

theorem digs_one {b x : Nat} (hb : 2 ≤ b) (h0 : x ≠ 0) (h : x < b) : digs b x = [x] := by
  rw [digs_step hb h0, Nat.mod_eq_of_lt h, Nat.div_eq_of_lt h, digs_zero]
theorem limbs_one {i : Int} (h0 : i ≠ 0) (h : i.natAbs < 1000000000000000000) : limbs i = [i.natAbs] := by
  rw [limbs_eq, digs_one B18_two (by omega) (by unfold B18; exact h)]
/-- What a call leaves that answers these limbs. -/
def RetN (W : World) (n : Bool) (xs : List Nat) (e : Ending) (w' : World) : Prop := ∃ A c, e = .returned (.agg #[.bool n, .slice A xs.length c]) ∧ Nums w' A xs ∧ Below W.heap.size W w'
theorem of_m7 (w : World) : Calls Tryd.prog 22 #[.int .i64 (-7)] w (RetN w true [7]) := by
  refine (of_any (-7) w (by decide) (by decide)).mono fun e w' h => ?_
  obtain ⟨A, c, rfl, hown, hb⟩ := h
  rw [limbs_one (by decide) (by decide)] at hown ⊢
  exact ⟨A, c, rfl, hown.nums, hb⟩
theorem of_2 (w : World) : Calls Tryd.prog 22 #[.int .i64 2] w (RetN w false [2]) := by
  refine (of_any 2 w (by decide) (by decide)).mono fun e w' h => ?_
  obtain ⟨A, c, rfl, hown, hb⟩ := h
  rw [limbs_one (by decide) (by decide)] at hown ⊢
  exact ⟨A, c, rfl, hown.nums, hb⟩
/-- What the example's division leaves. -/
def RetTwoN (W : World) (e : Ending) (w' : World) : Prop := ∃ A c B d, e = .returned (.tuple #[.agg #[.bool true, .slice A 1 c], .agg #[.bool false, .slice B 1 d], .int .i64 0]) ∧ Nums w' A [4] ∧ Nums w' B [1] ∧ Below W.heap.size W w'
theorem divmod_72 (A B : Option Addr) (c d : Nat) (w : World) (hx : Nums w A [7]) (hy : Nums w B [2]) :
    Calls Tryd.prog 14 #[.agg #[.bool true, .slice A 1 c], .agg #[.bool false, .slice B 1 d]] w (RetTwoN w) := by
  refine (divmod_ok A B c d [7] [2] w true false hx hy (by simp [goodB, nth, allLt]) (by simp [goodB, nth, allLt]) (by decide)).mono fun e w' h => ?_
  have e1 : dq true false (val B18 [7]) (val B18 [2]) = -4 := by unfold dq; simp [val]
  have e2 : dr true false (val B18 [7]) (val B18 [2]) = 1 := by unfold dr; simp [val, sgn]
  obtain ⟨A, c, B, d, rfl, h1, h2, hb, _⟩ := h
  rw [e1] at h1 ⊢
  rw [e2] at h2 ⊢
  rw [limbs_one (by decide) (by decide)] at h1 h2 ⊢
  rw [limbs_one (by decide) (by decide)]
  exact ⟨A, c, B, d, rfl, h1.nums, h2.nums, hb⟩
theorem good_4 (A : Option Addr) (c : Nat) (w : World) (hx : Nums w A [4]) : Calls Tryd.prog 19 #[.agg #[.bool true, .slice A 1 c]] w fun e w' => e = .returned (.bool true) ∧ Below w.heap.size w w' := by
  have h := good_any true c w A [4] (by decide) hx
  rwa [show goodB true [4] = true from by simp [goodB, nth, allLt]] at h
theorem good_0 (w : World) : Calls Tryd.prog 19 #[.agg #[.bool true, .slice none 0 0]] w fun e w' => e = .returned (.bool false) ∧ Below w.heap.size w w' := good_nil true 0 w none

set_option maxRecDepth 100000
set_option maxHeartbeats 1000000 in
theorem known_any (w : World) : Calls Tryd.prog 13 #[] w fun e w' => e = .returned (.bool true) ∧ Below w.heap.size w w' := by
  go_enter Tryd.func13, Tryd.ntmps13
  go_wp2_with (go_at_call 22; (with_reducible refine (of_m7 _).mono ?_); rintro e w1 ⟨A1, c1, rfl, hx1, hb1⟩; refine Hid.out ?_)
  refine Lib.hid ?_
  go_wp2_with (go_at_call 22; (with_reducible refine (of_2 _).mono ?_); rintro e w2 ⟨A2, c2, rfl, hx2, hb2⟩; refine Hid.out ?_)
  refine Lib.hid ?_
  have hx1' := hx1.below hb2 (Nat.le_refl _)
  go_wp2_with (go_at_call 14; (with_reducible refine (divmod_72 _ _ _ _ _ hx1' hx2).mono ?_); rintro e w3 ⟨A3, c3, A4, c4, rfl, hx3, hx4, hb3⟩; refine Hid.out ?_)
  refine Lib.hid ?_
  go_wp2_with fail
  have hq := (hx3.alloc (.cells #[.bool true, .slice A3 1 c3] 24)).alloc (.cells #[.bool false, .slice A4 1 c4] 24)
  have hr := (hx4.alloc (.cells #[.bool true, .slice A3 1 c3] 24)).alloc (.cells #[.bool false, .slice A4 1 c4] 24)
  have B1 := Blk.first w3 24 #[.bool true, .slice A3 1 c3] (.cells #[.bool false, .slice A4 1 c4] 24)
  have B2 := Blk.new1 w3 (.cells #[.bool true, .slice A3 1 c3] 24) 24 #[.bool false, .slice A4 1 c4]
  have L3 : Below w.heap.size w ((w3.alloc (.cells #[.bool true, .slice A3 1 c3] 24)).alloc (.cells #[.bool false, .slice A4 1 c4] 24)) :=
    (((hb1.trans (hb2.mono hb1.size)).trans (hb3.mono (Nat.le_trans hb1.size hb2.size))).alloc (Nat.le_trans hb1.size (Nat.le_trans hb2.size hb3.size)) _).alloc (by simp; exact Nat.le_succ_of_le (Nat.le_trans hb1.size (Nat.le_trans hb2.size hb3.size))) _
  have hs3 : w.heap.size ≤ w3.heap.size := Nat.le_trans hb1.size (Nat.le_trans hb2.size hb3.size)
  clear hb1 hb2 hb3 hx1 hx2 hx3 hx4 hx1'
  refine (text_m4 _ _ _ hq).mono ?_
  rintro e w4 ⟨rfl, hb4⟩
  have hs4 := hb4.size
  simp only [World.size_alloc] at hs4
  have C1 := B1.below hb4 (by simp only [World.size_alloc]; omega)
  have C2 := B2.below hb4 (by simp only [World.size_alloc]; omega)
  obtain ⟨r0, r1, r2, r3⟩ := C1.two
  obtain ⟨q0, q1, q2, q3⟩ := C2.two
  have hq4 := hq.below hb4 (Nat.le_refl _)
  have hr4 := hr.below hb4 (Nat.le_refl _)
  have L4 : Below w.heap.size w w4 := L3.trans (hb4.mono (by simp; omega))
  clear hb4 L3 hq hr B1 B2
  go_wp2_with fail
  refine (text_1 _ _ _ hr4).mono ?_
  rintro e w5 ⟨rfl, hb5⟩
  have D1 := C1.below hb5 (by omega)
  obtain ⟨s0, s1, s2, s3⟩ := D1.two
  have hq5 := hq4.below hb5 (Nat.le_refl _)
  have hs5 := hb5.size
  have L5 : Below w.heap.size w w5 := L4.trans (hb5.mono (by omega))
  clear hb5 L4 hq4 hr4 C1 C2 r0 r1 r2 r3 q0 q1 q2 q3
  go_wp2_with fail
  refine (good_4 _ _ _ hq5).mono ?_
  rintro e w6 ⟨rfl, hb6⟩
  have L6 : Below w.heap.size w w6 := L5.trans (hb6.mono (by omega))
  clear hb6 L5 hq5 D1 s0 s1 s2 s3
  go_wp2_with fail
  refine (good_0 _).mono ?_
  rintro e w7 ⟨rfl, hb7⟩
  have L7 : Below w.heap.size w w7 := L6.trans (hb7.mono (by have := L6.size; omega))
  clear hb7 L6
  go_wp2_with fail
  go_ret
  exact ⟨rfl, L7⟩
end Go.Proofs.YteggjfmcpodepaaDoor

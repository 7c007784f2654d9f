/- whole.Text at the numbers of one digit that the law's known asks. -/
import Derived.Test.YteggjfmcpodepaaDoorWGood
import Derived.Test.YteggjfmcpodepaaDoorWSize
import Derived.Lib.SlBytesConst
namespace Go.Proofs.YteggjfmcpodepaaDoor
open Go.RowKit
set_option maxRecDepth 100000
theorem fmt4 (w : World) : Calls Tryd.prog 64 #[.int .u64 4, .int .i64 10] w fun e w' => e = .returned (.string ⟨#[52]⟩) ∧ w = w' := by
  go_enter Tryd.func64, Tryd.ntmps64
  go_wp2
  go_ret
  exact ⟨rfl, rfl⟩
theorem fmt1 (w : World) : Calls Tryd.prog 64 #[.int .u64 1, .int .i64 10] w fun e w' => e = .returned (.string ⟨#[49]⟩) ∧ w = w' := by
  go_enter Tryd.func64, Tryd.ntmps64
  go_wp2
  go_ret
  exact ⟨rfl, rfl⟩

set_option maxHeartbeats 1000000 in
theorem text_m4 (A : Option Addr) (c : Nat) (w : World) (hx : Nums w A [4]) :
    Calls Tryd.prog 46 #[.agg #[.bool true, .slice A 1 c]] w fun e w' => e = .returned (.string ⟨#[45, 52]⟩) ∧ Below w.heap.size w w' := by
  have L0 : Below w.heap.size w (w.alloc (.cells #[.bool true, .slice A 1 c] 24)) := (Below.refl _ _).alloc (Nat.le_refl _) _
  have hx2 := hx.alloc (.cells #[.bool true, .slice A 1 c] 24)
  have hgood := good_any true c _ A [4] (by decide) hx2
  have hgb : goodB true [4] = true := by simp [goodB, nth, allLt]
  rw [hgb] at hgood
  clear hgb
  have HX := Lib.hid hx
  clear hx hx2
  go_enter Tryd.func46, Tryd.ntmps46
  go_wp2_with (go_at_call 19; refine hgood.mono ?_; rintro e w1 ⟨rfl, hb1⟩; refine Hid.out ?_)
  refine Lib.hid ?_
  have R0 := (Blk.new w 24 #[.bool true, .slice A 1 c]).below hb1 (by simp)
  obtain ⟨r0, r1, r2, r3⟩ := R0.two
  have hx1 := HX.out.below (B := w.heap.size) (L0.trans (hb1.mono (by simp))) (Nat.le_refl _)
  obtain ⟨b, o, rfl, hb, hc⟩ := hx1.2 (by decide)
  have hcell : w1.cell? ⟨b, o, none⟩ = some (.int .u64 4) := by
    have h := hc 0 (by decide)
    have hn4 : nth [4] 0 = 4 := by simp [nth]
    rw [hn4] at h
    exact h
  clear hc
  go_wp2_with fail
  go_loop [3, 4, 5] (fun sv iv _ => (iv = .int .i64 0 ∧ sv = .string ⟨#[45]⟩) ∨ (iv = .int .i64 (-1) ∧ sv = .string ⟨#[45, 52]⟩)) (fun _ iv _ => (intOf iv + 1).toNat)
  case atStart => exact Or.inl ⟨rfl, rfl⟩
  case round =>
    rcases hrel with ⟨rfl, rfl⟩ | ⟨rfl, rfl⟩
    · go_wp2_with (go_at_call 64; refine (fmt4 _).mono ?_; rintro e w' ⟨rfl, rfl⟩)
      go_round
      case rel => exact Or.inr ⟨rfl, rfl⟩
      case measure => simp [intOf]
    · go_wp2
      go_ret
      exact ⟨rfl, L0.trans (hb1.mono (by simp))⟩

set_option maxHeartbeats 1000000 in
theorem text_1 (A : Option Addr) (c : Nat) (w : World) (hx : Nums w A [1]) :
    Calls Tryd.prog 46 #[.agg #[.bool false, .slice A 1 c]] w fun e w' => e = .returned (.string ⟨#[49]⟩) ∧ Below w.heap.size w w' := by
  have L0 : Below w.heap.size w (w.alloc (.cells #[.bool false, .slice A 1 c] 24)) := (Below.refl _ _).alloc (Nat.le_refl _) _
  have hx2 := hx.alloc (.cells #[.bool false, .slice A 1 c] 24)
  have hgood := good_any false c _ A [1] (by decide) hx2
  have hgb : goodB false [1] = true := by simp [goodB, nth, allLt]
  rw [hgb] at hgood
  clear hgb
  have HX := Lib.hid hx
  clear hx hx2
  go_enter Tryd.func46, Tryd.ntmps46
  go_wp2_with (go_at_call 19; refine hgood.mono ?_; rintro e w1 ⟨rfl, hb1⟩; refine Hid.out ?_)
  refine Lib.hid ?_
  have R0 := (Blk.new w 24 #[.bool false, .slice A 1 c]).below hb1 (by simp)
  obtain ⟨r0, r1, r2, r3⟩ := R0.two
  have hx1 := HX.out.below (B := w.heap.size) (L0.trans (hb1.mono (by simp))) (Nat.le_refl _)
  obtain ⟨b, o, rfl, hb, hc⟩ := hx1.2 (by decide)
  have hcell : w1.cell? ⟨b, o, none⟩ = some (.int .u64 1) := by
    have h := hc 0 (by decide)
    have hn4 : nth [1] 0 = 1 := by simp [nth]
    rw [hn4] at h
    exact h
  clear hc
  go_wp2_with fail
  go_loop [3, 4, 5] (fun sv iv _ => (iv = .int .i64 0 ∧ sv = .string ⟨#[]⟩) ∨ (iv = .int .i64 (-1) ∧ sv = .string ⟨#[49]⟩)) (fun _ iv _ => (intOf iv + 1).toNat)
  case atStart => exact Or.inl ⟨rfl, rfl⟩
  case round =>
    rcases hrel with ⟨rfl, rfl⟩ | ⟨rfl, rfl⟩
    · go_wp2_with (go_at_call 64; refine (fmt1 _).mono ?_; rintro e w' ⟨rfl, rfl⟩)
      go_round
      case rel => exact Or.inr ⟨rfl, rfl⟩
      case measure => simp [intOf]
    · go_wp2
      go_ret
      exact ⟨rfl, L0.trans (hb1.mono (by simp))⟩
end Go.Proofs.YteggjfmcpodepaaDoor

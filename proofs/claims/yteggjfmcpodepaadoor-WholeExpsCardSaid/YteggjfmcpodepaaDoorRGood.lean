/- The walk of the reference's Good. -/
import Derived.Test.YteggjfmcpodepaaDoorWGood
namespace Go.Proofs.YteggjfmcpodepaaDoor
open Go.RowKit

section
variable (neg : Bool) (c : Nat) (w : World)
set_option maxRecDepth 100000
theorem rgood_nil (A : Option Addr) :
    Calls Tryd.prog 20 #[.agg #[.bool neg, .slice A 0 c]] w fun e w' => e = .returned (.bool !neg) ∧ Below w.heap.size w w' := by
  go_enter Tryd.func20, Tryd.ntmps20
  go_wp2
  go_ret
  exact ⟨rfl, (Below.refl _ _).alloc (Nat.le_refl _) _⟩

theorem rgood_long (A : Option Addr) (n : Nat) (hn : 30 < n) (hm : n ≤ 9223372036854775807) :
    Calls Tryd.prog 20 #[.agg #[.bool neg, .slice A n c]] w fun e w' => e = .returned (.bool false) ∧ Below w.heap.size w w' := by
  go_enter Tryd.func20, Tryd.ntmps20
  go_wp2
  go_ret
  exact ⟨rfl, (Below.refl _ _).alloc (Nat.le_refl _) _⟩

set_option maxHeartbeats 400000 in
theorem rgood_body (b o : Nat) (xs : List Nat) (h0 : 0 < xs.length) (hn : xs.length ≤ 30) (hb : b < w.heap.size)
    (hc : ∀ k, k < xs.length → w.cell? ⟨b, o + k, none⟩ = some (.int .u64 (nth xs k))) :
    Calls Tryd.prog 20 #[.agg #[.bool neg, .slice (some ⟨b, o, none⟩) xs.length c]] w fun e w' => e = .returned (.bool (if nth xs (xs.length - 1) = 0 then false else allLt xs)) ∧ Below w.heap.size w w' := by
  have hc1 := hc (xs.length - 1) (by omega)
  have hl1 : ((xs.length : Int) == 0) = false := beq_eq_false_iff_ne.2 (by omega)
  obtain ⟨last, hlast⟩ : ∃ v, v = nth xs (xs.length - 1) := ⟨_, rfl⟩
  rw [← hlast] at hc1
  rw [show (if nth xs (xs.length - 1) = 0 then false else allLt xs) = (last != 0 && allLt xs) from by rw [← hlast]; by_cases h : last = 0 <;> simp [h]]
  go_enter Tryd.func20, Tryd.ntmps20
  go_wp2
  go_loop [4] (fun i => ∃ k : Nat, k ≤ xs.length ∧ i = .int .i64 k ∧ ∀ j, j < k → nth xs j < 1000000000000000000) (fun i => xs.length - (intOf i).toNat)
  case atStart => exact ⟨0, Nat.zero_le _, rfl, fun j hj => absurd hj (by omega)⟩
  case round =>
    obtain ⟨k, hk, rfl, hlt⟩ := hrel
    have HL := Lib.hid hlt; clear hlt
    have hcell : k < xs.length → w.cell? ⟨b, o + k, none⟩ = some (.int .u64 (nth xs k)) := hc k
    clear hc hlast
    go_wp2
    · go_ret
      exact ⟨ret_bool (by rw [allLt_no (by assumption) (by assumption), Bool.and_false]), (Below.refl _ _).alloc (Nat.le_refl _) _⟩
    · have h1 : k < xs.length := by assumption
      have h2 : nth xs k < 1000000000000000000 := by assumption
      go_round
      case rel => exact ⟨k + 1, by omega, by go_num, fun j hj => by
        by_cases hjk : j = k
        · rw [hjk]; exact h2
        · exact HL.out j (by omega)⟩
      case measure => simp [intOf]; omega
    · have h1 : ¬ k < xs.length := by assumption
      go_ret
      exact ⟨ret_bool (by rw [allLt_yes fun j hj => HL.out j (by omega), Bool.and_true]), (Below.refl _ _).alloc (Nat.le_refl _) _⟩

/-- The reference's Good, at every number whose limbs can be read. -/
theorem rgood_any (A : Option Addr) (xs : List Nat) (hm : xs.length ≤ 9223372036854775807) (hx : Nums w A xs) :
    Calls Tryd.prog 20 #[.agg #[.bool neg, .slice A xs.length c]] w fun e w' => e = .returned (.bool (goodB neg xs)) ∧ Below w.heap.size w w' := by
  unfold goodB
  by_cases h0 : xs.length = 0
  · rw [if_pos h0, h0]; exact rgood_nil neg c w A
  rw [if_neg h0]
  by_cases h1 : 30 < xs.length
  · rw [if_pos h1]; exact rgood_long neg c w A _ h1 hm
  rw [if_neg h1]
  obtain ⟨b, o, rfl, hb, hc⟩ := hx.2 (by omega)
  exact rgood_body neg c w b o xs (by omega) (by omega) hb hc
end
end Go.Proofs.YteggjfmcpodepaaDoor

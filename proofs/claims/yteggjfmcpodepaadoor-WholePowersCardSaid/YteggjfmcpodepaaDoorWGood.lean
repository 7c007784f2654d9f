/- The walk of whole.Good. -/
import Derived.Test.YteggjfmcpodepaaDoorNumWords
import Derived.Test.YteggjfmcpodepaaDoorRows
import Derived.WalkSpells
import Derived.WalkLawsBesides
import Derived.BigQuiet
import Derived.Deep.QuietTactic
import Derived.Lib.Hide
namespace Go.Proofs.YteggjfmcpodepaaDoor
open Go.RowKit

def allLt (xs : List Nat) : Bool := (List.range xs.length).all fun k => decide (nth xs k < 1000000000000000000)
theorem allLt_no {xs : List Nat} {k : Nat} (hk : k < xs.length) (h : 1000000000000000000 ≤ nth xs k) : allLt xs = false := by
  unfold allLt
  rw [List.all_eq_false]
  exact ⟨k, by simpa using hk, by simpa using h⟩
theorem allLt_yes {xs : List Nat} (h : ∀ k, k < xs.length → nth xs k < 1000000000000000000) : allLt xs = true := by
  unfold allLt
  rw [List.all_eq_true]
  intro k hk
  simpa using h k (by simpa using hk)
/-- Is the number in form? -/
def goodB (neg : Bool) (xs : List Nat) : Bool :=
  if xs.length = 0 then !neg else if 30 < xs.length then false else if nth xs (xs.length - 1) = 0 then false else allLt xs

section
variable (neg : Bool) (c : Nat) (w : World)
set_option maxRecDepth 100000
theorem good_nil (A : Option Addr) :
    Calls Tryd.prog 19 #[.agg #[.bool neg, .slice A 0 c]] w fun e w' => e = .returned (.bool !neg) ∧ Below w.heap.size w w' := by
  go_enter Tryd.func19, Tryd.ntmps19
  go_wp2
  go_ret
  exact ⟨rfl, (Below.refl _ _).alloc (Nat.le_refl _) _⟩

theorem good_long (A : Option Addr) (n : Nat) (hn : 30 < n) (hm : n ≤ 9223372036854775807) :
    Calls Tryd.prog 19 #[.agg #[.bool neg, .slice A n c]] w fun e w' => e = .returned (.bool false) ∧ Below w.heap.size w w' := by
  go_enter Tryd.func19, Tryd.ntmps19
  go_wp2
  go_ret
  exact ⟨rfl, (Below.refl _ _).alloc (Nat.le_refl _) _⟩

theorem good_last (b o : Nat) (n : Nat) (h0 : 0 < n) (hn : n ≤ 30) (hb : b < w.heap.size) (hc : w.cell? ⟨b, o + (n - 1), none⟩ = some (.int .u64 0)) :
    Calls Tryd.prog 19 #[.agg #[.bool neg, .slice (some ⟨b, o, none⟩) n c]] w fun e w' => e = .returned (.bool false) ∧ Below w.heap.size w w' := by
  go_enter Tryd.func19, Tryd.ntmps19
  go_wp2
  go_ret
  exact ⟨rfl, (Below.refl _ _).alloc (Nat.le_refl _) _⟩

set_option maxHeartbeats 400000 in
theorem good_body (b o : Nat) (xs : List Nat) (h0 : 0 < xs.length) (hn : xs.length ≤ 30) (hb : b < w.heap.size)
    (hc : ∀ k, k < xs.length → w.cell? ⟨b, o + k, none⟩ = some (.int .u64 (nth xs k))) (hl : nth xs (xs.length - 1) ≠ 0) :
    Calls Tryd.prog 19 #[.agg #[.bool neg, .slice (some ⟨b, o, none⟩) xs.length c]] w fun e w' => e = .returned (.bool (allLt xs)) ∧ Below w.heap.size w w' := by
  have hc1 := hc (xs.length - 1) (by omega)
  have hl0 : (nth xs (xs.length - 1) == 0) = false := by simpa using hl
  have hl1 : ((xs.length : Int) == 0) = false := beq_eq_false_iff_ne.2 (by omega)
  go_enter Tryd.func19, Tryd.ntmps19
  go_wp2
  go_loop [25] (fun i => ∃ k : Nat, k ≤ xs.length ∧ i = .int .i64 k ∧ ∀ j, j < k → nth xs j < 1000000000000000000) (fun i => xs.length - (intOf i).toNat)
  case atStart => exact ⟨0, Nat.zero_le _, rfl, fun j hj => absurd hj (by omega)⟩
  case round =>
    obtain ⟨k, hk, rfl, hlt⟩ := hrel
    have HL := Lib.hid hlt; clear hlt
    have hcell : k < xs.length → w.cell? ⟨b, o + k, none⟩ = some (.int .u64 (nth xs k)) := hc k
    clear hc hc1
    go_wp2
    · go_ret
      exact ⟨ret_bool (allLt_no (by assumption) (by assumption)).symm, (Below.refl _ _).alloc (Nat.le_refl _) _⟩
    · have h1 : k < xs.length := by assumption
      have h2 : nth xs k < 1000000000000000000 := by assumption
      go_round
      case rel => exact ⟨k + 1, by omega, by go_num, fun j hj => by
        by_cases hjk : j = k
        · rw [hjk]; exact h2
        · exact HL.out j (by omega)⟩
      case measure => simp [intOf]; omega
    · have h1 : ¬ k < xs.length := by assumption
      go_ret
      exact ⟨ret_bool (allLt_yes fun j hj => HL.out j (by omega)).symm, (Below.refl _ _).alloc (Nat.le_refl _) _⟩

/-- whole.Good, at every number whose limbs can be read. -/
theorem good_any (A : Option Addr) (xs : List Nat) (hm : xs.length ≤ 9223372036854775807) (hx : Nums w A xs) :
    Calls Tryd.prog 19 #[.agg #[.bool neg, .slice A xs.length c]] w fun e w' => e = .returned (.bool (goodB neg xs)) ∧ Below w.heap.size w w' := by
  unfold goodB
  by_cases h0 : xs.length = 0
  · rw [if_pos h0, h0]; exact good_nil neg c w A
  rw [if_neg h0]
  by_cases h1 : 30 < xs.length
  · rw [if_pos h1]; exact good_long neg c w A _ h1 hm
  rw [if_neg h1]
  obtain ⟨b, o, rfl, hb, hc⟩ := hx.2 (by omega)
  by_cases h2 : nth xs (xs.length - 1) = 0
  · rw [if_pos h2]
    exact good_last neg c w b o _ (by omega) (by omega) hb (by rw [hc _ (by omega), h2])
  rw [if_neg h2]
  exact good_body neg c w b o xs (by omega) (by omega) hb hc h2
end
end Go.Proofs.YteggjfmcpodepaaDoor

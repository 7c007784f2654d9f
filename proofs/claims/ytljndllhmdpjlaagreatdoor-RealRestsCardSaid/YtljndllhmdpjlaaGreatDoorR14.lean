/- The walks of the reference's Turn, Plus, Cmp. The walk of the document's Cut: a float cut to a whole number. -/
import Derived.Test.YtljndllhmdpjlaaGreatDoorR13
import Derived.Deep.RegionWith
namespace Go.Proofs.YtljndllhmdpjlaaGreatDoor
open Go.RowKit

/-- What a call leaves that turns a number's sign: the digits are the same memory. -/
def RetTurn (W : World) (A : Option Addr) (c : Nat) (i : Int) (e : Ending) (w' : World) : Prop := e = .returned (.agg #[.bool (decide (-i < 0)), .slice A (tens i).length c]) ∧ Below W.heap.size W w'
set_option maxRecDepth 100000
/-- Two numbers boxed, and a third place for the answer: what stands in every later world. -/
def Three (w : World) (bi bj : Bool) (A B : Option Addr) (c d : Nat) (i j : Int) (b : World) : Prop :=
  (b.cell? ⟨w.heap.size, 0, none⟩ = some (.bool bi) ∧ b.cell? ⟨w.heap.size, 1, none⟩ = some (.slice A (tens i).length c)) ∧
  (b.cell? ⟨w.heap.size + 1, 0, none⟩ = some (.bool bj) ∧ b.cell? ⟨w.heap.size + 1, 1, none⟩ = some (.slice B (tens j).length d)) ∧
  (b.cell? ⟨w.heap.size + 1 + 1, 0, none⟩ = some (.bool false) ∧ b.cell? ⟨w.heap.size + 1 + 1, 1, none⟩ = some (.slice none 0 0) ∧ b.frozen? ⟨w.heap.size + 1 + 1, 0, none⟩ = false ∧ b.frozen? ⟨w.heap.size + 1 + 1, 1, none⟩ = false) ∧
  Nums8 b A (tens i) ∧ Nums8 b B (tens j)
def three (w : World) (bi bj : Bool) (A B : Option Addr) (c d : Nat) (i j : Int) : World :=
  ((w.alloc (.cells #[.bool bi, .slice A (tens i).length c] 86)).alloc (.cells #[.bool bj, .slice B (tens j).length d] 86)).alloc (.cells #[.bool false, .slice none 0 0] 86)
section
variable (A B : Option Addr) (c d : Nat) (i j : Int) (w : World)
end
end Go.Proofs.YtljndllhmdpjlaaGreatDoor
namespace Go.Proofs.YtljndllhmdpjlaaGreatDoor
open Go.RowKit
set_option maxRecDepth 100000
/-- The whole number that a float is cut to; is something cut off? -/
noncomputable def wholeI (a : Nat) : Int := if ng a then -((wholeN a : Nat) : Int) else ((wholeN a : Nat) : Int)
noncomputable def lostB (a : Nat) : Bool := @decide (¬ isWh (rg a)) (Classical.propDecidable _)
theorem wholeI_abs (a : Nat) : (wholeI a).natAbs = wholeN a := by unfold wholeI; split <;> omega
theorem lost_eq {a : Nat} {p : Prop} [Decidable p] (h : p ↔ ¬ isWh (rg a)) : decide p = lostB a := by
  unfold lostB
  by_cases hp : p
  · rw [decide_eq_true hp]; exact (@decide_eq_true _ (Classical.propDecidable _) (h.1 hp)).symm
  · rw [decide_eq_false hp]; exact (@decide_eq_false _ (Classical.propDecidable _) (fun k => hp (h.2 k))).symm
theorem wl_aux {m e A B C P x : Nat} (hm : m < A) (he : 2 ^ e ≤ B) (hAB : A * B = C * P) (hP : 0 < P) (hx : x = m * 2 ^ e) : x / P < C := by
  refine (Nat.div_lt_iff_lt_mul hP).2 ?_
  rw [hx, ← hAB]
  exact Nat.lt_of_le_of_lt (Nat.mul_le_mul_left _ he) (Nat.mul_lt_mul_of_pos_right hm (Nat.lt_of_lt_of_le (two_pos e) he))
theorem two_mono2 {k K P Q : Nat} (hQ : Q = 2 ^ k) (hP : P = 2 ^ K) (h : k ≤ K) : Q ≤ P := by rw [hQ, hP]; exact Nat.pow_le_pow_right (by decide) h
theorem p2098 : 2 ^ 53 * 2 ^ 2045 = 2 ^ 1024 * 2 ^ 1074 := by
  have h : ∀ P, P = 2 ^ 2098 → 2 ^ 53 * 2 ^ 2045 = 2 ^ 1024 * 2 ^ 1074 := fun P hP => (two_split (p := 2098) (q := 53) (s := 2045) hP (by decide)).symm.trans (two_split (p := 2098) (q := 1024) (s := 1074) hP (by decide))
  exact h _ rfl
theorem wholeN_lt {a : Nat} (hf : rg a < 9218868437227405312) : wholeN a < 2 ^ 1024 :=
  wl_aux (A := 2 ^ 53) (B := 2 ^ 2045) (mg_lt (rg a)) (two_mono2 rfl rfl (by unfold ex; split <;> omega)) p2098 (two_pos 1074) rfl
theorem pow_30 {K x B : Nat} (hK : K = x * 30) (h : 2 ^ x ≤ B) : 2 ^ K ≤ B ^ 30 := by rw [hK, Nat.pow_mul]; exact Nat.pow_le_pow_left h 30
theorem B18_30 : 2 ^ 1024 ≤ B18 ^ 30 := by
  have h : ∀ K, K = 59 * 30 → 2 ^ 1024 ≤ B18 ^ 30 := fun K hK => Nat.le_trans (two_mono (k := 1024) (K := K) (by omega) rfl) (pow_30 (x := 59) hK (by decide))
  exact h _ rfl
theorem wholeI_lt {a : Nat} (hf : rg a < 9218868437227405312) : (wholeI a).natAbs < B18 ^ 30 := by rw [wholeI_abs]; exact Nat.lt_of_lt_of_le (wholeN_lt hf) B18_30
/-- What Cut leaves. -/
def RetNumB (W : World) (v : Int) (b : Bool) (e : Ending) (w' : World) : Prop := ∃ A c, e = .returned (.tuple #[.agg #[.bool (decide (v < 0)), .slice A (tens v).length c], .bool b]) ∧ Nums8 w' A (tens v) ∧ (∀ q, A = some q → W.heap.size ≤ q.block) ∧ Below W.heap.size W w'
section
variable (w : World) (a : Nat) (ha : a < 18446744073709551616) (hf : rg a < 9218868437227405312)
include ha hf
end
end Go.Proofs.YtljndllhmdpjlaaGreatDoor

/- The walk of the reference's Same. -/
import Derived.Test.YteggjfmcpodepaaDoorWGood
import Derived.Test.YteggjfmcpodepaaDoorWSize
namespace Go.Proofs.YteggjfmcpodepaaDoor
open Go.RowKit

/-- Is it the same number, limb for limb? -/
def sameB (n1 : Bool) (xs : List Nat) (n2 : Bool) (ys : List Nat) : Bool := (n1 == n2) && (xs == ys)
theorem list_eq_of_nth {xs ys : List Nat} (hl : xs.length = ys.length) (h : ∀ j, j < xs.length → nth xs j = nth ys j) : xs = ys := by
  apply List.ext_getElem hl
  intro j h1 h2
  have := (nth_eq_iff xs ys j j).1 (h j h1)
  simpa [List.getD, List.getElem?_eq_getElem h1, List.getElem?_eq_getElem h2] using this
theorem sameB_neg {n1 n2 : Bool} {xs ys : List Nat} (h : n1 ≠ n2) : sameB n1 xs n2 ys = false := by unfold sameB; simp [h]
theorem sameB_len {n1 n2 : Bool} {xs ys : List Nat} (h : xs.length ≠ ys.length) : sameB n1 xs n2 ys = false := by
  unfold sameB
  have : (xs == ys) = false := beq_eq_false_iff_ne.2 fun e => h (by rw [e])
  rw [this, Bool.and_false]
theorem sameB_digit {n1 n2 : Bool} {xs ys : List Nat} {k : Nat} (h : nth xs k ≠ nth ys k) : sameB n1 xs n2 ys = false := by
  unfold sameB
  have : (xs == ys) = false := beq_eq_false_iff_ne.2 fun e => h (by rw [e])
  rw [this, Bool.and_false]
theorem sameB_yes {n : Bool} {xs ys : List Nat} (hl : xs.length = ys.length) (h : ∀ j, j < xs.length → nth xs j = nth ys j) : sameB n xs n ys = true := by
  rw [list_eq_of_nth hl h]; unfold sameB; simp

section
variable (A B : Option Addr) (c d : Nat) (xs ys : List Nat) (w : World)
set_option maxRecDepth 100000
set_option maxHeartbeats 1000000 in
theorem rsame_any (n1 n2 : Bool) (hx : Nums w A xs) (hy : Nums w B ys) (hl : xs.length ≤ 1048576) (hl' : ys.length ≤ 1048576) :
    Calls Tryd.prog 21 #[.agg #[.bool n1, .slice A xs.length c], .agg #[.bool n2, .slice B ys.length d]] w fun e w' => e = .returned (.bool (sameB n1 xs n2 ys)) ∧ Below w.heap.size w w' := by
  have L0 : Below w.heap.size w ((w.alloc (.cells #[.bool n1, .slice A xs.length c] 24)).alloc (.cells #[.bool n2, .slice B ys.length d] 24)) := ((Below.refl _ _).alloc (Nat.le_refl _) _).alloc (by simp) _
  by_cases hn : n1 = n2
  · subst hn
    by_cases hlen : xs.length = ys.length
    · have hne : ((xs.length : Int) != (ys.length : Int)) = false := by simp [hlen]
      have hnn : (n1 != n1) = false := by simp
      have HL := Lib.hid hlen; clear hlen
      go_enter Tryd.func21, Tryd.ntmps21
      go_wp2
      go_loopw [5] (fun v wr => ∃ k : Nat, k ≤ xs.length ∧ v = .int .i64 k ∧ (∀ j, j < k → nth xs j = nth ys j) ∧ ∃ n, wr = ((w.alloc (.cells #[.bool n1, .slice A xs.length c] 24)).alloc (.cells #[.bool n1, .slice B ys.length d] 24)).drewN n) (fun v _ => xs.length - (intOf v).toNat)
      case atStart => exact ⟨0, Nat.zero_le _, rfl, fun j hj => absurd hj (by omega), 0, rfl⟩
      case round =>
        obtain ⟨k, hk, rfl, hz, n, rfl⟩ := hrel
        have HZ := Lib.hid hz; clear hz
        rcases Nat.lt_or_ge k xs.length with hk' | hk'
        · obtain ⟨b, o, rfl, hb, hc⟩ := hx.2 (by omega)
          obtain ⟨b', o', rfl, hb', hc'⟩ := hy.2 (by rw [← HL.out]; omega)
          have hcell := hc k (by omega)
          have hcell' := hc' k (by rw [← HL.out]; omega)
          have hm1 : (k : Int) < (xs.length : Int) := by omega
          have hm2 : (k : Int) < (ys.length : Int) := by have := HL.out; omega
          have hm0 : (0 : Int) ≤ (k : Int) := by omega
          clear hc hc'
          by_cases h : nth xs k = nth ys k
          · have hne' : (nth xs k != nth ys k) = false := by simp [h]
            have H := Lib.hid h
            clear h
            go_wp2
            go_quiet (fail)
            go_wp2
            go_roundw
            case rel => exact ⟨k + 1, by omega, by go_num, fun j hj => by
              by_cases e : j = k
              · rw [e]; exact H.out
              · exact HZ.out j (by omega), _, by first | rfl | (simp only [World.drewN_drewN]; rfl)⟩
            case measure => simp [intOf]; omega
          · have hne' : (nth xs k != nth ys k) = true := by simpa using h
            have H := Lib.hid h
            clear h
            go_wp2
            go_quiet (fail)
            go_wp2
            go_ret
            exact ⟨ret_bool (sameB_digit H.out).symm, by first | exact L0.drewN _ | exact ⟨L0.os, L0.tape, L0.output, L0.size, L0.block⟩⟩
        · obtain rfl : k = xs.length := by omega
          go_wp2
          go_ret
          exact ⟨ret_bool (sameB_yes HL.out HZ.out).symm, by exact ⟨L0.os, L0.tape, L0.output, L0.size, L0.block⟩⟩
    · have hne : ((xs.length : Int) != (ys.length : Int)) = true := by simp; omega
      have hnn : (n1 != n1) = false := by simp
      have H := Lib.hid hlen
      clear hlen
      go_enter Tryd.func21, Tryd.ntmps21
      go_wp2
      go_ret
      exact ⟨ret_bool (sameB_len H.out).symm, L0⟩
  · have hnn : (n1 != n2) = true := by simpa using hn
    have H := Lib.hid hn
    clear hn
    go_enter Tryd.func21, Tryd.ntmps21
    go_wp2
    go_ret
    exact ⟨ret_bool (sameB_neg H.out).symm, L0⟩
end
end Go.Proofs.YteggjfmcpodepaaDoor

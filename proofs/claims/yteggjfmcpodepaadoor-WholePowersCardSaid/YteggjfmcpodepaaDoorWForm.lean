/- The walk of whole.form. -/
import Derived.Test.YteggjfmcpodepaaDoorNumWords
namespace Go.Proofs.YteggjfmcpodepaaDoor
open Go.RowKit

set_option maxRecDepth 100000 in
set_option maxHeartbeats 400000 in
theorem form_any (neg : Bool) (A : Option Addr) (c : Nat) (xs : List Nat) (w : World) (hx : Nums w A xs) (hs : small B18 xs) (hl : xs.length ≤ 1048576) :
    Calls Tryd.prog 49 #[.bool neg, .slice A xs.length c] w (RetBig w (sgn neg (val B18 xs))) := by
  go_enter Tryd.func49, Tryd.ntmps49
  go_wp2
  go_loop [5] (fun v => ∃ k : Nat, k ≤ xs.length ∧ v = .int .i64 k ∧ ∀ j, k ≤ j → nth xs j = 0) (fun v => (intOf v).toNat)
  case atStart => exact ⟨xs.length, Nat.le_refl _, rfl, fun j hj => nth_past xs j hj⟩
  case round =>
    obtain ⟨k, hk, rfl, hz⟩ := hrel
    have HZ := Lib.hid hz; clear hz
    by_cases hk0 : k = 0
    · subst hk0
      go_wp2
      refine bodyPost_ret (v := .agg #[.bool false, .slice none 0 0]) (by simp [results, Tryd.results49, go_sem]) rfl ?_
      have hv : sgn neg (val B18 xs) = 0 := by
        have h1 := val_take_of_zero (b := B18) xs 0 (fun j _ _ => by have := HZ.out j (by omega); unfold nth at this; omega)
        rw [← h1]; cases neg <;> rfl
      rw [hv]
      exact retBig_zero ((Below.refl _ _).alloc (Nat.le_refl _) _)
    · obtain ⟨m, rfl⟩ : ∃ m, k = m + 1 := ⟨k - 1, by omega⟩
      obtain ⟨b, o, rfl, hb, hc⟩ := hx.2 (by omega)
      have hcell := hc m (by omega)
      have hmk := make64 (m + 1) (by omega)
      rw [show ((m + 1 : Nat) : Int) = (m : Int) + 1 from by omega] at hmk
      obtain ⟨w1, hcp, hrow1, hg1, hz1⟩ := copy_nums (w := (w.alloc (.cells #[.bool false, .slice none 0 0] 24)).alloc (.cells (madeCells #[.int .u64 0] (m + 1)) 63)) (w.heap.size + 1) (m + 1) (m + 1) c (some ⟨b, o, none⟩) xs
        (by have := Row.made (w.alloc (.cells #[.bool false, .slice none 0 0] 24)) (m + 1); simpa using this) ((hx.alloc _).alloc _)
      have hN : w1.heap[w.heap.size]? = some (.cells #[.bool false, .slice none 0 0] 24 (0, 0)) := by
        rw [hg1.block _ (by simp; omega) (by simp), Below.heap_alloc _ _ _ (by simp)]
        exact heap_alloc_new _ _
      have hc0 := cell_of_row w1 _ 0 _ _ _ hN
      have hc1 := cell_of_row w1 _ 1 _ _ _ hN
      have hf0 : w1.frozen? ⟨w.heap.size, 0, none⟩ = false := by simp [World.frozen?, hN]
      have hf1 : w1.frozen? ⟨w.heap.size, 1, none⟩ = false := by simp [World.frozen?, hN]
      have HN := Lib.hid hN
      simp at hc0 hc1
      simp only [World.size_alloc] at hz1
      clear hN
      go_wp2
      · have h0 : (nth xs m == 0) = true := by assumption
        go_round
        case rel => exact ⟨m, by omega, rfl, fun j hj => by
          by_cases e : j = m
          · rw [e]; exact beq_iff_eq.1 h0
          · exact HZ.out j (by omega)⟩
        case measure => simp [intOf]
      · have hne : (nth xs m == 0) = false := by assumption
        have hlast : xs.getD m 0 ≠ 0 := by
          have := beq_eq_false_iff_ne.1 hne
          unfold nth at this; omega
        have hst : xs.take (m + 1) = digs B18 (val B18 xs) :=
          strip_eq B18_two hs hk (fun j hj _ => by have := HZ.out j (by omega); unfold nth at this; omega) (fun _ => hlast)
        have hlim : limbs (sgn neg (val B18 xs)) = xs.take (m + 1) := by rw [limbs_eq, sgn_natAbs, hst]
        have hlen : (xs.take (m + 1)).length = m + 1 := by rw [List.length_take]; omega
        have hv0 : val B18 xs ≠ 0 := fun e => by rw [e, digs_zero] at hst; rw [hst] at hlen; simp at hlen
        have hneg : decide (sgn neg (val B18 xs) < 0) = neg := by rw [sgn_neg]; simp [hv0]
        refine bodyPost_ret (v := .agg #[.bool neg, .slice (some ⟨w.heap.size + 1, 0, none⟩) (m + 1) (m + 1)]) (by simp [results, Tryd.results49, go_sem, hc0, hc1]) rfl ?_
        refine ⟨some ⟨w.heap.size + 1, 0, none⟩, m + 1, by rw [hlim, hneg, hlen], ?_, ?_⟩
        · rw [hlim]
          exact (Own.of_row (base := w.heap.size) hrow1 (by omega) (by unfold maxLen; omega) (by omega) (fun _ _ => rfl) (small64 (small_take hs _))).setCell (by rintro q ⟨⟩; simp) _ |>.setCell (by rintro q ⟨⟩; simp) _
        · exact ((((Below.refl _ _).alloc (Nat.le_refl _) _).alloc (by simp) _).grown hg1 (by simp; omega) (by rintro k ⟨⟩; omega)).setCell (by simp) _ |>.setCell (by simp) _
end Go.Proofs.YteggjfmcpodepaaDoor

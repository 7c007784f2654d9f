/- The walk of the reference's cut: digits without noughts ahead. -/
import Derived.Test.YteggjfmcpodepaaDoorByteWords
import Derived.Test.YteggjfmcpodepaaDoorWForm
namespace Go.Proofs.YteggjfmcpodepaaDoor
open Go.RowKit

/-- Slices of one's own have room. -/
theorem Own8.room {w : World} {base : Nat} {A : Option Addr} {c : Nat} {xs : List Nat} (h : Own8 w base A c xs) : xs.length ≤ c := by
  rcases h.1.2 with ⟨hv, h0⟩ | ⟨g, cap, cur, hv, _, _, hle, _⟩
  · omega
  · injection hv; omega
set_option maxRecDepth 100000 in
set_option maxHeartbeats 1000000 in
theorem rcut_any (A : Option Addr) (c : Nat) (ds : List Nat) (w : World) (hx : Nums8 w A ds) (hs : small 10 ds) (hc : ds.length ≤ c) (hl : ds.length ≤ 1048576) :
    Calls Tryd.prog 55 #[.slice A ds.length c] w fun e w' => e = .returned (.slice A (digs 10 (val 10 ds)).length c) ∧ digs 10 (val 10 ds) = ds.take (digs 10 (val 10 ds)).length ∧ (digs 10 (val 10 ds)).length ≤ ds.length ∧ w' = w := by
  go_enter Tryd.func55, Tryd.ntmps55
  go_wp2
  go_loop [3] (fun v => ∃ k : Nat, k ≤ ds.length ∧ v = .int .i64 k ∧ ∀ j, k ≤ j → nth ds j = 0) (fun v => (intOf v).toNat)
  case atStart => exact ⟨ds.length, Nat.le_refl _, rfl, fun j hj => nth_past ds j hj⟩
  case round =>
    obtain ⟨k, hk, rfl, hz⟩ := hrel
    have HZ := Lib.hid hz; clear hz
    have hend : (k = 0 ∨ nth ds (k - 1) ≠ 0) → ds.take k = digs 10 (val 10 ds) := fun h =>
      strip_eq (by decide) hs hk (fun j hj _ => by have := HZ.out j (by omega); unfold nth at this; omega) (fun h0 => by
        rcases h with h | h
        · omega
        · unfold nth at h; omega)
    have hlen : (ds.take k).length = k := by rw [List.length_take]; omega
    by_cases hk0 : k = 0
    · have he := hend (Or.inl hk0)
      subst hk0
      have HE := Lib.hid he
      clear hend he
      go_wp2
      go_ret
      refine ⟨?_, ?_, ?_, rfl⟩
      · rw [← HE.out]; rfl
      · rw [← HE.out]; rfl
      · rw [← HE.out]; simp
    · obtain ⟨m, rfl⟩ : ∃ m, k = m + 1 := ⟨k - 1, by omega⟩
      obtain ⟨b, o, rfl, hb, hcell'⟩ := hx.2 (by omega)
      have hcell := hcell' m (by omega)
      have hm1 : (m : Int) < (ds.length : Int) := by omega
      have hmc : m + 1 ≤ c := by omega
      clear hcell'
      by_cases hl0 : nth ds m = 0
      · have hb0 : (nth ds m == 0) = true := beq_iff_eq.2 hl0
        have H0 := Lib.hid hl0
        clear hl0 hend
        go_wp2
        go_round
        case rel => exact ⟨m, by omega, by go_num, fun j hj => by
          by_cases e : j = m
          · rw [e]; exact H0.out
          · exact HZ.out j (by omega)⟩
        case measure => simp [intOf]
      · have hb0 : (nth ds m == 0) = false := beq_eq_false_iff_ne.2 hl0
        have he := hend (Or.inr (by rw [Nat.add_sub_cancel]; exact hl0))
        have HE := Lib.hid he; have HL := Lib.hid hlen
        clear hend he hl0 hlen
        go_wp2
        go_ret
        refine ⟨?_, ?_, ?_, rfl⟩
        · rw [← HE.out, HL.out]; rfl
        · rw [← HE.out, HL.out]
        · rw [← HE.out, HL.out]; exact hk
end Go.Proofs.YteggjfmcpodepaaDoor

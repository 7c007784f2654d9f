/- The walk of whole.scaled. -/
import Derived.Test.YteggjfmcpodepaaDoorWDoubles
namespace Go.Proofs.YteggjfmcpodepaaDoor
open Go.RowKit

theorem scaled_step {us zs : List Nat} {k : Nat} {cy d : Int} (hz : zs.length = k) (h0 : 0 ≤ cy) (hd : 0 ≤ d) (h : val B9 zs + B9 ^ k * cy.toNat = val B9 (us.take k) * d.toNat) :
    val B9 (zs ++ [((cy + nth us k * d) % 1000000000).toNat]) + B9 ^ (k + 1) * ((cy + nth us k * d) / 1000000000).toNat = val B9 (us.take (k + 1)) * d.toNat := by
  rw [val_snoc, val_take_succ, hz, Nat.pow_succ]
  have e1 : nth us k = ((us.getD k 0 : Nat) : Int) := by unfold nth; rfl
  rw [e1]
  generalize us.getD k 0 = x at *
  obtain ⟨c, rfl⟩ := Int.eq_ofNat_of_zero_le h0
  obtain ⟨e, rfl⟩ := Int.eq_ofNat_of_zero_le hd
  have e3 : (((c : Int) + (x : Int) * (e : Int)) % 1000000000).toNat = (c + x * e) % B9 := by
    rw [← Int.natCast_mul]; unfold B9; omega
  have e4 : (((c : Int) + (x : Int) * (e : Int)) / 1000000000).toNat = (c + x * e) / B9 := by
    rw [← Int.natCast_mul]; unfold B9; omega
  rw [e3, e4]
  simp only [Int.toNat_natCast] at h ⊢
  have e5 := Nat.mod_add_div (c + x * e) B9
  generalize (c + x * e) % B9 = s at *
  generalize (c + x * e) / B9 = q at *
  have e6 : B9 ^ k * s + B9 ^ k * (B9 * q) = B9 ^ k * c + B9 ^ k * (x * e) := by rw [← Nat.mul_add, e5, Nat.mul_add]
  rw [Nat.add_mul, Nat.mul_assoc, Nat.mul_assoc]
  omega

set_option maxRecDepth 100000 in
set_option maxHeartbeats 400000 in
theorem scaled_any (A : Option Addr) (c : Nat) (us : List Nat) (d : Int) (w : World) (hx : Nums w A us) (hs : small B9 us) (hl : us.length ≤ 1048576) (hd : 0 ≤ d) (hd9 : d ≤ 1000000000) :
    Calls Tryd.prog 68 #[.slice A us.length c, .int .u64 d] w (RetRow w B9 (us.length + 1) (val B9 us * d.toNat)) := by
  have hmk := make64 (us.length + 1) (by omega)
  rw [show ((us.length + 1 : Nat) : Int) = (us.length : Int) + 1 from by omega] at hmk
  go_enter Tryd.func68, Tryd.ntmps68
  go_wp2
  go_loopw [6, 15] (fun cv v wr => ∃ (k : Nat) (zs : List Nat) (cy : Int), k ≤ us.length ∧ v = .int .i64 k ∧ cv = .int .u64 cy ∧ 0 ≤ cy ∧ cy < 1000000000 ∧ zs.length = k ∧ small B9 zs ∧
      val B9 zs + B9 ^ k * cy.toNat = val B9 (us.take k) * d.toNat ∧ Row wr w.heap.size (us.length + 1) zs ∧ Below w.heap.size w wr) (fun _ v _ => us.length - (intOf v).toNat)
  case atStart => exact ⟨0, [], 0, Nat.zero_le _, rfl, rfl, by omega, by omega, rfl, small_nil, by simp [val], Row.made w _, (Below.refl _ _).alloc (Nat.le_refl _) _⟩
  case round =>
    obtain ⟨k, zs, cy, hk, rfl, rfl, hc0, hc1, hzl, hzs, hval, hrow, hbel⟩ := hrel
    have HV := Lib.hid hval; have HZ := Lib.hid hzl; clear hval hzl
    have hcell := hrow.cell (j := k) (by omega)
    have hfro := hrow.frozen k
    have hlt := hrow.lt
    by_cases hlt' : k < us.length
    · obtain ⟨b, o, rfl, hb, hc⟩ := hx.2 (by omega)
      have hca : wr.cell? ⟨b, o + k, none⟩ = some (.int .u64 (nth us k)) := (hbel.cell (p := ⟨b, o + k, none⟩) hb).trans (hc k hlt')
      have hxk : nth us k < 1000000000 := nth_lt (by unfold B9; omega) hs k
      have hxk0 := nth_nonneg us k
      have hp0 : 0 ≤ nth us k * d := Int.mul_nonneg hxk0 hd
      have hp1 : nth us k * d ≤ 999999999 * 1000000000 := by
        have h1 : nth us k * d ≤ 999999999 * d := Int.mul_le_mul_of_nonneg_right (by omega) hd
        omega
      clear hc
      go_wp2
      go_roundw
      case rel => exact ⟨k + 1, zs ++ [((cy + nth us k * d) % 1000000000).toNat], (cy + nth us k * d) / 1000000000, by omega, by go_num, rfl, by omega, by omega, by simp [HZ.out],
        small_snoc hzs (by unfold B9; omega), scaled_step HZ.out hc0 hd HV.out, hrow.snocInt _ (by omega) HZ.out (by omega), hbel.setCell (Nat.le_refl _) _⟩
      case measure => simp [intOf]; omega
    · obtain rfl : k = us.length := by omega
      have hv := HV.out
      rw [val_take_all _ _ (Nat.le_refl _)] at hv
      have HV2 := Lib.hid hv
      clear hv
      go_wp2
      go_ret
      exact ⟨w.heap.size, zs ++ [cy.toNat], by simp [HZ.out], hrow.snocInt _ hc0 HZ.out (by omega), by simp [HZ.out], small_snoc hzs (by unfold B9; omega), by rw [val_snoc, HZ.out]; exact HV2.out, Nat.le_refl _, hbel.setCell (Nat.le_refl _) _⟩
end Go.Proofs.YteggjfmcpodepaaDoor

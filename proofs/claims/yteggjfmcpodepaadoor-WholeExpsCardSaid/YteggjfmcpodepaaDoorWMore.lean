/- The walks of whole.more and whole.less. -/
import Derived.Test.YteggjfmcpodepaaDoorNumWords
namespace Go.Proofs.YteggjfmcpodepaaDoor
open Go.RowKit

theorem getD_toInt (xs : List Nat) (k : Nat) : ((xs.getD k 0 : Nat) : Int) = nth xs k := by unfold nth; rfl
theorem more_step {xs ys zs : List Nat} {k : Nat} {cy : Int} (hz : zs.length = k) (h0 : 0 ≤ cy) (h : val B18 zs + B18 ^ k * cy.toNat = val B18 (xs.take k) + val B18 (ys.take k)) :
    val B18 (zs ++ [((nth xs k + cy + nth ys k) % 1000000000000000000).toNat]) + B18 ^ (k + 1) * ((nth xs k + cy + nth ys k) / 1000000000000000000).toNat = val B18 (xs.take (k + 1)) + val B18 (ys.take (k + 1)) := by
  rw [val_snoc, val_take_succ, val_take_succ, hz, Nat.pow_succ]
  have e1 := getD_toInt xs k
  have e2 := getD_toInt ys k
  generalize xs.getD k 0 = x at *
  generalize ys.getD k 0 = y at *
  obtain ⟨c, rfl⟩ := Int.eq_ofNat_of_zero_le h0
  rw [← e1, ← e2]
  have e3 : (((x : Int) + (c : Int) + (y : Int)) % 1000000000000000000).toNat = (x + c + y) % B18 := by unfold B18; omega
  have e4 : (((x : Int) + (c : Int) + (y : Int)) / 1000000000000000000).toNat = (x + c + y) / B18 := by unfold B18; omega
  rw [e3, e4, Nat.mul_assoc]
  have e5 := Nat.mod_add_div (x + c + y) B18
  have e6 : B18 ^ k * ((x + c + y) % B18) + B18 ^ k * (B18 * ((x + c + y) / B18)) = B18 ^ k * x + B18 ^ k * c + B18 ^ k * y := by
    rw [← Nat.mul_add, e5, Nat.mul_add, Nat.mul_add]
  simp only [Int.toNat_natCast] at h
  omega
theorem more_last {zs : List Nat} {k : Nat} {cy : Int} {v : Nat} (hz : zs.length = k) (h : val B18 zs + B18 ^ k * cy.toNat = v) : val B18 (zs ++ [cy.toNat]) = v := by
  rw [val_snoc, hz]; exact h

set_option maxRecDepth 100000 in
set_option maxHeartbeats 400000 in
theorem more_any (A B : Option Addr) (c d : Nat) (xs ys : List Nat) (w : World) (hx : Nums w A xs) (hy : Nums w B ys) (hs : small B18 xs) (ht : small B18 ys)
    (hl : xs.length ≤ 1048576) (hl' : ys.length ≤ 1048576) :
    Calls Tryd.prog 50 #[.slice A xs.length c, .slice B ys.length d] w (RetRow w B18 (max xs.length ys.length + 1) (val B18 xs + val B18 ys)) := by
  by_cases hlen : xs.length < ys.length
  · have hmax : max xs.length ys.length = ys.length := by omega
    rw [hmax]
    have hmk := make64 (ys.length + 1) (by omega)
    rw [show ((ys.length + 1 : Nat) : Int) = (ys.length : Int) + 1 from by omega] at hmk
    clear hmax
    go_enter Tryd.func50, Tryd.ntmps50
    go_wp2
    go_loopw [6, 22] (fun cv v wr => ∃ (k : Nat) (zs : List Nat) (cy : Int), k ≤ ys.length ∧ v = .int .i64 k ∧ cv = .int .u64 cy ∧ 0 ≤ cy ∧ cy ≤ 1 ∧ zs.length = k ∧ small B18 zs ∧
        val B18 zs + B18 ^ k * cy.toNat = val B18 (ys.take k) + val B18 (xs.take k) ∧ Row wr w.heap.size (ys.length + 1) zs ∧ Below w.heap.size w wr) (fun _ v _ => ys.length - (intOf v).toNat)
    case atStart => exact ⟨0, [], 0, Nat.zero_le _, rfl, rfl, by omega, by omega, rfl, small_nil, by simp [val], Row.made w _, (Below.refl _ _).alloc (Nat.le_refl _) _⟩
    case round =>
      obtain ⟨k, zs, cy, hk, rfl, rfl, hc0, hc1, hzl, hzs, hval, hrow, hbel⟩ := hrel
      have HV := Lib.hid hval; have HZ := Lib.hid hzl; clear hval hzl
      have hcell := fun j (hj : j < ys.length + 1) => hrow.cell hj
      have hcell := hcell k (by omega)
      have hfro := hrow.frozen k
      have hlt := hrow.lt
      by_cases hlt' : k < ys.length
      · obtain ⟨b, o, rfl, hb, hc⟩ := hy.2 (by omega)
        have hca : wr.cell? ⟨b, o + k, none⟩ = some (.int .u64 (nth ys k)) := (hbel.cell (p := ⟨b, o + k, none⟩) hb).trans (hc k hlt')
        have hxk : nth ys k < 1000000000000000000 := nth_lt (by unfold B18; omega) ht k
        have hxk0 := nth_nonneg ys k
        have hyk : nth xs k < 1000000000000000000 := nth_lt (by unfold B18; omega) hs k
        have hyk0 := nth_nonneg xs k
        clear hc
        by_cases hky : k < xs.length
        · obtain ⟨b', o', rfl, hb', hc'⟩ := hx.2 (by omega)
          have hcb : wr.cell? ⟨b', o' + k, none⟩ = some (.int .u64 (nth xs k)) := (hbel.cell (p := ⟨b', o' + k, none⟩) hb').trans (hc' k hky)
          clear hc'
          go_wp2
          go_roundw
          case rel => exact ⟨k + 1, zs ++ [((nth ys k + cy + nth xs k) % 1000000000000000000).toNat], (nth ys k + cy + nth xs k) / 1000000000000000000, by omega, by go_num, rfl, by omega, by omega, by simp [HZ.out],
            small_snoc hzs (by unfold B18; omega), more_step HZ.out hc0 HV.out, hrow.snocInt _ (by omega) HZ.out (by omega), hbel.setCell (Nat.le_refl _) _⟩
          case measure => simp [intOf]; omega
        · have hy0 : nth xs k = 0 := nth_past xs k (by omega)
          have HY0 := Lib.hid hy0
          clear hy0
          have hst := more_step (xs := ys) (ys := xs) HZ.out hc0 HV.out
          rw [HY0.out, Int.add_zero] at hst
          have HST := Lib.hid hst
          clear hst
          go_wp2
          go_roundw
          case rel => exact ⟨k + 1, zs ++ [((nth ys k + cy) % 1000000000000000000).toNat], (nth ys k + cy) / 1000000000000000000, by omega, by go_num, rfl, by omega, by omega, by simp [HZ.out],
            small_snoc hzs (by unfold B18; omega), HST.out, hrow.snocInt _ (by omega) HZ.out (by omega), hbel.setCell (Nat.le_refl _) _⟩
          case measure => simp [intOf]; omega
      · obtain rfl : k = ys.length := by omega
        have hv := HV.out
        rw [val_take_all _ _ (Nat.le_refl _), val_take_all _ _ (by omega)] at hv
        have HV2 := Lib.hid hv
        clear hv
        go_wp2
        go_ret
        exact ⟨w.heap.size, zs ++ [cy.toNat], by simp [HZ.out], hrow.snocInt _ hc0 HZ.out (by omega), by simp [HZ.out], small_snoc hzs (by unfold B18; omega), (more_last HZ.out HV2.out).trans (Nat.add_comm _ _), Nat.le_refl _, hbel.setCell (Nat.le_refl _) _⟩
  · have hmax : max xs.length ys.length = xs.length := by omega
    rw [hmax]
    have hmk := make64 (xs.length + 1) (by omega)
    rw [show ((xs.length + 1 : Nat) : Int) = (xs.length : Int) + 1 from by omega] at hmk
    clear hmax
    go_enter Tryd.func50, Tryd.ntmps50
    go_wp2
    go_loopw [6, 22] (fun cv v wr => ∃ (k : Nat) (zs : List Nat) (cy : Int), k ≤ xs.length ∧ v = .int .i64 k ∧ cv = .int .u64 cy ∧ 0 ≤ cy ∧ cy ≤ 1 ∧ zs.length = k ∧ small B18 zs ∧
        val B18 zs + B18 ^ k * cy.toNat = val B18 (xs.take k) + val B18 (ys.take k) ∧ Row wr w.heap.size (xs.length + 1) zs ∧ Below w.heap.size w wr) (fun _ v _ => xs.length - (intOf v).toNat)
    case atStart => exact ⟨0, [], 0, Nat.zero_le _, rfl, rfl, by omega, by omega, rfl, small_nil, by simp [val], Row.made w _, (Below.refl _ _).alloc (Nat.le_refl _) _⟩
    case round =>
      obtain ⟨k, zs, cy, hk, rfl, rfl, hc0, hc1, hzl, hzs, hval, hrow, hbel⟩ := hrel
      have HV := Lib.hid hval; have HZ := Lib.hid hzl; clear hval hzl
      have hcell := fun j (hj : j < xs.length + 1) => hrow.cell hj
      have hcell := hcell k (by omega)
      have hfro := hrow.frozen k
      have hlt := hrow.lt
      by_cases hlt' : k < xs.length
      · obtain ⟨b, o, rfl, hb, hc⟩ := hx.2 (by omega)
        have hca : wr.cell? ⟨b, o + k, none⟩ = some (.int .u64 (nth xs k)) := (hbel.cell (p := ⟨b, o + k, none⟩) hb).trans (hc k hlt')
        have hxk : nth xs k < 1000000000000000000 := nth_lt (by unfold B18; omega) hs k
        have hxk0 := nth_nonneg xs k
        have hyk : nth ys k < 1000000000000000000 := nth_lt (by unfold B18; omega) ht k
        have hyk0 := nth_nonneg ys k
        clear hc
        by_cases hky : k < ys.length
        · obtain ⟨b', o', rfl, hb', hc'⟩ := hy.2 (by omega)
          have hcb : wr.cell? ⟨b', o' + k, none⟩ = some (.int .u64 (nth ys k)) := (hbel.cell (p := ⟨b', o' + k, none⟩) hb').trans (hc' k hky)
          clear hc'
          go_wp2
          go_roundw
          case rel => exact ⟨k + 1, zs ++ [((nth xs k + cy + nth ys k) % 1000000000000000000).toNat], (nth xs k + cy + nth ys k) / 1000000000000000000, by omega, by go_num, rfl, by omega, by omega, by simp [HZ.out],
            small_snoc hzs (by unfold B18; omega), more_step HZ.out hc0 HV.out, hrow.snocInt _ (by omega) HZ.out (by omega), hbel.setCell (Nat.le_refl _) _⟩
          case measure => simp [intOf]; omega
        · have hy0 : nth ys k = 0 := nth_past ys k (by omega)
          have HY0 := Lib.hid hy0
          clear hy0
          have hst := more_step (xs := xs) (ys := ys) HZ.out hc0 HV.out
          rw [HY0.out, Int.add_zero] at hst
          have HST := Lib.hid hst
          clear hst
          go_wp2
          go_roundw
          case rel => exact ⟨k + 1, zs ++ [((nth xs k + cy) % 1000000000000000000).toNat], (nth xs k + cy) / 1000000000000000000, by omega, by go_num, rfl, by omega, by omega, by simp [HZ.out],
            small_snoc hzs (by unfold B18; omega), HST.out, hrow.snocInt _ (by omega) HZ.out (by omega), hbel.setCell (Nat.le_refl _) _⟩
          case measure => simp [intOf]; omega
      · obtain rfl : k = xs.length := by omega
        have hv := HV.out
        rw [val_take_all _ _ (Nat.le_refl _), val_take_all _ _ (by omega)] at hv
        have HV2 := Lib.hid hv
        clear hv
        go_wp2
        go_ret
        exact ⟨w.heap.size, zs ++ [cy.toNat], by simp [HZ.out], hrow.snocInt _ hc0 HZ.out (by omega), by simp [HZ.out], small_snoc hzs (by unfold B18; omega), more_last HZ.out HV2.out, Nat.le_refl _, hbel.setCell (Nat.le_refl _) _⟩
end Go.Proofs.YteggjfmcpodepaaDoor

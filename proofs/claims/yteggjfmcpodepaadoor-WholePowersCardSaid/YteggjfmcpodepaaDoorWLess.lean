/- The walk of whole.less. -/
import Derived.Test.YteggjfmcpodepaaDoorWMore
namespace Go.Proofs.YteggjfmcpodepaaDoor
open Go.RowKit

theorem less_step {xs ys zs : List Nat} {k : Nat} {bw : Int} (hz : zs.length = k) (h0 : 0 ≤ bw) (h1 : bw ≤ 1) (hy : nth ys k < 1000000000000000000) (h : val B18 zs + val B18 (ys.take k) = val B18 (xs.take k) + B18 ^ k * bw.toNat)
    (hx : nth xs k < 1000000000000000000) :
    val B18 (zs ++ [((nth xs k + 1000000000000000000 - bw - nth ys k) % 1000000000000000000).toNat]) + val B18 (ys.take (k + 1)) = val B18 (xs.take (k + 1)) + B18 ^ (k + 1) * (1 - (nth xs k + 1000000000000000000 - bw - nth ys k) / 1000000000000000000).toNat := by
  rw [val_snoc, val_take_succ, val_take_succ, hz, Nat.pow_succ]
  have e1 := getD_toInt xs k
  have e2 := getD_toInt ys k
  rw [← e2] at hy
  rw [← e1] at hx
  generalize xs.getD k 0 = x at *
  generalize ys.getD k 0 = y at *
  rw [← e1, ← e2]
  obtain ⟨z, hzz⟩ : ∃ z, z = (((x : Int) + 1000000000000000000 - bw - (y : Int)) % 1000000000000000000).toNat := ⟨_, rfl⟩
  obtain ⟨q, hq⟩ : ∃ q, q = (1 - ((x : Int) + 1000000000000000000 - bw - (y : Int)) / 1000000000000000000).toNat := ⟨_, rfl⟩
  rw [← hzz, ← hq]
  have key : z + y + bw.toNat = x + B18 * q := by unfold B18; omega
  have e6 : B18 ^ k * z + B18 ^ k * y + B18 ^ k * bw.toNat = B18 ^ k * x + B18 ^ k * (B18 * q) := by
    rw [← Nat.mul_add, ← Nat.mul_add, key, Nat.mul_add]
  rw [Nat.mul_assoc]
  omega
theorem less_last {zs : List Nat} {n : Nat} {bw : Int} {vx vy : Nat} (hz : zs.length = n) (hs : small B18 zs) (h0 : 0 ≤ bw) (h1 : bw ≤ 1) (hle : vy ≤ vx) (h : val B18 zs + vy = vx + B18 ^ n * bw.toNat) : val B18 zs = vx - vy := by
  have hv := val_lt hs
  rw [hz] at hv
  rcases (by omega : bw = 0 ∨ bw = 1) with rfl | rfl
  · simp at h; omega
  · simp at h; omega

set_option maxRecDepth 100000 in
set_option maxHeartbeats 400000 in
theorem less_any (A B : Option Addr) (c d : Nat) (xs ys : List Nat) (w : World) (hx : Nums w A xs) (hy : Nums w B ys) (hs : small B18 xs) (ht : small B18 ys)
    (hl : xs.length ≤ 1048576) (hl' : ys.length ≤ xs.length) (hle : val B18 ys ≤ val B18 xs) :
    Calls Tryd.prog 51 #[.slice A xs.length c, .slice B ys.length d] w (RetRow w B18 xs.length (val B18 xs - val B18 ys)) := by
  have hmk := make64 xs.length (by omega)
  have HLE := Lib.hid hle; clear hle
  go_enter Tryd.func51, Tryd.ntmps51
  go_wp2
  go_loopw [6, 14] (fun cv v wr => ∃ (k : Nat) (zs : List Nat) (bw : Int), k ≤ xs.length ∧ v = .int .i64 k ∧ cv = .int .u64 bw ∧ 0 ≤ bw ∧ bw ≤ 1 ∧ zs.length = k ∧ small B18 zs ∧
      val B18 zs + val B18 (ys.take k) = val B18 (xs.take k) + B18 ^ k * bw.toNat ∧ Row wr w.heap.size xs.length zs ∧ Below w.heap.size w wr) (fun _ v _ => xs.length - (intOf v).toNat)
  case atStart => exact ⟨0, [], 0, Nat.zero_le _, rfl, rfl, by omega, by omega, rfl, small_nil, by simp [val], Row.made w _, (Below.refl _ _).alloc (Nat.le_refl _) _⟩
  case round =>
    obtain ⟨k, zs, bw, hk, rfl, rfl, hc0, hc1, hzl, hzs, hval, hrow, hbel⟩ := hrel
    have HV := Lib.hid hval; have HZ := Lib.hid hzl; clear hval hzl
    by_cases hlt' : k < xs.length
    · have hcell := hrow.cell (j := k) (by omega)
      have hfro := hrow.frozen k
      have hlt := hrow.lt
      obtain ⟨b, o, rfl, hb, hc⟩ := hx.2 (by omega)
      have hca : wr.cell? ⟨b, o + k, none⟩ = some (.int .u64 (nth xs k)) := (hbel.cell (p := ⟨b, o + k, none⟩) hb).trans (hc k hlt')
      have hxk : nth xs k < 1000000000000000000 := nth_lt (by unfold B18; omega) hs k
      have hxk0 := nth_nonneg xs k
      have hyk : nth ys k < 1000000000000000000 := nth_lt (by unfold B18; omega) ht k
      have hyk0 := nth_nonneg ys k
      clear hc
      by_cases hky : k < ys.length
      · obtain ⟨b', o', rfl, hb', hc'⟩ := hy.2 (by omega)
        have hcb : wr.cell? ⟨b', o' + k, none⟩ = some (.int .u64 (nth ys k)) := (hbel.cell (p := ⟨b', o' + k, none⟩) hb').trans (hc' k hky)
        clear hc'
        go_wp2
        go_roundw
        case rel => exact ⟨k + 1, zs ++ [((nth xs k + 1000000000000000000 - bw - nth ys k) % 1000000000000000000).toNat], 1 - (nth xs k + 1000000000000000000 - bw - nth ys k) / 1000000000000000000, by omega, by go_num, rfl, by omega, by omega, by simp [HZ.out],
          small_snoc hzs (by unfold B18; omega), less_step HZ.out hc0 hc1 hyk HV.out hxk, hrow.snocInt _ (by omega) HZ.out (by omega), hbel.setCell (Nat.le_refl _) _⟩
        case measure => simp [intOf]; omega
      · have hy0 : nth ys k = 0 := nth_past ys k (by omega)
        have HY0 := Lib.hid hy0
        clear hy0
        have hst := less_step (xs := xs) (ys := ys) HZ.out hc0 hc1 hyk HV.out hxk
        rw [HY0.out, Int.sub_zero] at hst
        have HST := Lib.hid hst
        clear hst
        go_wp2
        go_roundw
        case rel => exact ⟨k + 1, zs ++ [((nth xs k + 1000000000000000000 - bw) % 1000000000000000000).toNat], 1 - (nth xs k + 1000000000000000000 - bw) / 1000000000000000000, by omega, by go_num, rfl, by omega, by omega, by simp [HZ.out],
          small_snoc hzs (by unfold B18; omega), HST.out, hrow.snocInt _ (by omega) HZ.out (by omega), hbel.setCell (Nat.le_refl _) _⟩
        case measure => simp [intOf]; omega
    · obtain rfl : k = xs.length := by omega
      have hv := HV.out
      rw [val_take_all _ _ (Nat.le_refl _), val_take_all _ _ (by omega)] at hv
      have HV2 := Lib.hid hv
      clear hv
      go_wp2
      go_ret
      exact ⟨w.heap.size, zs, by simp [HZ.out], hrow, HZ.out, hzs, less_last HZ.out hzs hc0 hc1 HLE.out HV2.out, Nat.le_refl _, hbel⟩
end Go.Proofs.YteggjfmcpodepaaDoor

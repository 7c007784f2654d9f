/- The walk of whole.halves. -/
import Derived.Test.YteggjfmcpodepaaDoorWForm
namespace Go.Proofs.YteggjfmcpodepaaDoor
open Go.RowKit

def B9 : Nat := 1000000000
theorem B9_two : 2 ≤ B9 := by unfold B9; omega
theorem cells_two (w : World) (x y : Int) (a b : Nat) (hx : x = (a : Int)) (hy : y = (b : Int)) :
    ∀ j u, ([a, b].map fun x : Nat => Value.int .u64 (x : Int))[j]? = some u → (w.alloc (.cells #[.int .u64 x, .int .u64 y] 63)).cell? ((⟨w.heap.size, 0, none⟩ : Addr).add j) = some u := by
  subst hx; subst hy
  exact cell_two_new w _ _ _
theorem halves_step {xs zs : List Nat} {k : Nat} (hz : zs.length = 2 * k) (h : val B9 zs = val B18 (xs.take k)) :
    val B9 (zs ++ [(nth xs k % 1000000000).toNat, (nth xs k / 1000000000).toNat]) = val B18 (xs.take (k + 1)) := by
  rw [val_append, val_take_succ, h, hz]
  have e : B9 ^ (2 * k) = B18 ^ k := by rw [Nat.pow_mul]; rfl
  rw [e]
  congr 1
  congr 1
  simp only [val, Nat.mul_zero, Nat.add_zero]
  unfold nth B9
  omega

set_option maxRecDepth 100000 in
set_option maxHeartbeats 400000 in
theorem halves_any (A : Option Addr) (c : Nat) (xs : List Nat) (w : World) (hx : Nums w A xs) (hs : small B18 xs) (hl : xs.length ≤ 1048576) :
    Calls Tryd.prog 65 #[.slice A xs.length c] w fun e w' => ∃ A' c' zs, e = .returned (.slice A' zs.length c') ∧ Own w' w.heap.size A' c' zs ∧ zs = digs B9 (val B18 xs) ∧ Below w.heap.size w w' := by
  go_enter Tryd.func65, Tryd.ntmps65
  go_wp2
  go_loopw [3, 8] (fun v i wr => ∃ (k : Nat) (A' : Option Addr) (c' : Nat) (zs : List Nat), k ≤ xs.length ∧ i = .int .i64 k ∧ v = .slice A' zs.length c' ∧ Own wr w.heap.size A' c' zs ∧ zs.length = 2 * k ∧ small B9 zs ∧
      val B9 zs = val B18 (xs.take k) ∧ Below w.heap.size w wr) (fun _ i _ => xs.length - (intOf i).toNat)
  case atStart => exact ⟨0, none, 0, [], Nat.zero_le _, rfl, rfl, Own.nil _ _, rfl, small_nil, rfl, Below.refl _ _⟩
  case round =>
    obtain ⟨k, A', c', zs, hk, rfl, rfl, hown, hzl, hzs, hzv, hbel⟩ := hrel
    have HL := Lib.hid hzl; have HV := Lib.hid hzv
    by_cases hlt : k < xs.length
    · obtain ⟨b, o, rfl, hb, hc⟩ := hx.2 (by omega)
      have hca : wr.cell? ⟨b, o + k, none⟩ = some (.int .u64 (nth xs k)) := (hbel.cell (p := ⟨b, o + k, none⟩) hb).trans (hc k hlt)
      have hx0 := nth_nonneg xs k
      have hx1 : nth xs k < 1000000000000000000 := nth_lt (by unfold B18; omega) hs k
      have e1 : nth xs k % 1000000000 = (((nth xs k % 1000000000).toNat : Nat) : Int) := by omega
      have e2 : nth xs k / 1000000000 = (((nth xs k / 1000000000).toNat : Nat) : Int) := by omega
      have HC := Lib.hid (cells_two wr _ _ _ _ e1 e2)
      have hsz := hbel.size
      clear hc e1 e2 hzl hzv
      have H64 : Hid (∀ x ∈ [(nth xs k % 1000000000).toNat, (nth xs k / 1000000000).toNat], x < 18446744073709551616) := by
        intro x hx'; simp only [List.mem_cons, List.not_mem_nil, or_false] at hx'; omega
      have HN : Hid (zs.length + [(nth xs k % 1000000000).toNat, (nth xs k / 1000000000).toNat].length ≤ 17592186044416) := by
        have := HL.out; show zs.length + 2 ≤ _; omega
      go_wp2_with (at_builtin; go_loud (refine wpList_app rfl (.tmp 12) (.tmp 17) rfl w.heap.size A' c' zs rfl (hown.alloc _) [(nth xs k % 1000000000).toNat, (nth xs k / 1000000000).toNat] ⟨wr.heap.size, 0, none⟩ 2 2 rfl rfl (by exact HC.out) H64.out HN.out (by simp; omega) (fun A2 c2 w2 hown2 hg2 => ?_)))
      go_roundw
      case rel => exact ⟨k + 1, A2, c2, zs ++ [(nth xs k % 1000000000).toNat, (nth xs k / 1000000000).toNat], by omega, by go_num, by simp, hown2, by have := HL.out; simp; omega,
        small_append.2 ⟨hzs, by intro y hy; simp only [List.mem_cons, List.not_mem_nil, or_false] at hy; unfold B9; omega⟩, halves_step HL.out HV.out, Below.own (hbel.alloc hsz _) (hown.alloc _) (by simp; omega) hg2⟩
      case measure => simp [intOf]; omega
    · obtain rfl : k = xs.length := by omega
      have hv := HV.out
      rw [val_take_all _ _ (Nat.le_refl _)] at hv
      have HV2 := Lib.hid hv
      have hle : zs.length ≤ 2097152 := by omega
      clear hv hzl hzv
      go_wp2
      go_loop [3] (fun v => ∃ (A' : Option Addr) (c' : Nat) (ys : List Nat), v = .slice A' ys.length c' ∧ Own wr w.heap.size A' c' ys ∧ small B9 ys ∧ val B9 ys = val B18 xs ∧ ys.length ≤ 2097152) (fun v => lenOf v)
      case atStart => exact ⟨A', c', zs, rfl, hown, hzs, HV2.out, hle⟩
      case round =>
        obtain ⟨A3, c3, ys, rfl, hown3, hys, hyv, hyl⟩ := hrel
        have HY := Lib.hid hyv
        clear hyv hown hzs hle
        by_cases h0 : ys.length = 0
        · obtain rfl := List.eq_nil_of_length_eq_zero h0
          clear h0
          go_wp2
          go_ret
          exact ⟨A3, c3, [], rfl, hown3, by rw [← HY.out]; rfl, hbel⟩
        · obtain ⟨m, hm⟩ : ∃ m, ys.length = m + 1 := ⟨ys.length - 1, by omega⟩
          obtain ⟨b, o, rfl, hb, hc⟩ := hown3.nums.2 (by omega)
          have hcell := hc m (by omega)
          have HO := Lib.hid hown3; have HM := Lib.hid hm
          have hm2 : m ≤ 2097152 := by omega
          have hmc : m ≤ c3 := by
            rcases hown3.1.2 with ⟨_, h⟩ | ⟨g, cap, cur, hv, _, _, hle, _⟩
            · omega
            · injection hv; omega
          by_cases hl0 : nth ys m = 0
          · have hb0 : (nth ys m == 0) = true := beq_iff_eq.2 hl0
            have HZ := Lib.hid hl0
            clear hc hown3 h0 hl0
            rw [hm]
            go_wp2
            have hml : (ys.take m).length = m := by rw [List.length_take]; omega
            have hv2 : val B9 (ys.take m) = val B9 ys := val_take_of_zero ys m fun j hj hj' => by
              have e : j = m := by omega
              have := HZ.out
              rw [e]; unfold nth at this; omega
            go_roundw
            case rel => exact ⟨_, c3, ys.take m, by rw [hml], HO.out.cut (fun e => by rw [e] at hm; simp at hm) (by omega), small_take hys m, hv2.trans HY.out, by omega⟩
            case measure => show m < m + 1; omega
          · have hb0 : (nth ys m == 0) = false := beq_eq_false_iff_ne.2 hl0
            have HZ := Lib.hid hl0
            have hd : ys = digs B9 (val B18 xs) := by
              rw [← HY.out]
              refine eq_digs B9_two hys (Or.inr ?_)
              rw [hm, Nat.add_sub_cancel]
              unfold nth at hl0; omega
            have HD := Lib.hid hd
            clear hc hown3 h0 hl0 hd
            rw [hm]
            go_wp2
            go_ret
            exact ⟨_, c3, ys, by rw [hm]; rfl, HO.out, HD.out, hbel⟩
end Go.Proofs.YteggjfmcpodepaaDoor

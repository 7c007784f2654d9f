/- The walk of whole.doubles. -/
import Derived.Test.YteggjfmcpodepaaDoorWShort
namespace Go.Proofs.YteggjfmcpodepaaDoor
open Go.RowKit

theorem cells_one (w : World) (x : Int) (a : Nat) (hx : x = (a : Int)) :
    ∀ j u, ([a].map fun x : Nat => Value.int .u64 (x : Int))[j]? = some u → (w.alloc (.cells #[.int .u64 x] 63)).cell? ((⟨w.heap.size, 0, none⟩ : Addr).add j) = some u := by
  subst hx
  intro j u hj
  match j, hj with
  | 0, hj => simp at hj; subst hj; simp [Addr.add]
theorem B9_sq (k : Nat) : B9 ^ (2 * k) = B18 ^ k := by rw [Nat.pow_mul]; rfl
theorem doubles_step {us zs : List Nat} {k : Nat} (hz : zs.length = k) (h : val B18 zs = val B9 (us.take (2 * k))) (x : Int) (hx : x = nth us (2 * k) + 1000000000 * nth us (2 * k + 1)) :
    val B18 (zs ++ [x.toNat]) = val B9 (us.take (2 * (k + 1))) := by
  rw [val_snoc, hz, show 2 * (k + 1) = 2 * k + 1 + 1 from by omega, val_take_succ, val_take_succ, h, Nat.pow_succ, B9_sq]
  have e : x.toNat = us.getD (2 * k) 0 + B9 * us.getD (2 * k + 1) 0 := by rw [hx]; unfold nth B9; omega
  rw [e, Nat.mul_add, Nat.mul_assoc]
  omega

set_option maxRecDepth 100000 in
set_option maxHeartbeats 400000 in
theorem doubles_any (A : Option Addr) (c : Nat) (us : List Nat) (w : World) (hx : Nums w A us) (hs : small B9 us) (hl : us.length ≤ 1048576) :
    Calls Tryd.prog 67 #[.slice A us.length c] w fun e w' => ∃ A' c' zs, e = .returned (.slice A' zs.length c') ∧ Own w' w.heap.size A' c' zs ∧ small B18 zs ∧ val B18 zs = val B9 us ∧ zs.length ≤ us.length ∧ Below w.heap.size w w' := by
  go_enter Tryd.func67, Tryd.ntmps67
  go_wp2
  go_loopw [3, 4] (fun v i wr => ∃ (k : Nat) (A' : Option Addr) (c' : Nat) (zs : List Nat), 2 * k ≤ us.length + 1 ∧ i = .int .i64 (2 * (k : Int)) ∧ v = .slice A' zs.length c' ∧ Own wr w.heap.size A' c' zs ∧ zs.length = k ∧ small B18 zs ∧
      val B18 zs = val B9 (us.take (2 * k)) ∧ Below w.heap.size w wr) (fun _ i _ => us.length + 2 - (intOf i).toNat)
  case atStart => exact ⟨0, none, 0, [], by omega, rfl, rfl, Own.nil _ _, rfl, small_nil, rfl, Below.refl _ _⟩
  case round =>
    obtain ⟨k, A', c', zs, hk, rfl, rfl, hown, hzl, hzs, hzv, hbel⟩ := hrel
    have HL := Lib.hid hzl; have HV := Lib.hid hzv
    by_cases hlt : 2 * k < us.length
    · obtain ⟨b, o, rfl, hb, hc⟩ := hx.2 (by omega)
      have ek : (2 * (k : Int)) = ((2 * k : Nat) : Int) := by omega
      have ek1 : (2 * (k : Int) + 1).toNat = 2 * k + 1 := by omega
      have hca : wr.cell? ⟨b, o + 2 * k, none⟩ = some (.int .u64 (nth us (2 * k))) := (hbel.cell (p := ⟨b, o + 2 * k, none⟩) hb).trans (hc (2 * k) hlt)
      have hx0 := nth_nonneg us (2 * k)
      have hx1 : nth us (2 * k) < 1000000000 := nth_lt (by unfold B9; omega) hs _
      have hy0 := nth_nonneg us (2 * k + 1)
      have hy1 : nth us (2 * k + 1) < 1000000000 := nth_lt (by unfold B9; omega) hs _
      have hsz := hbel.size
      have hi1 : (2 * (k : Int)) < (us.length : Int) := by omega
      have hi0 : (0 : Int) ≤ 2 * (k : Int) := by omega
      by_cases hlt2 : 2 * k + 1 < us.length
      · have hcb : wr.cell? ⟨b, o + (2 * k + 1), none⟩ = some (.int .u64 (nth us (2 * k + 1))) := (hbel.cell (p := ⟨b, o + (2 * k + 1), none⟩) hb).trans (hc (2 * k + 1) hlt2)
        have hi2 : (2 * (k : Int) + 1) < (us.length : Int) := by omega
        have e1 : nth us (2 * k) + 1000000000 * nth us (2 * k + 1) = (((nth us (2 * k) + 1000000000 * nth us (2 * k + 1)).toNat : Nat) : Int) := by omega
        have HC := Lib.hid (cells_one wr _ _ e1)
        have H64 : Hid (∀ x ∈ [(nth us (2 * k) + 1000000000 * nth us (2 * k + 1)).toNat], x < 18446744073709551616) := by
          intro x hx'; simp only [List.mem_cons, List.not_mem_nil, or_false] at hx'; omega
        have HN : Hid (zs.length + [(nth us (2 * k) + 1000000000 * nth us (2 * k + 1)).toNat].length ≤ 17592186044416) := by
          have := HL.out; show zs.length + 1 ≤ _; omega
        clear hc e1 hzl hzv ek ek1
        go_wp2_with (at_builtin; go_loud (refine wpList_app rfl (.tmp 29) (.tmp 31) rfl w.heap.size A' c' zs rfl (hown.alloc _) [(nth us (2 * k) + 1000000000 * nth us (2 * k + 1)).toNat] ⟨wr.heap.size, 0, none⟩ 1 1 rfl rfl (by exact HC.out) H64.out HN.out (by simp; omega) (fun A2 c2 w2 hown2 hg2 => ?_)))
        go_roundw
        case rel => exact ⟨k + 1, A2, c2, zs ++ [(nth us (2 * k) + 1000000000 * nth us (2 * k + 1)).toNat], by omega, by go_num, by simp, hown2, by have := HL.out; simp; omega,
          small_snoc hzs (by unfold B18; omega), doubles_step HL.out HV.out _ rfl, Below.own (hbel.alloc hsz _) (hown.alloc _) (by simp; omega) hg2⟩
        case measure => simp [intOf]; omega
      · have hi2 : ¬ (2 * (k : Int) + 1) < (us.length : Int) := by omega
        have hy2 : nth us (2 * k + 1) = 0 := nth_past us _ (by omega)
        have e1 : nth us (2 * k) = (((nth us (2 * k)).toNat : Nat) : Int) := by omega
        have HC := Lib.hid (cells_one wr _ _ e1)
        have H64 : Hid (∀ x ∈ [(nth us (2 * k)).toNat], x < 18446744073709551616) := by
          intro x hx'; simp only [List.mem_cons, List.not_mem_nil, or_false] at hx'; omega
        have HN : Hid (zs.length + [(nth us (2 * k)).toNat].length ≤ 17592186044416) := by
          have := HL.out; show zs.length + 1 ≤ _; omega
        have HY2 := Lib.hid hy2
        clear hc e1 hzl hzv ek ek1 hy2
        go_wp2_with (at_builtin; go_loud (refine wpList_app rfl (.tmp 29) (.tmp 31) rfl w.heap.size A' c' zs rfl (hown.alloc _) [(nth us (2 * k)).toNat] ⟨wr.heap.size, 0, none⟩ 1 1 rfl rfl (by exact HC.out) H64.out HN.out (by simp; omega) (fun A2 c2 w2 hown2 hg2 => ?_)))
        go_roundw
        case rel => exact ⟨k + 1, A2, c2, zs ++ [(nth us (2 * k)).toNat], by omega, by go_num, by simp, hown2, by have := HL.out; simp; omega,
          small_snoc hzs (by unfold B18; omega), doubles_step HL.out HV.out _ (by rw [HY2.out]; omega), Below.own (hbel.alloc hsz _) (hown.alloc _) (by simp; omega) hg2⟩
        case measure => simp [intOf]; omega
    · have hv := HV.out
      rw [val_take_all _ _ (by omega)] at hv
      have HV2 := Lib.hid hv
      have hi1 : ¬ (2 * (k : Int)) < (us.length : Int) := by omega
      have hle : zs.length ≤ us.length := by omega
      clear hv hzl hzv
      go_wp2
      go_ret
      exact ⟨A', c', zs, rfl, hown, hzs, HV2.out, hle, hbel⟩
end Go.Proofs.YteggjfmcpodepaaDoor

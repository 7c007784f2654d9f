/- The walk of the reference's Small. -/
import Derived.Test.YteggjfmcpodepaaDoorRInt
import Derived.Test.YteggjfmcpodepaaDoorWInt
namespace Go.Proofs.YteggjfmcpodepaaDoor
open Go.RowKit

/-- The int that a number is, or 0. -/
@[irreducible] def smV (i : Int) : Int := if inR i then i else 0
def RetSmall (W : World) (i : Int) (e : Ending) (w' : World) : Prop := e = .returned (.tuple #[.int .i64 (smV i), .bool (decide (inR i))]) ∧ Below W.heap.size W w'
theorem retSmall_out {W w' : World} {i : Int} (h : Below W.heap.size W w') (hv : ¬ inR i) : RetSmall W i (.returned (.tuple #[.int .i64 0, .bool false])) w' := ⟨by unfold smV; simp [hv], h⟩
theorem retSmall_in {W w' : World} {i u : Int} (h : Below W.heap.size W w') (hv : inR i) (hu : u = i) : RetSmall W i (.returned (.tuple #[.int .i64 u, .bool true])) w' := ⟨by subst hu; unfold smV; simp [hv], h⟩
theorem tens_long {i : Int} (h : 19 < (tens i).length) : ¬ inR i := by
  rw [tens_eq] at h
  have h2 := mt (digs_length_le (by decide : 2 ≤ 10) i.natAbs 19).2 (by omega)
  unfold inR; omega

set_option maxRecDepth 100000
set_option maxHeartbeats 1000000 in
theorem rsmall_any (A : Option Addr) (c : Nat) (i : Int) (w : World) (hx : Nums8 w A (tens i)) (hl : (tens i).length ≤ 1048576) :
    Calls Tryd.prog 26 #[.agg #[.bool (decide (i < 0)), .slice A (tens i).length c]] w (RetSmall w i) := by
  by_cases h19 : 19 < (tens i).length
  · have HO := Lib.hid (tens_long h19)
    have h19' : (19 : Int) < ((tens i).length : Int) := by omega
    go_enter Tryd.func26, Tryd.ntmps26
    go_wp2_with fail
    refine bodyPost_ret (v := .tuple #[.int .i64 0, .bool false]) (by simp [results, Tryd.results26, go_sem]) rfl ?_
    exact retSmall_out ((Below.refl _ _).alloc (Nat.le_refl _) _) HO.out
  · have h19' : ¬ (19 : Int) < ((tens i).length : Int) := by omega
    have hbig : val 10 (tens i) < 10000000000000000000 := by
      rw [val_tens]
      have := (digs_length_le (by decide : 2 ≤ 10) i.natAbs 19).1 (by rw [← tens_eq]; omega)
      omega
    have hu : ∀ k, k < (tens i).length → 10 * ((val 10 ((tens i).drop (k + 1)) : Nat) : Int) + nth (tens i) k = ((val 10 ((tens i).drop k) : Nat) : Int) ∧ ((val 10 ((tens i).drop k) : Nat) : Int) < 10000000000000000000 ∧ nth (tens i) k < 10 := by
      intro k hk
      have e := val_drop_step (b := 10) hk
      have e2 := val_drop_le (b := 10) (by omega) (tens i) k
      have e3 := nth_lt (by omega) (tens_small i) k
      refine ⟨?_, by omega, e3⟩
      unfold nth
      generalize val 10 ((tens i).drop (k + 1)) = p at *
      generalize val 10 ((tens i).drop k) = q at *
      omega
    have HU := Lib.hid hu; have HB := Lib.hid hbig
    have HI := Lib.hid (val_tens i)
    obtain ⟨bn, hbn⟩ : ∃ bn, bn = decide (i < 0) := ⟨_, rfl⟩
    rw [← hbn]
    have HN := Lib.hid hbn
    clear hu hbig h19 hbn
    generalize htt : tens i = ds at *
    clear htt
    go_enter Tryd.func26, Tryd.ntmps26
    go_wp2_with fail
    go_loop [4, 5] (fun u v => ∃ k : Nat, k ≤ ds.length ∧ u = .int .u64 ((val 10 (ds.drop k) : Nat) : Int) ∧ v = .int .i64 ((k : Int) - 1)) (fun u v => (intOf v + 1).toNat)
    case atStart => exact ⟨ds.length, Nat.le_refl _, by rw [List.drop_of_length_le (Nat.le_refl _)]; rfl, rfl⟩
    case round =>
      obtain ⟨k, hk, rfl, rfl⟩ := hrel
      have L1 : Below w.heap.size w (w.alloc (.cells #[.bool bn, .slice A ds.length c] 33)) := (Below.refl _ _).alloc (Nat.le_refl _) _
      by_cases hk0 : k = 0
      · subst hk0
        obtain ⟨u, hu⟩ : ∃ u : Int, u = ((val 10 (ds.drop 0) : Nat) : Int) := ⟨_, rfl⟩
        have hu1 : u < 10000000000000000000 := by rw [hu, List.drop_zero]; have := HB.out; omega
        have hu0 : 0 ≤ u := by rw [hu]; omega
        have hval : u = ((i.natAbs : Nat) : Int) := by rw [hu, List.drop_zero, HI.out]
        rw [← hu]
        clear hu
        cases bn
        · have hv : i = u := by have := HN.out; simp at this; omega
          have HV := Lib.hid hv
          clear hv hval
          by_cases hr : u < 9223372036854775808
          · have hw := pos_wrap u hu0 hr
            go_wp2
            refine bodyPost_ret (v := .tuple #[.int .i64 u, .bool true]) (by simp [results, Tryd.results26, go_sem]) rfl ?_
            exact retSmall_in L1 (by rw [HV.out]; unfold inR; omega) HV.out.symm
          · go_wp2
            refine bodyPost_ret (v := .tuple #[.int .i64 0, .bool false]) (by simp [results, Tryd.results26, go_sem]) rfl ?_
            exact retSmall_out L1 (by rw [HV.out]; unfold inR; omega)
        · have hv : i = -u := by have := HN.out; simp at this; omega
          have HV := Lib.hid hv
          clear hv hval
          by_cases hr : u ≤ 9223372036854775808
          · have hw := neg_wrap u hu0 hr
            go_wp2
            refine bodyPost_ret (v := .tuple #[.int .i64 (-u), .bool true]) (by simp [results, Tryd.results26, go_sem, hw]) rfl ?_
            exact retSmall_in L1 (by rw [HV.out]; unfold inR; omega) HV.out.symm
          · go_wp2
            refine bodyPost_ret (v := .tuple #[.int .i64 0, .bool false]) (by simp [results, Tryd.results26, go_sem]) rfl ?_
            exact retSmall_out L1 (by rw [HV.out]; unfold inR; omega)
      · obtain ⟨m, rfl⟩ : ∃ m, k = m + 1 := ⟨k - 1, by omega⟩
        obtain ⟨b1, o1, rfl, hb1, hc1⟩ := hx.2 (by omega)
        have hcm := hc1 m (by omega)
        have hm1 : (m : Int) < (ds.length : Int) := by omega
        have hnn := nth_nonneg ds m
        obtain ⟨he, hlt, hn10⟩ := HU.out m (by omega)
        obtain ⟨p, hp⟩ : ∃ p : Int, p = ((val 10 (ds.drop (m + 1)) : Nat) : Int) := ⟨_, rfl⟩
        have hp0 : 0 ≤ p := by rw [hp]; omega
        rw [← hp] at he ⊢
        have HE := Lib.hid he
        have hb2 : 10 * p + nth ds m < 10000000000000000000 := by rw [he]; exact hlt
        have hp1 : 10 * p < 10000000000000000000 := by omega
        clear hc1 he hp hlt
        go_wp2
        go_round
        case rel => exact ⟨m, by omega, by rw [HE.out], by go_num⟩
        case measure => simp [intOf]
end Go.Proofs.YteggjfmcpodepaaDoor

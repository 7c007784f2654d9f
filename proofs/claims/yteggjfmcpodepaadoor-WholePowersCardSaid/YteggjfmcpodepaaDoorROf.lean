/- The walk of the reference's Of: limbs to digits. -/
import Derived.Test.YteggjfmcpodepaaDoorRInt
namespace Go.Proofs.YteggjfmcpodepaaDoor
open Go.RowKit

theorem rcut_tens (base : Nat) (A : Option Addr) (c : Nat) (ds : List Nat) (i : Int) (w : World) (hown : Own8 w base A c ds) (hs : small 10 ds) (hv : val 10 ds = i.natAbs) (hl : ds.length ≤ 1048576) :
    Calls Tryd.prog 55 #[.slice A ds.length c] w fun e w' => e = .returned (.slice A (tens i).length c) ∧ Own8 w base A c (tens i) ∧ w = w' := by
  refine (rcut_any A c ds w hown.nums hs hown.room hl).mono fun e w' h => ?_
  obtain ⟨rfl, h2, h3, rfl⟩ := h
  rw [hv, ← tens_eq] at h2 h3 ⊢
  refine ⟨rfl, ?_, rfl⟩
  by_cases h0 : ds = []
  · subst h0
    have : tens i = [] := List.eq_nil_of_length_eq_zero (by simpa using h3)
    rw [this]; exact hown
  · rw [h2]; exact hown.cut h0 h3
theorem of_step {xs : List Nat} (h : small B18 xs) {k j : Nat} (hj : j < 18) {l : Int} (hl : l = ((xs.getD k 0 / 10 ^ j : Nat) : Int)) :
    pad (18 * k + j) (val B18 xs) ++ [(l % 10).toNat] = pad (18 * k + (j + 1)) (val B18 xs) ∧ l / 10 = ((xs.getD k 0 / 10 ^ (j + 1) : Nat) : Int) := by
  have h1 := limb_digit h k j hj
  have h2 := pad_snoc (18 * k + j) (val B18 xs)
  rw [← h1] at h2
  have h3 : xs.getD k 0 / 10 ^ (j + 1) = xs.getD k 0 / 10 ^ j / 10 := by rw [Nat.pow_succ, Nat.div_div_eq_div_mul]
  subst hl
  refine ⟨?_, by rw [h3]; omega⟩
  rw [show 18 * k + (j + 1) = 18 * k + j + 1 from by omega, h2]
  congr 2
theorem limb_zero (xs : List Nat) (k : Nat) : nth xs k = ((xs.getD k 0 / 10 ^ 0 : Nat) : Int) := by unfold nth; simp

set_option maxRecDepth 100000
set_option maxHeartbeats 1000000 in
theorem rof_any (n1 : Bool) (A : Option Addr) (c : Nat) (xs : List Nat) (w : World) (hx : Nums w A xs) (hg : goodB n1 xs = true) :
    Calls Tryd.prog 18 #[.agg #[.bool n1, .slice A xs.length c]] w (RetNum w (num n1 xs)) := by
  obtain ⟨hs, hn, hl, _⟩ := good_parts hg
  have HS := Lib.hid hs
  have HN := Lib.hid (neg_num hg)
  have HA := Lib.hid (num_natAbs n1 xs)
  clear hs hn hg
  generalize num n1 xs = i at *
  go_enter Tryd.func18, Tryd.ntmps18
  go_wp2_with fail
  go_loopw [3, 4, 5, 6] (fun dv iv _ _ wr => ∃ (k : Nat) (A' : Option Addr) (c' : Nat) (zs : List Nat), k ≤ xs.length ∧ iv = .int .i64 k ∧ dv = .slice A' zs.length c' ∧ zs.length ≤ 18 * k ∧ Own8 wr (w.heap.size + 2) A' c' zs ∧
      Hid (zs = pad (18 * k) (val B18 xs)) ∧ Below (w.heap.size + 2) ((w.alloc (.cells #[.bool n1, .slice A xs.length c] 24)).alloc (.cells #[.bool false, .slice none 0 0] 33)) wr) (fun _ iv _ _ _ => xs.length - (intOf iv).toNat)
  case atStart => exact ⟨0, none, 0, [], Nat.zero_le _, rfl, rfl, by simp, Own8.nil _ _, rfl, Below.refl _ _⟩
  case round =>
    obtain ⟨k, A', c', zs, hk, rfl, rfl, hzl, hown, HZ, hbel⟩ := hrel
    have R0 := (Blk.first w 24 #[.bool n1, .slice A xs.length c] (.cells #[.bool false, .slice none 0 0] 33)).below hbel (by omega)
    have R1 := (Blk.new1 w (.cells #[.bool n1, .slice A xs.length c] 24) 33 #[.bool false, .slice none 0 0]).below hbel (by omega)
    have hxr : Nums wr A xs := hx.below (w := w) (B := w.heap.size) ((((Below.refl _ _).alloc (Nat.le_refl _) _).alloc (by simp) _).trans (hbel.mono (by omega))) (Nat.le_refl _)
    obtain ⟨r0, r1, r2, r3⟩ := R0.two
    have hsz := hbel.size
    simp only [World.size_alloc] at hsz
    by_cases hkn : k < xs.length
    · obtain ⟨b, o, rfl, hb, hc⟩ := hxr.2 (by omega)
      have hcell := hc k hkn
      have hm1 : (k : Int) < (xs.length : Int) := by omega
      have hm0 : (0 : Int) ≤ (k : Int) := by omega
      have hnn := nth_nonneg xs k
      have hnl := nth_lt (by unfold B18; omega) HS.out k
      rw [B18_eq] at hnl
      have HL0 := Lib.hid (limb_zero xs k)
      clear hc
      go_wp2_with fail
      obtain ⟨wo, rfl⟩ : ∃ wo : World, wo = wr := ⟨_, rfl⟩
      go_loopw [3, 5, 6] (fun dv lv jv wi => ∃ (j : Nat) (l : Int) (A' : Option Addr) (c' : Nat) (zs : List Nat), j ≤ 18 ∧ jv = .int .i64 j ∧ lv = .int .u64 l ∧ 0 ≤ l ∧ l < 1000000000000000000 ∧ dv = .slice A' zs.length c' ∧ zs.length ≤ 18 * k + j ∧ Own8 wi (w.heap.size + 2) A' c' zs ∧
          Hid (l = ((xs.getD k 0 / 10 ^ j : Nat) : Int)) ∧ Hid (zs = pad (18 * k + j) (val B18 xs)) ∧ Below (w.heap.size + 2) ((w.alloc (.cells #[.bool n1, .slice (some ⟨b, o, none⟩) xs.length c] 24)).alloc (.cells #[.bool false, .slice none 0 0] 33)) wi) (fun _ _ jv _ => 18 - (intOf jv).toNat)
      case atStart => exact ⟨0, nth xs k, A', c', zs, by omega, rfl, rfl, hnn, by omega, rfl, by omega, hown, HL0, HZ, hbel⟩
      case round =>
        obtain ⟨j, l, A2, c2, ys, hj, rfl, rfl, hl0, hl1, rfl, hyl, hown2, HL, HY, hbel2⟩ := hrel
        have hsz2 := hbel2.size
        simp only [World.size_alloc] at hsz2
        by_cases hj18 : j < 18
        · have hstep := of_step HS.out hj18 HL.out
          have hw8 := wrap8 (l % 10) (by omega) (by omega)
          have e1 : l % 10 = (((l % 10).toNat : Nat) : Int) := by omega
          have HC := Lib.hid (cells_one8 wr _ _ e1)
          have H8 : Hid (∀ x ∈ [(l % 10).toNat], x < 256) := by intro x hx'; simp only [List.mem_cons, List.not_mem_nil, or_false] at hx'; omega
          have HN : Hid (ys.length + [(l % 10).toNat].length ≤ 17592186044416) := by show ys.length + 1 ≤ _; omega
          have HST := Lib.hid hstep
          have hj18' : (j : Int) < 18 := by omega
          clear e1 hstep
          go_wp2_with (at_builtin; go_loud (refine wpList_app8 rfl (.tmp 23) (.tmp 27) rfl (w.heap.size + 2) A2 c2 ys rfl (hown2.alloc _) [(l % 10).toNat] ⟨wr.heap.size, 0, none⟩ 1 1 rfl rfl (by exact HC.out) H8.out HN.out (by simp; omega) (fun A3 c3 w3 hown3 hg3 => ?_)))
          go_roundw
          case rel => exact ⟨j + 1, l / 10, A3, c3, ys ++ [(l % 10).toNat], by omega, by go_num, by go_num, by omega, by omega, by simp, by simp; omega, hown3, HST.out.2, by show _ = _; rw [HY.out]; exact HST.out.1, Below.own8 (hbel2.alloc (by simpa using hsz2) _) (hown2.alloc _) (by simp; omega) hg3⟩
          case measure => simp [intOf]; omega
        · obtain rfl : j = 18 := by omega
          have HY2 : Hid (ys = pad (18 * (k + 1)) (val B18 xs)) := HY
          clear HY
          go_wp2_with fail
          go_roundw
          case rel => exact ⟨k + 1, A2, c2, ys, by omega, by go_num, rfl, by omega, hown2, HY2, hbel2⟩
          case measure => simp [intOf]; omega
    · obtain rfl : k = xs.length := by omega
      have hvz : val 10 zs = i.natAbs := by
        rw [HZ.out, pad_val, Nat.mod_eq_of_lt (val_lt18 HS.out), HA.out]
      have hsz10 : small 10 zs := by rw [HZ.out]; exact pad_small _ _
      have HV := Lib.hid hvz; have H10 := Lib.hid hsz10
      clear hvz hsz10
      obtain ⟨q0, q1, q2, q3⟩ := R1.two
      go_wp2_with fail
      go_region_with (go_at_call 55; refine (rcut_tens (w.heap.size + 2) _ _ _ i _ (by first | exact hown | exact hown.drew) H10.out HV.out (by omega)).mono ?_; rintro e w' ⟨rfl, hown3, rfl⟩)
      all_goals
        go_wp2_with fail
        refine bodyPost_ret (v := .agg #[.bool n1, .slice A' (tens i).length c']) (by simp [results, Tryd.results18, go_sem, q0, q1]) rfl ?_
        exact ⟨A', c', by rw [HN.out], ((hown3.setBelow (by show w.heap.size + 1 < w.heap.size + 2; omega) _).setBelow (by show w.heap.size + 1 < w.heap.size + 2; omega) _).mono (by omega),
          ((((((Below.refl _ _).alloc (Nat.le_refl _) _).alloc (by simp) _).trans (hbel.mono (by omega))).drew).setCell (by show w.heap.size ≤ w.heap.size + 1; omega) _).setCell (by show w.heap.size ≤ w.heap.size + 1; omega) _⟩
end Go.Proofs.YteggjfmcpodepaaDoor

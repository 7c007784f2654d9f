/- The walk of whole.divide, the long way. The walk of whole.DivMod, where a number is out of form or the divisor is 0; whole.divide in one statement. The walk of the reference's To: digits to limbs. The walk of the reference's Same. Add in one statement; the walk of whole.Sub. The walk of whole.Cmp; Neg and Sign in one statement each. -/
import Derived.Test.YtljndllhmdpjlaaGreatDoorO12
namespace Go.Proofs.YtljndllhmdpjlaaGreatDoor
open Go.RowKit

/-- What is known of the divisor's halves when they are scaled. -/
theorem scaled_lt {vs : List Nat} {m : Nat} (hs : small B9 vs) (hl : vs.length = m + 2) {d : Nat} (hd : d * (vs.getD (m + 1) 0 + 1) ≤ B9) : val B9 vs * d < B9 ^ (m + 2) ∨ d = 0 := by
  rcases Nat.eq_zero_or_pos d with h0 | h0
  · exact .inr h0
  left
  have e1 := val_take_all (b := B9) vs (m + 2) (by omega)
  rw [val_take_succ] at e1
  have h1 := val_lt (small_take hs (m + 1))
  rw [List.length_take, Nat.min_eq_left (by omega)] at h1
  have h2 : val B9 vs < B9 ^ (m + 1) * (vs.getD (m + 1) 0 + 1) := by rw [Nat.mul_add, Nat.mul_one]; omega
  have h3 : val B9 vs * d < B9 ^ (m + 1) * (vs.getD (m + 1) 0 + 1) * d := Nat.mul_lt_mul_of_pos_right h2 h0
  have h4 : B9 ^ (m + 1) * (vs.getD (m + 1) 0 + 1) * d ≤ B9 ^ (m + 1) * B9 := by
    rw [Nat.mul_assoc, Nat.mul_comm (vs.getD (m + 1) 0 + 1)]; exact Nat.mul_le_mul_left _ hd
  rw [show m + 2 = m + 1 + 1 from rfl, Nat.pow_succ]
  omega
theorem long_start {us vs : List Nat} {m N d : Nat} (hu : small B9 us) (hul : us.length = N) (hv : noLead vs) (hvl : vs.length = m + 2) (hN : m + 2 ≤ N) (hd : 0 < d) : val B9 us * d < B9 ^ (N + 1 - (m + 2)) * (val B9 vs * d) := by
  have h1 := val_lt hu
  have h2 := le_val B9_two hv (by omega)
  rw [hul] at h1
  rw [hvl] at h2
  have h3 : B9 ^ (N + 1 - (m + 2)) * B9 ^ (m + 2 - 1) ≤ B9 ^ (N + 1 - (m + 2)) * val B9 vs := Nat.mul_le_mul_left _ h2
  rw [← Nat.pow_add, show N + 1 - (m + 2) + (m + 2 - 1) = N by omega] at h3
  rw [← Nat.mul_assoc]
  exact Nat.mul_lt_mul_of_pos_right (by omega) hd

theorem guess_start {tp v1 x2 x1 : Int} (h2 : 0 ≤ x2) (h1 : 0 ≤ x1) (ht : tp = x2 * 1000000000 + x1) (hv : 0 < v1) (hb2 : x2 < 1000000000 := by omega) (hb1 : x1 < 1000000000 := by omega) :
    0 ≤ tp / v1 ∧ tp / v1 ≤ 2000000000000000000 ∧ 0 ≤ tp % v1 ∧ tp % v1 < v1 ∧ tp / v1 * v1 + tp % v1 = tp ∧ x2.toNat * B9 + x1.toNat < ((tp / v1).toNat + 1) * v1.toNat := by
  have a0 : 0 ≤ tp := by omega
  have a1 : 0 ≤ tp / v1 := Int.ediv_nonneg a0 (by omega)
  have a2 : tp / v1 ≤ tp := Int.ediv_le_self _ a0
  have a3 := Int.emod_nonneg tp (show v1 ≠ 0 by omega)
  have a4 := Int.emod_lt_of_pos tp hv
  have a5 : tp / v1 * v1 + tp % v1 = tp := Int.ediv_mul_add_emod tp v1
  refine ⟨a1, by omega, a3, a4, a5, ?_⟩
  have e : ((((tp / v1).toNat + 1) * v1.toNat : Nat) : Int) = tp / v1 * v1 + v1 := by
    rw [Int.natCast_mul, Int.natCast_add, Int.toNat_of_nonneg a1, Int.toNat_of_nonneg (by omega), Int.add_mul, Int.natCast_one, Int.one_mul]
  unfold B9
  omega

theorem guess_small {g r tp v1 : Int} (h : g * v1 + r = tp) (hr : 1000000000 ≤ r) (ht : tp < (v1 + 1) * 1000000000) (hv : 0 < v1) : g < 1000000000 := by
  rcases (by omega : g < 1000000000 ∨ 1000000000 ≤ g) with h1 | h1
  · exact h1
  · exfalso
    have h2 : 1000000000 * v1 ≤ g * v1 := Int.mul_le_mul_of_nonneg_right h1 (by omega)
    omega
theorem guess_nat {g r tp v1 x2 x1 : Int} (h : g * v1 + r = tp) (ht : tp = x2 * 1000000000 + x1) (hg : 0 ≤ g) (hr : 0 ≤ r) (hv : 0 ≤ v1) (h2 : 0 ≤ x2) (h1 : 0 ≤ x1) : g.toNat * v1.toNat + r.toNat = x2.toNat * B9 + x1.toNat := by
  have e : ((g.toNat * v1.toNat : Nat) : Int) = g * v1 := by rw [Int.natCast_mul, Int.toNat_of_nonneg hg, Int.toNat_of_nonneg hv]
  unfold B9; omega
theorem guess_pos {g r v0 x0 : Int} (h : r * 1000000000 + x0 < g * v0) (hg : 0 ≤ g) (hr : 0 ≤ r) (hx : 0 ≤ x0) : 1 ≤ g := by
  rcases Int.lt_or_eq_of_le hg with h1 | h1
  · omega
  · rw [← h1, Int.zero_mul] at h; omega
theorem guess_cmp {g r v0 x0 : Int} (h : r * 1000000000 + x0 < g * v0) (hg : 0 ≤ g) (hr : 0 ≤ r) (hx : 0 ≤ x0) (hv : 0 ≤ v0) : r.toNat * B9 + x0.toNat < g.toNat * v0.toNat := by
  have e : ((g.toNat * v0.toNat : Nat) : Int) = g * v0 := by rw [Int.natCast_mul, Int.toNat_of_nonneg hg, Int.toNat_of_nonneg hv]
  unfold B9; omega
theorem guess_cmp_not {g r v0 x0 : Int} (h : ¬ r * 1000000000 + x0 < g * v0) (hg : 0 ≤ g) (hr : 0 ≤ r) (hx : 0 ≤ x0) (hv : 0 ≤ v0) : g.toNat * v0.toNat ≤ r.toNat * B9 + x0.toNat := by
  have e : ((g.toNat * v0.toNat : Nat) : Int) = g * v0 := by rw [Int.natCast_mul, Int.toNat_of_nonneg hg, Int.toNat_of_nonneg hv]
  unfold B9; omega

set_option maxRecDepth 100000 in
set_option maxHeartbeats 4000000 in
theorem divide_long (A B : Option Addr) (c d : Nat) (xs ys : List Nat) (w : World) (hx : Nums w A xs) (hy : Nums w B ys) (hs : small B18 xs) (ht : small B18 ys) (hl : xs.length ≤ 1000) (hl' : ys.length ≤ 1000)
    (m : Nat) (h1 : (digs B9 (val B18 ys)).length = m + 2) (h2 : (digs B9 (val B18 ys)).length ≤ (digs B9 (val B18 xs)).length) :
    Calls Tryz.prog 116 #[.slice A xs.length c, .slice B ys.length d] w (DivPost w (val B18 xs) (val B18 ys)) := by
  have hu := halves_len hs
  have hvl0 := halves_len ht
  go_enter Tryz.func116, Tryz.ntmps116
  go_wp2_with fail
  refine (halves_any B d ys _ hy ht (by omega)).mono ?_
  rintro e w1 ⟨A1, c1, vs, rfl, hv, hvd, hb1⟩
  have HVD := Lib.hid hvd; clear hvd
  go_wp2_with fail
  refine (halves_any A c xs _ (hx.below hb1 (Nat.le_refl _)) hs (by omega)).mono ?_
  rintro e w2 ⟨A2, c2, us, rfl, hus, hud, hb2⟩
  have L2 := hb1.trans (hb2.mono hb1.size)
  have hv2 := hv.below hb2 (Nat.le_refl _)
  have hvn : vs.length = m + 2 := by rw [HVD.out]; exact h1
  have hun : vs.length ≤ us.length := by rw [HVD.out, hud]; exact h2
  obtain ⟨gv, rfl, hg0, hg1, hcap, hc⟩ := hv2.at_ (by omega)
  have hctop := hc (m + 1) (by omega)
  have hsv : small B9 vs := by rw [HVD.out]; exact small_digs B9_two _
  have hnv : noLead vs := by rw [HVD.out]; exact noLead_digs B9_two _
  have hsu : small B9 us := by rw [hud]; exact small_digs B9_two _
  have hvx : val B9 us = val B18 xs := by rw [hud]; exact val_digs B9_two _
  have hvy : val B9 vs = val B18 ys := by rw [HVD.out]; exact val_digs B9_two _
  have hul : us.length ≤ 2000 := by rw [hud]; omega
  have hvl : m + 2 ≤ 2000 := by rw [← h1]; omega
  have htop1 : 1 ≤ nth vs (m + 1) := by
    rcases hnv with h | h
    · omega
    · rw [hvn] at h; have : vs.getD (m + 1) 0 ≠ 0 := h; unfold nth; omega
  have htop2 : nth vs (m + 1) < 1000000000 := nth_lt (by unfold B9; omega) hsv _
  have hd0 : 1 ≤ 1000000000 / (nth vs (m + 1) + 1) := Int.le_ediv_of_mul_le (by omega) (by omega)
  have hd1 : 1000000000 / (nth vs (m + 1) + 1) ≤ 1000000000 := Int.ediv_le_self _ (by omega)
  have hd2 : (nth vs (m + 1) + 1 == 0) = false := beq_eq_false_iff_ne.2 (by omega)
  have hdm : 1000000000 / (nth vs (m + 1) + 1) * (nth vs (m + 1) + 1) ≤ 1000000000 := Int.ediv_mul_le _ (by omega)
  have hd9 : 1000000000 / (nth vs (m + 1) + 1) ≤ 500000000 := by
    have h : 1000000000 / (nth vs (m + 1) + 1) < 500000001 := Int.ediv_lt_of_lt_mul (by omega) (by omega)
    omega
  have hv1 : ((vs.length : Int) == 1) = false := beq_eq_false_iff_ne.2 (by omega)
  have hlt : ¬ (us.length : Int) < (vs.length : Int) := by omega
  have HX := Lib.hid hvx; have HY := Lib.hid hvy; have HN := Lib.hid hvn; have HDM := Lib.hid hdm; have HNV := Lib.hid hnv
  have hm1 : (m : Int) + 2 ≤ (us.length : Int) := by omega
  clear hvx hvy hud h1 h2 hc hu hvl0 hun hdm hnv
  rw [hvn] at hv1 hlt ⊢
  clear hvn
  obtain ⟨dd, hdd⟩ : ∃ dd, dd = 1000000000 / (nth vs (m + 1) + 1) := ⟨_, rfl⟩
  rw [← hdd] at hd0 hd1 hd9
  have hdd' : 1000000000 / (nth vs (m + 1) + 1) = dd := hdd.symm
  have HDD := Lib.hid hdd
  clear hdd
  go_wp2_with fail
  refine (scaled_any A2 c2 us dd _ (by exact hus.nums) hsu (by omega) (by omega) hd1).mono ?_
  rintro e w3 ⟨g3, us0, rfl, hr3, hl3, hs3, hval3, hg3, hb3⟩
  have hu0 : us0.length = us.length + 1 := hl3
  have HU0 := Lib.hid hu0; have HV3 := Lib.hid hval3
  rw [hl3]
  clear hl3 hu0 hval3
  have hv3 := hv2.below hb3 (Nat.le_refl _)
  go_wp2_with fail
  have hsc := scaled_any (some ⟨gv, 0, none⟩) c1 vs dd w3 hv3.nums hsv (by rw [HN.out]; omega) (by omega) hd1
  rw [HN.out] at hsc
  refine hsc.mono ?_
  rintro e w4 ⟨g4, vs0, rfl, hr4, hl4, hs4, hval4, hg4, hb4⟩
  have HV0 : Hid (vs0.length = m + 3) := hl4
  have HV4 := Lib.hid hval4
  rw [hl4]
  clear hl4 hval4 hsc
  have hr3' := hr3.below hb4 hr3.lt
  have L3 := L2.trans (hb3.mono L2.size)
  have L4 := L3.trans (hb4.mono L3.size)
  obtain ⟨L, hLe⟩ : ∃ L, L = us.length + 1 - (m + 2) := ⟨_, rfl⟩
  have hmk := make64 L (by omega)
  have hL : (us.length : Int) + 1 - ((m : Int) + 2) = (L : Int) := by omega
  have hLN : us.length + 1 = L + m + 2 := by omega
  have hL1 : 1 ≤ L := by omega
  have HLN := Lib.hid hLN
  have hlow : val B9 vs0 < B9 ^ (m + 2) := by
    rw [HV4.out]
    rcases scaled_lt hsv HN.out (d := dd.toNat) (by
      have h := HDM.out
      rw [hdd'] at h
      have e1 : nth vs (m + 1) = ((vs.getD (m + 1) 0 : Nat) : Int) := by unfold nth; rfl
      rw [e1] at h
      obtain ⟨q, rfl⟩ := Int.eq_ofNat_of_zero_le (show 0 ≤ dd by omega)
      have h2 : ((q * (vs.getD (m + 1) 0 + 1) : Nat) : Int) ≤ 1000000000 := by rw [Int.natCast_mul, Int.natCast_add]; exact h
      simp only [Int.toNat_natCast]; unfold B9; omega) with h | h
    · exact h
    · omega
  have hz4 := getD_zero_of_val B9_two hlow
  obtain ⟨vz, hvz⟩ : ∃ vz, vz = vs0.take (m + 2) := ⟨_, rfl⟩
  have hvzl : vz.length = m + 2 := by rw [hvz, List.length_take, HV0.out]; omega
  have hvzs : small B9 vz := by rw [hvz]; exact small_take hs4 _
  have hvzv : val B9 vz = val B9 vs * dd.toNat := by rw [hvz, val_take_of_zero vs0 (m + 2) (fun j hj _ => hz4 j hj)]; exact HV4.out
  have hvzn : ∀ j, j < m + 2 → nth vs0 j = nth vz j := fun j hj => by rw [hvz, nth_take _ _ _ hj]
  have hstart : val B9 us0 < B9 ^ L * val B9 vz := by
    have h := long_start (N := us.length) (d := dd.toNat) hsu rfl HNV.out HN.out (by omega) (by omega)
    rw [HV3.out, hvzv, hLe]; exact h
  have hvtop : 0 < nth vz (m + 1) := by
    have h1 := nth_nonneg vz (m + 1)
    rcases Int.lt_or_eq_of_le h1 with h | h
    · exact h
    · exfalso
      have hzf : zeroFrom vz (m + 1) := fun j hj => by
        by_cases e : j = m + 1
        · rw [e]; unfold nth at h; omega
        · exact getD_past _ _ (by omega)
      have h2 := val_lt_of_zero B9_two hvzs hzf
      have h3 := le_val B9_two HNV.out (by rw [HN.out]; omega)
      rw [HN.out, show m + 2 - 1 = m + 1 from rfl] at h3
      have h4 : val B9 vs * 1 ≤ val B9 vs * dd.toNat := Nat.mul_le_mul_left _ (by omega)
      rw [hvzv] at h2
      omega
  have HVT := Lib.hid hvtop
  clear hvtop
  have hr5 := (Row.made w4 L).fill
  simp only [List.nil_append, List.length_nil, Nat.sub_zero] at hr5
  have L5 : Below w.heap.size w (w4.alloc (.cells (madeCells #[.int .u64 0] L) 22)) := L4.alloc L4.size _
  have hr3a : Row (w4.alloc (.cells (madeCells #[.int .u64 0] L) 22)) g3 (us.length + 1) us0 := hr3'.alloc _
  have hr4a : Row (w4.alloc (.cells (madeCells #[.int .u64 0] L) 22)) g4 (m + 2 + 1) vs0 := hr4.alloc _
  have hgz : w2.heap.size ≤ g3 ∧ g3 < g4 ∧ g4 < w4.heap.size := ⟨hg3, by have := hr3.lt; omega, hr4.lt⟩
  have hg30 : w.heap.size ≤ g3 := by have := L2.size; omega
  have HVN := Lib.hid hvzn; have HVZL := Lib.hid hvzl; have HVZV := Lib.hid hvzv; have HST := Lib.hid hstart
  clear hLN hLe hvz hvzl hvzv hvzn hstart hlow hz4 HV4 HV0 hs4 hr3 hr3' hr4 hb4 hb3 hg3 hg4 L3 hv3 hv2 hv hus hb1 hb2 L2 hg0 hcap
  go_wp2_with fail
  clear hctop htop1 htop2 hd2 hdd' hL hmk
  go_loopw [13] (fun v wr => ∃ (k : Nat) (uz qs : List Nat), k ≤ L ∧ v = .int .i64 ((k : Int) - 1) ∧ uz.length = us.length + 1 ∧ qs.length = L ∧ small B9 uz ∧ small B9 qs ∧ Row wr g3 (us.length + 1) uz ∧ Row wr w4.heap.size L qs ∧
      Row wr g4 (m + 2 + 1) vs0 ∧ Below w.heap.size w wr ∧ val B9 us0 = B9 ^ k * (val B9 (qs.drop k) * val B9 vz) + val B9 uz ∧ val B9 uz < B9 ^ k * val B9 vz) (fun v _ => (intOf v + 1).toNat)
  case atStart => exact ⟨L, us0, List.replicate L 0, Nat.le_refl _, rfl, HU0.out, by simp, hs3, fun x hx => by rw [List.mem_replicate] at hx; rw [hx.2]; unfold B9; omega, hr3a, hr5, hr4a, L5, by simp [val], HST.out⟩
  case round =>
    obtain ⟨k, uz, qs, hk, rfl, huzl, hqsl, huzs, hqss, hru, hrq, hrv, hbel, hval, hlt'⟩ := hrel
    have HUL := Lib.hid huzl; have HQL := Lib.hid hqsl; have HVAL := Lib.hid hval; have HLT := Lib.hid hlt'
    clear huzl hqsl hval hlt' hr3a hr4a hr5 L5
    by_cases hk0 : k = 0
    · subst hk0
      have hve := HVAL.out
      have hle := HLT.out
      simp only [Nat.pow_zero, Nat.one_mul, List.drop_zero] at hve hle
      have hub : val B9 uz < B9 ^ (m + 2) := by
        have h2 := val_lt hvzs
        rw [HVZL.out] at h2; omega
      have hut : (uz.take (m + 2)).length = m + 2 := by rw [List.length_take, HUL.out]; have := HLN.out; omega
      have huv : val B9 (uz.take (m + 2)) = val B9 uz := val_take_of_zero uz (m + 2) (fun j hj _ => getD_zero_of_val B9_two hub j hj)
      have hnu : Nums wr (some ⟨g3, 0, none⟩) (uz.take (m + 2)) := ⟨nth_bound (fun x hx => by have := small_take huzs (m + 2) x hx; unfold B9 at this; omega), fun _ => ⟨g3, 0, rfl, hru.lt, fun j hj => by
        rw [Nat.zero_add, nth_take _ _ _ (by rw [← hut]; exact hj)]; exact hru.cell (by rw [hut] at hj; have := HLN.out; omega)⟩⟩
      have hnq : Nums wr (some ⟨w4.heap.size, 0, none⟩) qs := ⟨nth_bound (fun x hx => by have := hqss x hx; unfold B9 at this; omega), fun _ => ⟨w4.heap.size, 0, rfl, hrq.lt, fun j hj => by
        rw [Nat.zero_add]; exact hrq.cell (by rw [← HQL.out]; exact hj)⟩⟩
      have HVE := Lib.hid hve; have HLE := Lib.hid hle; have HUV := Lib.hid huv; have HUT := Lib.hid hut
      have hm3 : (0 : Int) ≤ (m : Int) + 2 := by omega
      have hm4 : (m : Int) + 2 ≤ (us.length : Int) + 1 := by omega
      clear hve hle huv hut HVAL HLT HDD
      go_wp2_with fail
      have hsh := short_any (some ⟨g3, 0, none⟩) (us.length + 1) (uz.take (m + 2)) dd wr hnu (small_take huzs _) (by rw [HUT.out]; omega) (by omega) (by omega)
      rw [HUT.out] at hsh
      refine hsh.mono ?_
      rintro e w6 ⟨g6, zs, r, rfl, hr6, hz6, hzs6, hr60, hr61, hv6, hg6, hb6⟩
      have HZ6 := Lib.hid hz6; have HV6 := Lib.hid hv6
      clear hz6 hv6 hsh
      go_wp2_with fail
      have hdb := doubles_any (some ⟨w4.heap.size, 0, none⟩) L qs w6 (hnq.below hb6 (Nat.le_refl _)) hqss (by rw [HQL.out]; have := HLN.out; omega)
      rw [HQL.out] at hdb
      refine hdb.mono ?_
      rintro e w7 ⟨A7, c7, q7, rfl, hq7, hqs7, hqv7, hql7, hb7⟩
      have HQ7 := Lib.hid hqv7
      clear hqv7 hdb
      go_wp2_with fail
      refine (doubles_any _ _ zs _ (by exact (hr6.nums rfl (fun x hx => by have := hzs6 x hx; unfold B9 at this; omega)).below hb7 (Nat.le_refl _)) hzs6 (by have := HZ6.out; omega)).mono ?_
      rintro e w8 ⟨A8, c8, q8, rfl, hq8, hqs8, hqv8, hql8, hb8⟩
      have HQ8 := Lib.hid hqv8
      clear hqv8
      go_wp2
      go_ret2
      obtain ⟨d1, d2⟩ := long_end (X := val B18 xs) (Y := val B18 ys) (Q := val B9 qs) (Z := val B9 zs) (d := dd.toNat) (r := r.toNat) (by
        rw [← HX.out, ← HV3.out, HVE.out, HVZV.out, HY.out, ← HUV.out, HV6.out]) (by omega) (by rw [← HY.out, ← HVZV.out, ← HV6.out, HUV.out]; exact HLE.out)
      obtain ⟨e1, e2⟩ := div_of d1 d2
      have L6 := hbel.trans (hb6.mono hbel.size)
      have L7 := L6.trans (hb7.mono L6.size)
      exact ⟨A7, c7, q7, A8, c8, q8, rfl, hq7.nums.below hb8 (Nat.le_refl _), hq8.nums, hqs7, hqs8, by have := HLN.out; omega, by have := HZ6.out; omega, by rw [HQ7.out]; exact e1, by rw [HQ8.out]; exact e2, L7.trans (hb8.mono L7.size)⟩
    · obtain ⟨t, rfl⟩ : ∃ t, k = t + 1 := ⟨k - 1, by omega⟩
      obtain ⟨wo, rfl⟩ : ∃ wo : World, wo = wr := ⟨_, rfl⟩
      have ht1 : ((t + 1 : Nat) : Int) - 1 = (t : Int) := by omega
      rw [ht1]
      clear ht1 hk0
      have hc2 := hru.cell (j := t + (m + 2)) (by have := HLN.out; omega)
      have hc1 := hru.cell (j := t + (m + 1)) (by have := HLN.out; omega)
      have hc0 := hru.cell (j := t + m) (by have := HLN.out; omega)
      have hd1' := hrv.cell (j := m + 1) (by omega)
      have hd0' := hrv.cell (j := m) (by omega)
      rw [HVN.out _ (by omega)] at hd1' hd0'
      have HUB0 : val B9 uz < B9 ^ (t + (m + 2) + 1) := by
        have h1 := HLT.out
        have h2 := val_lt hvzs
        rw [HVZL.out] at h2
        have h3 : B9 ^ (t + 1) * val B9 vz < B9 ^ (t + 1) * B9 ^ (m + 2) := Nat.mul_lt_mul_of_pos_left h2 (pow_pos' B9_two _)
        rw [← Nat.pow_add, show t + 1 + (m + 2) = t + (m + 2) + 1 by omega] at h3
        omega
      have hzu : zeroFrom uz (t + m + 3) := getD_zero_of_val B9_two (by rw [show t + m + 3 = t + (m + 2) + 1 by omega]; exact HUB0)
      obtain ⟨hwu1, hwu2⟩ := window_u (us := uz) (t := t) (m := m) huzs hzu (by have := HUL.out; have := HLN.out; omega)
      obtain ⟨hwv1, hwv2⟩ := window_v (vs := vz) (t := t) (m := m) hvzs HVZL.out
      have hb2 : nth uz (t + (m + 2)) < 1000000000 := nth_lt (by unfold B9; omega) huzs _
      have hb1 : nth uz (t + (m + 1)) < 1000000000 := nth_lt (by unfold B9; omega) huzs _
      have hb0 : nth uz (t + m) < 1000000000 := nth_lt (by unfold B9; omega) huzs _
      have hb2' := nth_nonneg uz (t + (m + 2))
      have hb1' := nth_nonneg uz (t + (m + 1))
      have hb0' := nth_nonneg uz (t + m)
      have hv1b : nth vz (m + 1) < 1000000000 := nth_lt (by unfold B9; omega) hvzs _
      have hv0b : nth vz m < 1000000000 := nth_lt (by unfold B9; omega) hvzs _
      have hv0b' := nth_nonneg vz m
      have hv1pos : 0 < nth vz (m + 1) := HVT.out
      have hR : val B9 uz < B9 * (B9 ^ t * val B9 vz) := by have := HLT.out; rw [Nat.pow_succ, Nat.mul_assoc, Nat.mul_left_comm] at this; exact this
      obtain ⟨R, hRe⟩ : ∃ R, R = val B9 uz := ⟨_, rfl⟩
      obtain ⟨D, hDe⟩ : ∃ D, D = B9 ^ t * val B9 vz := ⟨_, rfl⟩
      obtain ⟨Pw, hPe⟩ : ∃ Pw, Pw = B9 ^ (t + m) := ⟨_, rfl⟩
      rw [← hRe, ← hPe] at hwu1 hwu2
      rw [← hDe, ← hPe] at hwv1 hwv2
      rw [← hRe, ← hDe] at hR
      obtain ⟨x2, hx2⟩ : ∃ x, x = nth uz (t + (m + 2)) := ⟨_, rfl⟩
      obtain ⟨x1, hx1⟩ : ∃ x, x = nth uz (t + (m + 1)) := ⟨_, rfl⟩
      obtain ⟨x0, hx0⟩ : ∃ x, x = nth uz (t + m) := ⟨_, rfl⟩
      obtain ⟨v1, hv1e⟩ : ∃ x, x = nth vz (m + 1) := ⟨_, rfl⟩
      obtain ⟨v0, hv0e⟩ : ∃ x, x = nth vz m := ⟨_, rfl⟩
      have ex2 : uz.getD (t + m + 2) 0 = x2.toNat := by rw [hx2, nth_toNat]; rfl
      have ex1 : uz.getD (t + m + 1) 0 = x1.toNat := by rw [hx1, nth_toNat]; rfl
      have ex0 : uz.getD (t + m) 0 = x0.toNat := by rw [hx0, nth_toNat]
      have ev1 : vz.getD (m + 1) 0 = v1.toNat := by rw [hv1e, nth_toNat]
      have ev0 : vz.getD m 0 = v0.toNat := by rw [hv0e, nth_toNat]
      rw [ex2, ex1, ex0] at hwu1 hwu2
      rw [ev1, ev0] at hwv1 hwv2
      rw [← hx2] at hc2 hb2 hb2'
      rw [← hx1] at hc1 hb1 hb1'
      rw [← hx0] at hc0 hb0 hb0'
      rw [← hv1e] at hd1' hv1b hv1pos
      rw [← hv0e] at hd0' hv0b hv0b'
      have HRe := Lib.hid hRe; have HDe := Lib.hid hDe
      have hwu1 := Lib.hid hwu1; have hwu2 := Lib.hid hwu2; have hwv1 := Lib.hid hwv1; have hwv2 := Lib.hid hwv2; have hR := Lib.hid hR
      clear hRe hDe hPe hx2 hx1 hx0 hv1e hv0e ex2 ex1 ex0 ev1 ev0
      have hi1 : (t : Int) + ((m : Int) + 2) < (us.length : Int) + 1 := by have := HLN.out; omega
      have hi0 : (0 : Int) ≤ (t : Int) + ((m : Int) + 2) := by omega
      have hw1 : IntKind.i64.wrap ((t : Int) + ((m : Int) + 2)) = (t : Int) + ((m : Int) + 2) := IntWalk.i64_in _ (by omega)
      have hw2 : IntKind.i64.wrap ((t : Int) + ((m : Int) + 2) - 1) = (t : Int) + ((m : Int) + 2) - 1 := IntWalk.i64_in _ (by omega)
      have hw3 : IntKind.i64.wrap ((m : Int) + 2 - 1) = (m : Int) + 2 - 1 := IntWalk.i64_in _ (by omega)
      obtain ⟨tp, htp⟩ : ∃ tp, tp = x2 * 1000000000 + x1 := ⟨_, rfl⟩
      have hq1 : IntKind.u64.wrap (x2 * 1000000000) = x2 * 1000000000 := by simp [IntKind.wrap, IntKind.signed, IntKind.bits]; omega
      have hq2 : IntKind.u64.wrap (x2 * 1000000000 + x1) = tp := by rw [htp]; simp [IntKind.wrap, IntKind.signed, IntKind.bits]; omega
      have htp0 : 0 ≤ tp := by omega
      have htp1 : tp < 1000000000000000000 := by omega
      have hvne : (v1 == 0) = false := beq_eq_false_iff_ne.2 (by omega)
      have HTP := Lib.hid htp
      clear htp
      go_wp2
      go_quiet (fail)
      go_wp2_with fail
      go_quiet (fail)
      go_wp2_with fail
      have htt : tp < (v1 + 1) * 1000000000 := by
        have h := guess_top hwv2.out (by unfold B9; omega) hwu1.out hR.out
        have e := HTP.out
        unfold B9 at h; omega
      have HTT := Lib.hid htt
      clear htt
      have HUB : Hid (val B9 uz < B9 ^ (t + (m + 2) + 1)) := HUB0
      have hnz : ∀ k, Nums (wo.drewN k) (some ⟨g4, 0, none⟩) vz := fun k => ⟨nth_bound (fun x hx => by have := hvzs x hx; unfold B9 at this; omega), fun _ => ⟨g4, 0, rfl, (hrv.drewN k).lt, fun j hj => by rw [Nat.zero_add, ← HVN.out j (by rw [← HVZL.out]; exact hj)]; exact (hrv.drewN k).cell (by rw [HVZL.out] at hj; omega)⟩⟩
      have hgf := guess_start (tp := tp) (v1 := v1) (x2 := x2) (x1 := x1) hb2' hb1' HTP.out hv1pos
      obtain ⟨f0, f1, f2, f3, f4, f5⟩ := hgf
      have hG0 : R < ((tp / v1).toNat + 1) * D := guess_first hwv1.out hwu2.out (by unfold B9; omega) f5
      have HG0 := Lib.hid hG0; have HF4 := Lib.hid f4
      clear hG0 f4 f5 hq1 hq2 hw1 hw2 hc2 hc1
      have hw4 : IntKind.i64.wrap ((t : Int) + ((m : Int) + 2) - 2) = (t : Int) + (m : Int) := by rw [IntWalk.i64_in _ (by omega)]; omega
      have hw5 : IntKind.i64.wrap ((m : Int) + 2 - 2) = (m : Int) := by rw [IntWalk.i64_in _ (by omega)]; omega
      have hw1 : IntKind.i64.wrap ((t : Int) + ((m : Int) + 2)) = (t : Int) + ((m : Int) + 2) := IntWalk.i64_in _ (by omega)
      go_loopw [15, 16] (fun gv rv wx => ∃ g r : Int, gv = .int .u64 g ∧ rv = .int .u64 r ∧ 0 ≤ g ∧ g ≤ 2000000000000000000 ∧ 0 ≤ r ∧ r < 1000000000 ∧ g * v1 + r = tp ∧ R < (g.toNat + 1) * D ∧ ∃ nn, wx = wo.drewN nn) (fun gv _ _ => (intOf gv).toNat)
      case atStart => exact ⟨_, _, rfl, rfl, f0, f1, f2, by omega, HF4.out, HG0.out, _, by simp only [World.drewN_drewN]; rfl⟩
      case round =>
        obtain ⟨g, r, rfl, rfl, hg0, hg1, hr0, hr1, hgr, hG, nn, rfl⟩ := hrel
        have HGR := Lib.hid hgr; have HG := Lib.hid hG
        clear hgr hG f0 f1 f2 f3
        have hr1d : decide (r < 1000000000) = true := by simpa using hr1
        by_cases hg9 : 1000000000 ≤ g
        · have hg9d : decide (1000000000 ≤ g) = true := by simpa using hg9
          have hgp : 1 ≤ g := by omega
          have HGD : Hid (R < g.toNat * D) := guess_base hR.out (by unfold B9; omega)
          have hgr2 : (g - 1) * v1 + (r + v1) = tp := by rw [Int.sub_mul, Int.one_mul]; have := HGR.out; omega
          have HGR2 := Lib.hid hgr2
          clear hgr2
          have hsub : (g - 1).toNat + 1 = g.toNat := by omega
          have HSUB := Lib.hid hsub
          clear hsub
          by_cases hbr : 1000000000 ≤ r + v1
          · have hlt9 : g - 1 < 1000000000 := guess_small (tp := tp) (v1 := v1) (r := r + v1) HGR2.out hbr HTT.out hv1pos
            go_wp2_with fail
            go_quiet (fail)
            have hgt : g - 1 < 1000000000 := hlt9
            have HGG : Hid (R < ((g - 1).toNat + 1) * D) := by show _ < _; rw [HSUB.out]; exact HGD.out
            have HGH : Hid ((g - 1).toNat * D ≤ R + D) := by show _ ≤ _; have := guess_rest hwv2.out (by unfold B9; omega) hwu1.out (rest := (r + v1).toNat) (guess_nat HGR2.out HTP.out (by omega) (by omega) (by omega) hb2' hb1') (by omega); omega
            go_wp2_with fail
            have htk := take_any (some ⟨g4, 0, none⟩) g3 (us.length + 1) t (us.length + 1) (m + 2 + 1) uz vz (g - 1) (wo.drewN (nn + nq)) (hru.drewN _) HUL.out (hnz _) (fun a ha => by injection ha with ha; rw [← ha]; have := hgz; show g4 ≠ g3; omega) huzs hvzs (by omega) (by rw [HVZL.out]; have := HLN.out; omega) (by omega) hgt
              (by rw [HVZL.out]; exact HUB.out) (by have := HGH.out; rw [HRe.out, HDe.out, Nat.mul_left_comm] at this; exact this)
            rw [HVZL.out] at htk
            refine htk.mono ?_
            rintro e w5 ⟨yz, b, rfl, hry, hyl, hys, hgy, hyv, hyb⟩
            have HYL := Lib.hid hyl; have HYV := Lib.hid hyv; have HYB := Lib.hid hyb
            clear hyl hyv hyb htk
            have hrq5 : Row w5 w4.heap.size L qs := (hrq.drewN _).of_block (hgy.block _ (by simpa using hrq.lt) (by simp; have := hgz; omega))
            have hrv5 : Row w5 g4 (m + 2 + 1) vs0 := (hrv.drewN _).of_block (hgy.block _ (by simpa using hrv.lt) (by simp; have := hgz; omega))
            have L5 : Below w.heap.size w w5 := (below_drewN hbel _).grown hgy (below_drewN hbel _).size (fun k hk => by injection hk with hk; omega)
            have hqc := hrq5.cell (j := t) (by omega)
            have hqf := hrq5.frozen t
            have hql := hrq5.lt
            have htl : t < L := by omega
            cases b
            · obtain ⟨n1, n2, n3⟩ := long_no (Ry := val B9 yz) (Rz := val B9 uz) (t := t) (Q := (g - 1).toNat) (V := val B9 vz) (by have := HYV.out; rw [if_neg (by simp)] at this; exact this) (HYB.out rfl)
              have hg1' : 1 ≤ g - 1 := by omega
              have e1 : (g - 1 - 1).toNat = (g - 1).toNat - 1 := by omega
              have HN2 : Hid (val B9 yz + B9 ^ t * ((g - 1 - 1).toNat * val B9 vz) = val B9 uz) := by show _ = _; rw [e1]; exact n2
              have HN3 := Lib.hid n3
              clear n1 n2 n3 e1
              go_wp2
              go_roundw
              case rel => exact ⟨t, yz, qs.set t (g - 1 - 1).toNat, by omega, by go_num, HYL.out, by rw [List.length_set]; exact HQL.out, hys, small_set hqss _ _ (by unfold B9; omega), hry.setOther (by simp; have := hgz; omega) _, hrq5.setInt _ (by omega) (by rw [HQL.out]; omega),
                hrv5.setOther (by simp; have := hgz; omega) _, L5.setCell (by simp; have := L4.size; omega) _, long_step (by rw [HQL.out]; omega) HVAL.out HN2.out, HN3.out⟩
              case measure => first | (simp [intOf]; done) | (simp [intOf]; omega)
            · have hyt := HYV.out
              rw [if_pos rfl, Nat.add_zero] at hyt
              have HYT := Lib.hid hyt
              have HN3 := Lib.hid (long_yes hyt (by have := HGG.out; rw [HRe.out, HDe.out] at this; exact this))
              clear hyt
              go_wp2
              go_roundw
              case rel => exact ⟨t, yz, qs.set t (g - 1).toNat, by omega, by go_num, HYL.out, by rw [List.length_set]; exact HQL.out, hys, small_set hqss _ _ (by unfold B9; omega), hry.setOther (by simp; have := hgz; omega) _, hrq5.setInt _ (by omega) (by rw [HQL.out]; omega),
                hrv5.setOther (by simp; have := hgz; omega) _, L5.setCell (by simp; have := L4.size; omega) _, long_step (by rw [HQL.out]; omega) HVAL.out HYT.out, HN3.out⟩
              case measure => first | (simp [intOf]; done) | (simp [intOf]; omega)
          · go_wp2_with fail
            go_quiet (fail)
            go_wp2_with fail
            go_roundw
            case rel => first | exact ⟨g - 1, r + v1, rfl, rfl, by omega, by omega, by omega, by omega, HGR2.out, by rw [HSUB.out]; exact HGD.out, _, rfl⟩ | ((repeat apply Exists.intro); exact ⟨⟨g - 1, r + v1, rfl, rfl, by omega, by omega, by omega, by omega, HGR2.out, by rw [HSUB.out]; exact HGD.out, _, rfl⟩, rfl⟩)
            case measure => first | (simp [intOf]; done) | (simp [intOf]; omega)
        · have hg9d : decide (1000000000 ≤ g) = false := by simp; omega
          have hp0 : 0 ≤ g * v0 := Int.mul_nonneg hg0 hv0b'
          have hp1 : g * v0 ≤ 999999999 * 999999999 := Int.mul_le_mul (by omega) (by omega) hv0b' (by omega)
          have hwp : IntKind.u64.wrap (g * v0) = g * v0 := by simp [IntKind.wrap, IntKind.signed, IntKind.bits]; omega
          have hwr : IntKind.u64.wrap (r * 1000000000) = r * 1000000000 := by simp [IntKind.wrap, IntKind.signed, IntKind.bits]; omega
          have hws : IntKind.u64.wrap (r * 1000000000 + x0) = r * 1000000000 + x0 := by simp [IntKind.wrap, IntKind.signed, IntKind.bits]; omega
          by_cases hcmp : r * 1000000000 + x0 < g * v0
          · have hcd : decide (r * 1000000000 + x0 < g * v0) = true := by simpa using hcmp
            have hgp : 1 ≤ g := guess_pos hcmp hg0 hr0 hb0'
            have HGD : Hid (R < g.toNat * D) := guess_second hwv1.out hwu2.out (guess_nat HGR.out HTP.out hg0 hr0 (by omega) hb2' hb1') (guess_cmp hcmp hg0 hr0 hb0' hv0b')
            have hgr2 : (g - 1) * v1 + (r + v1) = tp := by rw [Int.sub_mul, Int.one_mul]; have := HGR.out; omega
            have HGR2 := Lib.hid hgr2
            clear hgr2
            have hsub : (g - 1).toNat + 1 = g.toNat := by omega
            have HSUB := Lib.hid hsub
            clear hsub
            by_cases hbr : 1000000000 ≤ r + v1
            · have hlt9 : g - 1 < 1000000000 := guess_small (tp := tp) (v1 := v1) (r := r + v1) HGR2.out hbr HTT.out hv1pos
              go_wp2_with fail
              go_quiet (fail)
              have hgt : g - 1 < 1000000000 := hlt9
              have HGG : Hid (R < ((g - 1).toNat + 1) * D) := by show _ < _; rw [HSUB.out]; exact HGD.out
              have HGH : Hid ((g - 1).toNat * D ≤ R + D) := by show _ ≤ _; have := guess_rest hwv2.out (by unfold B9; omega) hwu1.out (rest := (r + v1).toNat) (guess_nat HGR2.out HTP.out (by omega) (by omega) (by omega) hb2' hb1') (by omega); omega
              go_wp2_with fail
              have htk := take_any (some ⟨g4, 0, none⟩) g3 (us.length + 1) t (us.length + 1) (m + 2 + 1) uz vz (g - 1) (wo.drewN (nn + nq)) (hru.drewN _) HUL.out (hnz _) (fun a ha => by injection ha with ha; rw [← ha]; have := hgz; show g4 ≠ g3; omega) huzs hvzs (by omega) (by rw [HVZL.out]; have := HLN.out; omega) (by omega) hgt
                (by rw [HVZL.out]; exact HUB.out) (by have := HGH.out; rw [HRe.out, HDe.out, Nat.mul_left_comm] at this; exact this)
              rw [HVZL.out] at htk
              refine htk.mono ?_
              rintro e w5 ⟨yz, b, rfl, hry, hyl, hys, hgy, hyv, hyb⟩
              have HYL := Lib.hid hyl; have HYV := Lib.hid hyv; have HYB := Lib.hid hyb
              clear hyl hyv hyb htk
              have hrq5 : Row w5 w4.heap.size L qs := (hrq.drewN _).of_block (hgy.block _ (by simpa using hrq.lt) (by simp; have := hgz; omega))
              have hrv5 : Row w5 g4 (m + 2 + 1) vs0 := (hrv.drewN _).of_block (hgy.block _ (by simpa using hrv.lt) (by simp; have := hgz; omega))
              have L5 : Below w.heap.size w w5 := (below_drewN hbel _).grown hgy (below_drewN hbel _).size (fun k hk => by injection hk with hk; omega)
              have hqc := hrq5.cell (j := t) (by omega)
              have hqf := hrq5.frozen t
              have hql := hrq5.lt
              have htl : t < L := by omega
              cases b
              · obtain ⟨n1, n2, n3⟩ := long_no (Ry := val B9 yz) (Rz := val B9 uz) (t := t) (Q := (g - 1).toNat) (V := val B9 vz) (by have := HYV.out; rw [if_neg (by simp)] at this; exact this) (HYB.out rfl)
                have hg1' : 1 ≤ g - 1 := by omega
                have e1 : (g - 1 - 1).toNat = (g - 1).toNat - 1 := by omega
                have HN2 : Hid (val B9 yz + B9 ^ t * ((g - 1 - 1).toNat * val B9 vz) = val B9 uz) := by show _ = _; rw [e1]; exact n2
                have HN3 := Lib.hid n3
                clear n1 n2 n3 e1
                go_wp2
                go_roundw
                case rel => exact ⟨t, yz, qs.set t (g - 1 - 1).toNat, by omega, by go_num, HYL.out, by rw [List.length_set]; exact HQL.out, hys, small_set hqss _ _ (by unfold B9; omega), hry.setOther (by simp; have := hgz; omega) _, hrq5.setInt _ (by omega) (by rw [HQL.out]; omega),
                  hrv5.setOther (by simp; have := hgz; omega) _, L5.setCell (by simp; have := L4.size; omega) _, long_step (by rw [HQL.out]; omega) HVAL.out HN2.out, HN3.out⟩
                case measure => first | (simp [intOf]; done) | (simp [intOf]; omega)
              · have hyt := HYV.out
                rw [if_pos rfl, Nat.add_zero] at hyt
                have HYT := Lib.hid hyt
                have HN3 := Lib.hid (long_yes hyt (by have := HGG.out; rw [HRe.out, HDe.out] at this; exact this))
                clear hyt
                go_wp2
                go_roundw
                case rel => exact ⟨t, yz, qs.set t (g - 1).toNat, by omega, by go_num, HYL.out, by rw [List.length_set]; exact HQL.out, hys, small_set hqss _ _ (by unfold B9; omega), hry.setOther (by simp; have := hgz; omega) _, hrq5.setInt _ (by omega) (by rw [HQL.out]; omega),
                  hrv5.setOther (by simp; have := hgz; omega) _, L5.setCell (by simp; have := L4.size; omega) _, long_step (by rw [HQL.out]; omega) HVAL.out HYT.out, HN3.out⟩
                case measure => first | (simp [intOf]; done) | (simp [intOf]; omega)
            · go_wp2_with fail
              go_quiet (fail)
              go_wp2_with fail
              go_roundw
              case rel => first | exact ⟨g - 1, r + v1, rfl, rfl, by omega, by omega, by omega, by omega, HGR2.out, by rw [HSUB.out]; exact HGD.out, _, rfl⟩ | ((repeat apply Exists.intro); exact ⟨⟨g - 1, r + v1, rfl, rfl, by omega, by omega, by omega, by omega, HGR2.out, by rw [HSUB.out]; exact HGD.out, _, rfl⟩, rfl⟩)
              case measure => first | (simp [intOf]; done) | (simp [intOf]; omega)
          · have hcd : decide (r * 1000000000 + x0 < g * v0) = false := by simpa using hcmp
            go_wp2_with fail
            go_quiet (fail)
            have hgt : g < 1000000000 := by omega
            have HGG : Hid (R < ((g).toNat + 1) * D) := HG
            have HGH : Hid ((g).toNat * D ≤ R + D) := by show _ ≤ _; exact guess_last hwv2.out hwv1.out (by omega) hwu1.out (guess_nat HGR.out HTP.out hg0 hr0 (by omega) hb2' hb1') (by unfold B9; omega) (guess_cmp_not (by have := hcmp; omega) hg0 hr0 hb0' hv0b')
            go_wp2_with fail
            have htk := take_any (some ⟨g4, 0, none⟩) g3 (us.length + 1) t (us.length + 1) (m + 2 + 1) uz vz (g) (wo.drewN (nn + nq)) (hru.drewN _) HUL.out (hnz _) (fun a ha => by injection ha with ha; rw [← ha]; have := hgz; show g4 ≠ g3; omega) huzs hvzs (by omega) (by rw [HVZL.out]; have := HLN.out; omega) (by omega) hgt
              (by rw [HVZL.out]; exact HUB.out) (by have := HGH.out; rw [HRe.out, HDe.out, Nat.mul_left_comm] at this; exact this)
            rw [HVZL.out] at htk
            refine htk.mono ?_
            rintro e w5 ⟨yz, b, rfl, hry, hyl, hys, hgy, hyv, hyb⟩
            have HYL := Lib.hid hyl; have HYV := Lib.hid hyv; have HYB := Lib.hid hyb
            clear hyl hyv hyb htk
            have hrq5 : Row w5 w4.heap.size L qs := (hrq.drewN _).of_block (hgy.block _ (by simpa using hrq.lt) (by simp; have := hgz; omega))
            have hrv5 : Row w5 g4 (m + 2 + 1) vs0 := (hrv.drewN _).of_block (hgy.block _ (by simpa using hrv.lt) (by simp; have := hgz; omega))
            have L5 : Below w.heap.size w w5 := (below_drewN hbel _).grown hgy (below_drewN hbel _).size (fun k hk => by injection hk with hk; omega)
            have hqc := hrq5.cell (j := t) (by omega)
            have hqf := hrq5.frozen t
            have hql := hrq5.lt
            have htl : t < L := by omega
            cases b
            · obtain ⟨n1, n2, n3⟩ := long_no (Ry := val B9 yz) (Rz := val B9 uz) (t := t) (Q := (g).toNat) (V := val B9 vz) (by have := HYV.out; rw [if_neg (by simp)] at this; exact this) (HYB.out rfl)
              have hg1' : 1 ≤ g := by omega
              have e1 : (g - 1).toNat = (g).toNat - 1 := by omega
              have HN2 : Hid (val B9 yz + B9 ^ t * ((g - 1).toNat * val B9 vz) = val B9 uz) := by show _ = _; rw [e1]; exact n2
              have HN3 := Lib.hid n3
              clear n1 n2 n3 e1
              go_wp2
              go_roundw
              case rel => exact ⟨t, yz, qs.set t (g - 1).toNat, by omega, by go_num, HYL.out, by rw [List.length_set]; exact HQL.out, hys, small_set hqss _ _ (by unfold B9; omega), hry.setOther (by simp; have := hgz; omega) _, hrq5.setInt _ (by omega) (by rw [HQL.out]; omega),
                hrv5.setOther (by simp; have := hgz; omega) _, L5.setCell (by simp; have := L4.size; omega) _, long_step (by rw [HQL.out]; omega) HVAL.out HN2.out, HN3.out⟩
              case measure => first | (simp [intOf]; done) | (simp [intOf]; omega)
            · have hyt := HYV.out
              rw [if_pos rfl, Nat.add_zero] at hyt
              have HYT := Lib.hid hyt
              have HN3 := Lib.hid (long_yes hyt (by have := HGG.out; rw [HRe.out, HDe.out] at this; exact this))
              clear hyt
              go_wp2
              go_roundw
              case rel => exact ⟨t, yz, qs.set t (g).toNat, by omega, by go_num, HYL.out, by rw [List.length_set]; exact HQL.out, hys, small_set hqss _ _ (by unfold B9; omega), hry.setOther (by simp; have := hgz; omega) _, hrq5.setInt _ (by omega) (by rw [HQL.out]; omega),
                hrv5.setOther (by simp; have := hgz; omega) _, L5.setCell (by simp; have := L4.size; omega) _, long_step (by rw [HQL.out]; omega) HVAL.out HYT.out, HN3.out⟩
              case measure => first | (simp [intOf]; done) | (simp [intOf]; omega)
end Go.Proofs.YtljndllhmdpjlaaGreatDoor
namespace Go.Proofs.YtljndllhmdpjlaaGreatDoor
open Go.RowKit

section
variable (A B : Option Addr) (c d : Nat) (xs ys : List Nat) (w : World)
set_option maxRecDepth 100000
theorem divide_any (hx : Nums w A xs) (hy : Nums w B ys) (hs : small B18 xs) (ht : small B18 ys) (hl : xs.length ≤ 1000) (hl' : ys.length ≤ 1000) (h0 : 0 < val B18 ys) :
    Calls Tryz.prog 116 #[.slice A xs.length c, .slice B ys.length d] w (DivPost w (val B18 xs) (val B18 ys)) := by
  have hp := digs_pos B9_two (n := val B18 ys) (by omega)
  by_cases h1 : (digs B9 (val B18 ys)).length = 1
  · exact divide_one A B c d xs ys w hx hy hs ht hl hl' h1
  by_cases h2 : (digs B9 (val B18 xs)).length < (digs B9 (val B18 ys)).length
  · exact divide_less A B c d xs ys w hx hy hs ht hl hl' h1 h2
  exact divide_long A B c d xs ys w hx hy hs ht hl hl' ((digs B9 (val B18 ys)).length - 2) (by omega) (by omega)
theorem divmod_ok (n1 n2 : Bool) (hx : Nums w A xs) (hy : Nums w B ys) (hg : goodB n1 xs = true) (hk : goodB n2 ys = true) (h0 : 0 < ys.length) :
    Calls Tryz.prog 85 #[.agg #[.bool n1, .slice A xs.length c], .agg #[.bool n2, .slice B ys.length d]] w (RetTwo w (dq n1 n2 (val B18 xs) (val B18 ys)) (dr n1 n2 (val B18 xs) (val B18 ys)) 0) := by
  obtain ⟨hs, _, hl, _⟩ := good_parts hg
  obtain ⟨ht, hm, hl', _⟩ := good_parts hk
  exact divmod_good A B c d xs ys w (fun w' hx' hy' => divide_any A B c d xs ys w' hx' hy' hs ht (by omega) (by omega) (Nat.pos_of_ne_zero (val_ne_zero B18_two hm (by omega)))) n1 n2 hx hy hg hk h0
end
end Go.Proofs.YtljndllhmdpjlaaGreatDoor
namespace Go.Proofs.YtljndllhmdpjlaaGreatDoor
open Go.RowKit

set_option maxRecDepth 100000
end Go.Proofs.YtljndllhmdpjlaaGreatDoor
namespace Go.Proofs.YtljndllhmdpjlaaGreatDoor
open Go.RowKit

/-- Is it the same number, limb for limb? -/
def sameB (n1 : Bool) (xs : List Nat) (n2 : Bool) (ys : List Nat) : Bool := (n1 == n2) && (xs == ys)
section
variable (A B : Option Addr) (c d : Nat) (xs ys : List Nat) (w : World)
set_option maxRecDepth 100000
end
end Go.Proofs.YtljndllhmdpjlaaGreatDoor
namespace Go.Proofs.YtljndllhmdpjlaaGreatDoor
open Go.RowKit

/-- The number, and the error's number, that a sum or a product in the range answers. -/
@[irreducible] def outV (ok : Bool) (s : Int) : Int := if ok then (if s.natAbs < B18 ^ 30 then s else 0) else 0
@[irreducible] def outE (ok : Bool) (s : Int) : Int := if ok then (if s.natAbs < B18 ^ 30 then 0 else 7) else 3
theorem outV_ok {s : Int} (h : s.natAbs < B18 ^ 30) : outV true s = s := by unfold outV; rw [if_pos rfl, if_pos h]
theorem outE_ok {s : Int} (h : s.natAbs < B18 ^ 30) : outE true s = 0 := by unfold outE; rw [if_pos rfl, if_pos h]
theorem outV_big {s : Int} (h : B18 ^ 30 ≤ s.natAbs) : outV true s = 0 := by unfold outV; rw [if_pos rfl, if_neg (by omega)]
theorem outE_big {s : Int} (h : B18 ^ 30 ≤ s.natAbs) : outE true s = 7 := by unfold outE; rw [if_pos rfl, if_neg (by omega)]
theorem outV_bad (s : Int) : outV false s = 0 := by unfold outV; rfl
theorem outE_bad (s : Int) : outE false s = 3 := by unfold outE; rfl

section
variable (A B : Option Addr) (c d : Nat) (xs ys : List Nat) (w : World)
set_option maxRecDepth 100000
end
end Go.Proofs.YtljndllhmdpjlaaGreatDoor
namespace Go.Proofs.YtljndllhmdpjlaaGreatDoor
open Go.RowKit

theorem Below.drewN {B : Nat} {a w : World} (h : Below B a w) (n : Nat) : Below B a (w.drewN n) := ⟨h.os, h.tape, h.output, h.size, h.block⟩
/-- How two numbers stand, 0 where one is out of form. -/
@[irreducible] def cmpO (ok : Bool) (i j : Int) : Int := if ok then cmpI i j else 0
theorem cmp_pos {xs ys : List Nat} : cmpN (val B18 xs) (val B18 ys) = cmpI (num false xs) (num false ys) := by
  rw [num_eq, num_eq]; unfold cmpI cmpN sgn
  by_cases h1 : val B18 xs < val B18 ys
  · simp [h1]
  · by_cases h2 : val B18 ys < val B18 xs <;> simp [h1, h2]
theorem cmp_neg {xs ys : List Nat} : cmpN (val B18 ys) (val B18 xs) = cmpI (num true xs) (num true ys) := by
  rw [num_eq, num_eq]; unfold cmpI cmpN sgn
  by_cases h1 : val B18 ys < val B18 xs
  · simp [h1]
  · by_cases h2 : val B18 xs < val B18 ys <;> simp [h1, h2]
theorem cmp_lt {xs ys : List Nat} (hg : goodB true xs = true) : cmpI (num true xs) (num false ys) = -1 := by
  have h := neg_num hg
  have h1 : num true xs < 0 := by simpa using h
  have h2 : (0 : Int) ≤ num false ys := by rw [num_eq]; unfold sgn; simp
  unfold cmpI; rw [if_pos (by omega)]
theorem cmp_gt {xs ys : List Nat} (hk : goodB true ys = true) : cmpI (num false xs) (num true ys) = 1 := by
  have h := neg_num hk
  have h1 : num true ys < 0 := by simpa using h
  have h2 : (0 : Int) ≤ num false xs := by rw [num_eq]; unfold sgn; simp
  unfold cmpI; rw [if_neg (by omega), if_pos (by omega)]

section
variable (A B : Option Addr) (c d : Nat) (xs ys : List Nat) (w : World)
set_option maxRecDepth 100000
set_option maxHeartbeats 1000000 in
theorem cmp_bad_x (n1 n2 : Bool) (hx : Nums w A xs) (hl : xs.length ≤ 9223372036854775807) (hg : goodB n1 xs = false) :
    Calls Tryz.prog 90 #[.agg #[.bool n1, .slice A xs.length c], .agg #[.bool n2, .slice B ys.length d]] w fun e w' => e = .returned (.int .i64 0) ∧ Below w.heap.size w w' := by
  go_enter Tryz.func90, Tryz.ntmps90
  go_wp2_with fail
  refine (good_any n1 c _ A xs hl ((hx.alloc _).alloc _)).mono ?_
  rintro e w1 ⟨rfl, hb1⟩
  have L1 : Below w.heap.size w w1 := (((Below.refl _ _).alloc (Nat.le_refl _) _).alloc (by simp) _).trans (hb1.mono (by simp; omega))
  go_wp2_with fail
  go_ret
  exact ⟨rfl, L1⟩
set_option maxHeartbeats 1000000 in
theorem cmp_bad_y (n1 n2 : Bool) (hx : Nums w A xs) (hy : Nums w B ys) (hl : ys.length ≤ 9223372036854775807) (hg : goodB n1 xs = true) (hk : goodB n2 ys = false) :
    Calls Tryz.prog 90 #[.agg #[.bool n1, .slice A xs.length c], .agg #[.bool n2, .slice B ys.length d]] w fun e w' => e = .returned (.int .i64 0) ∧ Below w.heap.size w w' := by
  obtain ⟨_, _, hlx, _⟩ := good_parts hg
  go_enter Tryz.func90, Tryz.ntmps90
  go_wp2_with fail
  refine (good_any n1 c _ A xs (by omega) ((hx.alloc _).alloc _)).mono ?_
  rintro e w1 ⟨rfl, hb1⟩
  have Y1 := (Blk.new (w.alloc (.cells #[.bool n1, .slice A xs.length c] 41)) 41 #[.bool n2, .slice B ys.length d]).below hb1 (by simp)
  have L1 : Below w.heap.size w w1 := (((Below.refl _ _).alloc (Nat.le_refl _) _).alloc (by simp) _).trans (hb1.mono (by simp; omega))
  simp only [World.size_alloc] at Y1
  obtain ⟨y0, y1, y2, y3⟩ := Y1.two
  go_wp2_with fail
  refine (good_any n2 d _ B ys hl (hy.below L1 (Nat.le_refl _))).mono ?_
  rintro e w2 ⟨rfl, hb2⟩
  have L2 := L1.trans (hb2.mono L1.size)
  go_wp2_with fail
  go_ret
  exact ⟨rfl, L2⟩
set_option maxHeartbeats 1000000 in
theorem cmp_good (n1 n2 : Bool) (hx : Nums w A xs) (hy : Nums w B ys) (hg : goodB n1 xs = true) (hk : goodB n2 ys = true) :
    Calls Tryz.prog 90 #[.agg #[.bool n1, .slice A xs.length c], .agg #[.bool n2, .slice B ys.length d]] w fun e w' => e = .returned (.int .i64 (cmpI (num n1 xs) (num n2 ys))) ∧ Below w.heap.size w w' := by
  obtain ⟨hs, hn, hlx, _⟩ := good_parts hg
  obtain ⟨ht, hm, hly, _⟩ := good_parts hk
  cases n1 <;> cases n2
  case false.false =>
    have HV := Lib.hid (cmp_pos (xs := xs) (ys := ys))
    go_enter Tryz.func90, Tryz.ntmps90
    go_wp2_with fail
    refine (good_any false c _ A xs (by omega) ((hx.alloc _).alloc _)).mono ?_
    rintro e w1 ⟨rfl, hb1⟩
    have X1 := (Blk.first w 41 #[.bool false, .slice A xs.length c] (.cells #[.bool false, .slice B ys.length d] 41)).below hb1 (by simp; omega)
    have Y1 := (Blk.new (w.alloc (.cells #[.bool false, .slice A xs.length c] 41)) 41 #[.bool false, .slice B ys.length d]).below hb1 (by simp)
    have L1 : Below w.heap.size w w1 := (((Below.refl _ _).alloc (Nat.le_refl _) _).alloc (by simp) _).trans (hb1.mono (by simp; omega))
    simp only [World.size_alloc] at X1 Y1
    clear hb1
    obtain ⟨y0, y1, y2, y3⟩ := Y1.two
    go_wp2_with fail
    refine (good_any false d _ B ys (by omega) (hy.below L1 (Nat.le_refl _))).mono ?_
    rintro e w2 ⟨rfl, hb2⟩
    have X2 := X1.below hb2 X1.lt; have Y2 := Y1.below hb2 Y1.lt
    have L2 := L1.trans (hb2.mono L1.size)
    clear y0 y1 y2 y3 X1 Y1 L1 hb2
    obtain ⟨x0, x1, x2, x3⟩ := X2.two
    obtain ⟨y0, y1, y2, y3⟩ := Y2.two
    go_wp2_with fail
    refine (size_any A B c d xs ys _ (hx.below L2 (Nat.le_refl _)) (hy.below L2 (Nat.le_refl _)) hs ht hn hm (by omega) (by omega)).mono ?_
    rintro e w3 ⟨rfl, n, rfl⟩
    rw [HV.out]
    go_wp2_with fail
    go_ret
    exact ⟨rfl, Below.drewN L2 n⟩
  case true.true =>
    have HV := Lib.hid (cmp_neg (xs := xs) (ys := ys))
    go_enter Tryz.func90, Tryz.ntmps90
    go_wp2_with fail
    refine (good_any true c _ A xs (by omega) ((hx.alloc _).alloc _)).mono ?_
    rintro e w1 ⟨rfl, hb1⟩
    have X1 := (Blk.first w 41 #[.bool true, .slice A xs.length c] (.cells #[.bool true, .slice B ys.length d] 41)).below hb1 (by simp; omega)
    have Y1 := (Blk.new (w.alloc (.cells #[.bool true, .slice A xs.length c] 41)) 41 #[.bool true, .slice B ys.length d]).below hb1 (by simp)
    have L1 : Below w.heap.size w w1 := (((Below.refl _ _).alloc (Nat.le_refl _) _).alloc (by simp) _).trans (hb1.mono (by simp; omega))
    simp only [World.size_alloc] at X1 Y1
    clear hb1
    obtain ⟨y0, y1, y2, y3⟩ := Y1.two
    go_wp2_with fail
    refine (good_any true d _ B ys (by omega) (hy.below L1 (Nat.le_refl _))).mono ?_
    rintro e w2 ⟨rfl, hb2⟩
    have X2 := X1.below hb2 X1.lt; have Y2 := Y1.below hb2 Y1.lt
    have L2 := L1.trans (hb2.mono L1.size)
    clear y0 y1 y2 y3 X1 Y1 L1 hb2
    obtain ⟨x0, x1, x2, x3⟩ := X2.two
    obtain ⟨y0, y1, y2, y3⟩ := Y2.two
    go_wp2_with fail
    refine (size_any B A d c ys xs _ (hy.below L2 (Nat.le_refl _)) (hx.below L2 (Nat.le_refl _)) ht hs hm hn (by omega) (by omega)).mono ?_
    rintro e w3 ⟨rfl, n, rfl⟩
    rw [HV.out]
    go_wp2_with fail
    go_ret
    exact ⟨rfl, Below.drewN L2 n⟩
  case true.false =>
    have HV := Lib.hid (cmp_lt (xs := xs) (ys := ys) hg)
    go_enter Tryz.func90, Tryz.ntmps90
    go_wp2_with fail
    refine (good_any true c _ A xs (by omega) ((hx.alloc _).alloc _)).mono ?_
    rintro e w1 ⟨rfl, hb1⟩
    have X1 := (Blk.first w 41 #[.bool true, .slice A xs.length c] (.cells #[.bool false, .slice B ys.length d] 41)).below hb1 (by simp; omega)
    have Y1 := (Blk.new (w.alloc (.cells #[.bool true, .slice A xs.length c] 41)) 41 #[.bool false, .slice B ys.length d]).below hb1 (by simp)
    have L1 : Below w.heap.size w w1 := (((Below.refl _ _).alloc (Nat.le_refl _) _).alloc (by simp) _).trans (hb1.mono (by simp; omega))
    simp only [World.size_alloc] at X1 Y1
    clear hb1
    obtain ⟨y0, y1, y2, y3⟩ := Y1.two
    go_wp2_with fail
    refine (good_any false d _ B ys (by omega) (hy.below L1 (Nat.le_refl _))).mono ?_
    rintro e w2 ⟨rfl, hb2⟩
    have X2 := X1.below hb2 X1.lt; have Y2 := Y1.below hb2 Y1.lt
    have L2 := L1.trans (hb2.mono L1.size)
    clear y0 y1 y2 y3 X1 Y1 L1 hb2
    obtain ⟨x0, x1, x2, x3⟩ := X2.two
    obtain ⟨y0, y1, y2, y3⟩ := Y2.two
    go_wp2_with fail
    go_ret
    exact ⟨ret_int' HV.out.symm, L2⟩
  case false.true =>
    have HV := Lib.hid (cmp_gt (xs := xs) (ys := ys) hk)
    go_enter Tryz.func90, Tryz.ntmps90
    go_wp2_with fail
    refine (good_any false c _ A xs (by omega) ((hx.alloc _).alloc _)).mono ?_
    rintro e w1 ⟨rfl, hb1⟩
    have X1 := (Blk.first w 41 #[.bool false, .slice A xs.length c] (.cells #[.bool true, .slice B ys.length d] 41)).below hb1 (by simp; omega)
    have Y1 := (Blk.new (w.alloc (.cells #[.bool false, .slice A xs.length c] 41)) 41 #[.bool true, .slice B ys.length d]).below hb1 (by simp)
    have L1 : Below w.heap.size w w1 := (((Below.refl _ _).alloc (Nat.le_refl _) _).alloc (by simp) _).trans (hb1.mono (by simp; omega))
    simp only [World.size_alloc] at X1 Y1
    clear hb1
    obtain ⟨y0, y1, y2, y3⟩ := Y1.two
    go_wp2_with fail
    refine (good_any true d _ B ys (by omega) (hy.below L1 (Nat.le_refl _))).mono ?_
    rintro e w2 ⟨rfl, hb2⟩
    have X2 := X1.below hb2 X1.lt; have Y2 := Y1.below hb2 Y1.lt
    have L2 := L1.trans (hb2.mono L1.size)
    clear y0 y1 y2 y3 X1 Y1 L1 hb2
    obtain ⟨x0, x1, x2, x3⟩ := X2.two
    obtain ⟨y0, y1, y2, y3⟩ := Y2.two
    go_wp2_with fail
    go_ret
    exact ⟨ret_int' HV.out.symm, L2⟩
theorem cmp_any (n1 n2 : Bool) (hx : Nums w A xs) (hy : Nums w B ys) (hl : xs.length ≤ 9223372036854775807) (hl' : ys.length ≤ 9223372036854775807) :
    Calls Tryz.prog 90 #[.agg #[.bool n1, .slice A xs.length c], .agg #[.bool n2, .slice B ys.length d]] w fun e w' => e = .returned (.int .i64 (cmpO (goodB n1 xs && goodB n2 ys) (num n1 xs) (num n2 ys))) ∧ Below w.heap.size w w' := by
  unfold cmpO
  cases hg : goodB n1 xs
  · exact cmp_bad_x A B c d xs ys w n1 n2 hx hl hg
  cases hk : goodB n2 ys
  · exact cmp_bad_y A B c d xs ys w n1 n2 hx hy hl' hg hk
  exact cmp_good A B c d xs ys w n1 n2 hx hy hg hk
end
end Go.Proofs.YtljndllhmdpjlaaGreatDoor

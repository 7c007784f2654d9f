/- The walk of the reference's Times. -/
import Derived.Test.YteggjfmcpodepaaDoorWT10
import Derived.BigRegion
namespace Go.Proofs.YteggjfmcpodepaaDoor
open Go.RowKit

theorem val_rep10 (n : Nat) : val 10 (List.replicate n 0) = 0 := by
  induction n with
  | zero => rfl
  | succ n ih => rw [List.replicate_succ, val, ih]
theorem times_step {ys zs : List Nat} {k j C X : Nat} (hz : k + j < zs.length) (h : val 10 zs = C + 10 ^ k * (X * val 10 (ys.take j))) :
    val 10 (zs.set (k + j) (zs.getD (k + j) 0 + X * ys.getD j 0)) = C + 10 ^ k * (X * val 10 (ys.take (j + 1))) := by
  have h1 := val_set (b := 10) zs (k + j) (zs.getD (k + j) 0 + X * ys.getD j 0) hz
  have h5 : 10 ^ k * (X * val 10 (ys.take (j + 1))) = 10 ^ k * (X * val 10 (ys.take j)) + 10 ^ (k + j) * (X * ys.getD j 0) := by
    rw [val_take_succ, Nat.mul_add, Nat.mul_add, Nat.pow_add, Nat.mul_left_comm X, Nat.mul_assoc (10 ^ k)]
  rw [Nat.mul_add] at h1
  omega
theorem times_close {xs ys zs : List Nat} {k : Nat} (h : val 10 zs = val 10 (xs.take k) * val 10 ys + 10 ^ k * (xs.getD k 0 * val 10 (ys.take ys.length))) :
    val 10 zs = val 10 (xs.take (k + 1)) * val 10 ys := by
  rw [h, List.take_length, val_take_succ, Nat.add_mul, Nat.mul_assoc]
theorem carry_step {zs ds : List Nat} {k u t : Nat} (hd : ds.length = k) (h : val 10 ds + 10 ^ k * u = val 10 (zs.take k)) (ht : t = u + zs.getD k 0) :
    val 10 (ds ++ [t % 10]) + 10 ^ (k + 1) * (t / 10) = val 10 (zs.take (k + 1)) := by
  rw [val_snoc, val_take_succ, hd, Nat.pow_succ, Nat.mul_assoc]
  have h3 : 10 ^ k * (t % 10) + 10 ^ k * (10 * (t / 10)) = 10 ^ k * t := by rw [← Nat.mul_add, Nat.mod_add_div]
  rw [ht, Nat.mul_add] at h3
  rw [ht]
  omega
theorem times_end {xs ys zs ds : List Nat} {N u : Nat} (hs : small 10 xs) (ht : small 10 ys) (hN : N = xs.length + ys.length + 1) (hzl : zs.length = N) (hz : val 10 zs = val 10 xs * val 10 ys)
    (h : val 10 ds + 10 ^ N * u = val 10 (zs.take N)) : val 10 ds = val 10 xs * val 10 ys := by
  have h1 := val_lt hs; have h2 := val_lt ht
  have h3 : val 10 xs * val 10 ys < 10 ^ N := by
    rw [hN, Nat.pow_succ, Nat.pow_add]
    have h4 : val 10 xs * val 10 ys ≤ 10 ^ xs.length * 10 ^ ys.length := Nat.mul_le_mul (by omega) (by omega)
    have h5 : 0 < 10 ^ xs.length * 10 ^ ys.length := Nat.mul_pos (Nat.pow_pos (by decide)) (Nat.pow_pos (by decide))
    omega
  rw [List.take_of_length_le (by omega), hz] at h
  rcases Nat.eq_zero_or_pos u with h0 | h0
  · subst h0; omega
  · have := Nat.mul_le_mul_left (10 ^ N) h0; omega
theorem digit_mul {xs ys : List Nat} (hs : small 10 xs) (ht : small 10 ys) (k j : Nat) : 0 ≤ nth xs k * nth ys j ∧ nth xs k * nth ys j ≤ 81 := by
  have a0 := nth_nonneg xs k; have b0 := nth_nonneg ys j
  have a1 := nth_lt (by omega) hs k; have b1 := nth_lt (by omega) ht j
  refine ⟨Int.mul_nonneg a0 b0, ?_⟩
  have h : nth xs k * nth ys j ≤ 9 * 9 := Int.mul_le_mul (by omega) (by omega) b0 (by omega)
  omega
section
variable (A B : Option Addr) (c d : Nat) (i j : Int) (w : World)
set_option maxRecDepth 100000
set_option maxHeartbeats 2000000 in
theorem rtimes_bits (bi bj : Bool) (hbi : decide (i < 0) = bi) (hbj : decide (j < 0) = bj) (hx : Nums8 w A (tens i)) (hy : Nums8 w B (tens j)) (hl : (tens i).length ≤ 600) (hl' : (tens j).length ≤ 600) :
    Calls Tryd.prog 37 #[.agg #[.bool bi, .slice A (tens i).length c], .agg #[.bool bj, .slice B (tens j).length d]] w (RetNum w (i * j)) := by
  have hq : (i * j).natAbs = i.natAbs * j.natAbs := Int.natAbs_mul i j
  have hsgn : decide (i * j < 0) = ((bi != bj) && decide (0 < (tens (i * j)).length)) := by
    by_cases h0 : i * j = 0
    · rw [h0, tens_zero]; simp
    · have h1 : 0 < (tens (i * j)).length := by rw [tens_eq]; exact digs_pos (by decide) (by omega)
      rw [decide_eq_true h1, Bool.and_true, ← hbi, ← hbj]
      have hi0 : i ≠ 0 := fun e => h0 (by rw [e, Int.zero_mul])
      have hj0 : j ≠ 0 := fun e => h0 (by rw [e, Int.mul_zero])
      by_cases hi : i < 0 <;> by_cases hj : j < 0
      · have := Int.mul_pos_of_neg_of_neg hi hj; simp [hi, hj]; omega
      · have := Int.mul_neg_of_neg_of_pos hi (show 0 < j by omega); simp [hi, hj, this]
      · have := Int.mul_neg_of_pos_of_neg (show 0 < i by omega) hj; simp [hi, hj, this]
      · have := Int.mul_pos (show 0 < i by omega) (show 0 < j by omega); simp [hi, hj]; omega
  have HQ := Lib.hid hq; have HSG := Lib.hid hsgn
  have HSX := Lib.hid (tens_small i); have HSY := Lib.hid (tens_small j)
  have HVX := Lib.hid (val_tens i); have HVY := Lib.hid (val_tens j)
  obtain ⟨q, hqq⟩ : ∃ q, q = i * j := ⟨_, rfl⟩
  rw [← hqq] at HQ HSG ⊢
  obtain ⟨W0, hW0⟩ : ∃ W0, W0 = three w bi bj A B c d i j := ⟨_, rfl⟩
  have LW : Below w.heap.size w W0 := by rw [hW0]; exact three_below ..
  have HWs : Hid (W0.heap.size = w.heap.size + 3) := by rw [hW0]; exact three_size ..
  have HF : Hid (∀ b1, Below W0.heap.size W0 b1 → Three w bi bj A B c d i j b1) := fun b1 hb => by rw [hW0] at hb; exact three_since hx hy hb
  clear hx hy hqq hq hsgn hbi hbj
  unfold three at hW0
  have L : Below W0.heap.size W0 W0 := Below.refl _ _
  obtain ⟨⟨x0, x1⟩, ⟨y0, y1⟩, ⟨r0, r1, r2, r3⟩, hx, hy⟩ := HF.out _ L
  obtain ⟨N, hN⟩ : ∃ N : Nat, N = (tens i).length + (tens j).length + 1 := ⟨_, rfl⟩
  have hmk := makeI N (by omega)
  have hNi : (((tens i).length : Int) + ((tens j).length : Int) + 1) = (N : Int) := by omega
  have HN := Lib.hid hN
  have hNb : N ≤ 1201 := by omega
  clear hN
  go_enter Tryd.func37, Tryd.ntmps37
  go_upto_region 1 with fail
  rw [← hW0]
  clear hW0
  go_upto_region 2 with fail
  obtain ⟨g, hg⟩ : ∃ g, g = W0.heap.size := ⟨_, rfl⟩
  obtain ⟨W1, hW1⟩ : ∃ W1, W1 = W0.alloc (.cells (madeCells #[.int .i64 0] N) 3) := ⟨_, rfl⟩
  have k1 : Below W0.heap.size W0 W1 := by rw [hW1]; exact (Below.refl _ _).alloc (Nat.le_refl _) _
  have hrow : RowI W1 g N (List.replicate N 0) := by
    have h := (RowI.made W0 N).fill
    rw [← hW1, ← hg] at h
    simpa using h
  have hWg : W1.heap.size = g + 1 := by rw [hW1, hg]; simp
  have hgW : W0.heap.size ≤ g := by rw [hg]; exact Nat.le_refl _
  rw [← hg, ← hW1]
  clear x0 x1 y0 y1 hx hy r0 r1 r2 r3 hmk hNi hW1 hg L
  obtain ⟨⟨x0, x1⟩, ⟨y0, y1⟩, ⟨r0, r1, r2, r3⟩, hx, hy⟩ := HF.out _ k1
  go_wp2_with fail
  clear x0 x1 y0 y1 hx hy r0 r1 r2 r3
  go_loopw [6] (fun iv wr => ∃ (k : Nat) (zs : List Nat), k ≤ (tens i).length ∧ iv = .int .i64 k ∧ RowI wr g N zs ∧ zs.length = N ∧ (∀ p, nth zs p ≤ 81 * (k : Int)) ∧ Hid (val 10 zs = val 10 ((tens i).take k) * val 10 (tens j)) ∧ Below W0.heap.size W0 wr ∧ wr.heap.size = g + 1) (fun iv _ => (tens i).length - (intOf iv).toNat)
  case atStart => exact ⟨0, List.replicate N 0, by omega, rfl, hrow, by simp, fun p => by rw [nth_replicate]; omega, by show _ = _; rw [val_rep10, List.take_zero]; simp [val], k1, hWg⟩
  case round =>
    obtain ⟨k, zs, hk, rfl, hrw, hzl, hzb, HV, hbel, hsz⟩ := hrel
    have HZB := Lib.hid hzb
    clear hzb
    obtain ⟨⟨x0, x1⟩, ⟨y0, y1⟩, ⟨r0, r1, r2, r3⟩, hx, hy⟩ := HF.out _ hbel
    by_cases hkn : k < (tens i).length
    · obtain ⟨wo, rfl⟩ : ∃ wo : World, wo = wr := ⟨_, rfl⟩
      have hm1 : (k : Int) < ((tens i).length : Int) := by omega
      have HX0 : Hid (val 10 zs = val 10 ((tens i).take k) * val 10 (tens j) + 10 ^ k * ((tens i).getD k 0 * val 10 ((tens j).take 0))) := by
        show _ = _; rw [HV.out]; simp [val]
      go_wp2_with fail
      clear x0 x1 y0 y1 hx hy r0 r1 r2 r3
      go_loopw [7] (fun jv wi => ∃ (m : Nat) (qs : List Nat), m ≤ (tens j).length ∧ jv = .int .i64 m ∧ RowI wi g N qs ∧ qs.length = N ∧ (∀ p, nth qs p ≤ 81 * (k : Int) + 81 ∧ (k + m ≤ p → nth qs p ≤ 81 * (k : Int))) ∧
          Hid (val 10 qs = val 10 ((tens i).take k) * val 10 (tens j) + 10 ^ k * ((tens i).getD k 0 * val 10 ((tens j).take m))) ∧ Below W0.heap.size W0 wi ∧ wi.heap.size = g + 1) (fun jv _ => (tens j).length - (intOf jv).toNat)
      case atStart => exact ⟨0, zs, by omega, rfl, hrw, hzl, fun p => ⟨by have := HZB.out p; omega, fun _ => HZB.out p⟩, HX0, hbel, hsz⟩
      case round =>
        obtain ⟨m, qs, hm, rfl, hrq, hql, hqb, HQV, hbel2, hsz2⟩ := hrel
        have HQB := Lib.hid hqb
        clear hqb
        obtain ⟨⟨x0, x1⟩, ⟨y0, y1⟩, ⟨r0, r1, r2, r3⟩, hx, hy⟩ := HF.out _ hbel2
        by_cases hmn : m < (tens j).length
        · have hN1 := HN.out
          obtain ⟨b, o, rfl, hb, hc⟩ := hx.2 (by omega)
          obtain ⟨b', o', rfl, hb', hc'⟩ := hy.2 (by omega)
          have hcx := hc k hkn
          have hcy := hc' m hmn
          have hcz := hrq.cell (j := k + m) (by omega)
          have hfz := hrq.frozen (k + m)
          have hm2 : (m : Int) < ((tens j).length : Int) := by omega
          have hk0 : (0 : Int) ≤ (k : Int) := by omega
          have hm0 : (0 : Int) ≤ (m : Int) := by omega
          have hnx := nth_nonneg (tens i) k; have hny := nth_nonneg (tens j) m; have hnz := nth_nonneg qs (k + m)
          have hlx := nth_lt (by omega) HSX.out k; have hly := nth_lt (by omega) HSY.out m
          have hlz := (HQB.out (k + m)).2 (Nat.le_refl _)
          obtain ⟨p0, p1⟩ := digit_mul HSX.out HSY.out k m
          obtain ⟨P, hP⟩ : ∃ P, P = nth (tens i) k * nth (tens j) m := ⟨_, rfl⟩
          have hPe : nth (tens i) k * nth (tens j) m = P := hP.symm
          rw [← hP] at p0 p1
          have HPE := Lib.hid hP
          have hw1 : IntKind.i64.wrap (nth (tens i) k * nth (tens j) m) = P := by rw [hPe]; exact IntWalk.i64_in _ (by omega)
          have hw2 : IntKind.i64.wrap (nth qs (k + m) + P) = nth qs (k + m) + P := IntWalk.i64_in _ (by omega)
          have hkj : (k : Int) + (m : Int) < (N : Int) := by omega
          have hkj0 : (0 : Int) ≤ (k : Int) + (m : Int) := by omega
          have hw64 : IntKind.i64.wrap ((k : Int) + (m : Int)) = (k : Int) + (m : Int) := IntWalk.i64_in _ (by omega)
          have HQL := Lib.hid hql
          have hb600 : (k : Int) ≤ 600 := by omega
          clear hc hc' hP hN1 hPe
          go_wp2_with fail
          go_region
          go_wp2_with fail
          have hSV : (nth qs (k + m) + P).toNat = qs.getD (k + m) 0 + (tens i).getD k 0 * (tens j).getD m 0 := by
            have e1 : P = (((tens i).getD k 0 * (tens j).getD m 0 : Nat) : Int) := by rw [HPE.out]; unfold nth; rw [← Int.natCast_mul]
            have e2 : nth qs (k + m) = ((qs.getD (k + m) 0 : Nat) : Int) := by unfold nth; rfl
            rw [e1, e2]; omega
          have hlq : k + m < qs.length := by have := HQL.out; omega
          have hstep := times_step (X := (tens i).getD k 0) (ys := tens j) hlq HQV.out
          rw [← hSV] at hstep
          go_roundw
          case rel => exact ⟨m + 1, qs.set (k + m) (nth qs (k + m) + P).toNat, by omega, by go_num, by first | exact (hrq.drew).setInt _ (by omega) hlq | exact (hrq.drewN _).setInt _ (by omega) hlq, by rw [List.length_set]; exact HQL.out,
            fun p => by
              have := HQB.out p
              rw [nth_set _ _ _ hlq]
              by_cases hp : p = k + m
              · rw [if_pos hp]; exact ⟨by omega, fun h => by omega⟩
              · rw [if_neg hp]; exact ⟨this.1, fun h => this.2 (by omega)⟩, hstep, (hbel2.drew).setCell hgW _, by simpa using hsz2⟩
          case measure => simp [intOf]; omega
        · obtain rfl : m = (tens j).length := by omega
          have hcl := times_close HQV.out
          have HCL := Lib.hid hcl
          have hm2 : ¬ ((tens j).length : Int) < ((tens j).length : Int) := by omega
          clear hcl
          go_wp2_with fail
          go_roundw
          case rel => exact ⟨k + 1, qs, by omega, by go_num, hrq, hql, fun p => by have := (HQB.out p).1; omega, HCL, hbel2, hsz2⟩
          case measure => simp [intOf]; omega
    · obtain rfl : k = (tens i).length := by omega
      have hm1 : ¬ ((tens i).length : Int) < ((tens i).length : Int) := by omega
      have hv : val 10 zs = val 10 (tens i) * val 10 (tens j) := by rw [HV.out, List.take_length]
      have HVV := Lib.hid hv
      have hzq : ∀ p, nth zs p ≤ 48600 := fun p => by have := HZB.out p; omega
      have HZQ := Lib.hid hzq
      obtain ⟨wo, rfl⟩ : ∃ wo : World, wo = wr := ⟨_, rfl⟩
      clear hv hzq
      go_wp2_with fail
      clear x0 x1 y0 y1 hx hy r0 r1 r2 r3
      go_loopw [8, 9, 10] (fun dv cv iv wi => ∃ (k : Nat) (u : Int) (A' : Option Addr) (c' : Nat) (ds : List Nat), k ≤ N ∧ iv = .int .i64 k ∧ cv = .int .i64 u ∧ 0 ≤ u ∧ u ≤ 100000 ∧ dv = .slice A' ds.length c' ∧ Own8 wi (g + 1) A' c' ds ∧ Hid (ds.length = k) ∧ small 10 ds ∧
          Hid (val 10 ds + 10 ^ k * u.toNat = val 10 (zs.take k)) ∧ Below (g + 1) wo wi) (fun _ _ iv _ => N - (intOf iv).toNat)
      case atStart => exact ⟨0, 0, none, 0, [], by omega, rfl, rfl, by omega, by omega, rfl, Own8.nil _ _, rfl, small_nil, by show _ = _; simp [val], Below.refl _ _⟩
      case round =>
        obtain ⟨k, u, A', c', ds, hkN, rfl, rfl, hu0, hu1, rfl, hown, HDL, hds, HD, hbel3⟩ := hrel
        have hrw3 := hrw.below hbel3 (by omega)
        have hs3 := hbel3.size
        by_cases hlt : k < N
        · have hcz := hrw3.cell (j := k) hlt
          have hm3 : (k : Int) < (N : Int) := by omega
          have hm0 : (0 : Int) ≤ (k : Int) := by omega
          have hnz := nth_nonneg zs k
          have hlz := HZQ.out k
          obtain ⟨t, ht⟩ : ∃ t, t = u + nth zs k := ⟨_, rfl⟩
          have ht0 : 0 ≤ t := by omega
          have ht1 : t ≤ 148600 := by omega
          have hw1 : IntKind.i64.wrap (u + nth zs k) = t := by rw [ht]; exact IntWalk.i64_in _ (by omega)
          have hw8 := wrap8 (t % 10) (by omega) (by omega)
          have e1 : t % 10 = (((t % 10).toNat : Nat) : Int) := by omega
          have HC := Lib.hid (cells_one8 wr _ _ e1)
          have H8 : Hid (∀ x ∈ [(t % 10).toNat], x < 256) := by intro x hx'; simp only [List.mem_cons, List.not_mem_nil, or_false] at hx'; omega
          have HNN : Hid (ds.length + [(t % 10).toNat].length ≤ 17592186044416) := by have := HDL.out; show ds.length + 1 ≤ _; omega
          have hst : val 10 (ds ++ [(t % 10).toNat]) + 10 ^ (k + 1) * (t / 10).toNat = val 10 (zs.take (k + 1)) := by
            have hTn : t.toNat = u.toNat + zs.getD k 0 := by
              have e2 : nth zs k = ((zs.getD k 0 : Nat) : Int) := by unfold nth; rfl
              rw [ht, e2]; omega
            have h := carry_step HDL.out HD.out hTn
            have e3 : (t % 10).toNat = t.toNat % 10 := by omega
            have e4 : (t / 10).toNat = t.toNat / 10 := by omega
            rw [e3, e4]; exact h
          have HST := Lib.hid hst
          have hut : u + nth zs k = t := ht.symm
          clear ht e1 hst
          go_wp2_with (at_builtin; go_loud (refine wpList_app8 rfl (.tmp 71) (.tmp 75) rfl (g + 1) A' c' ds rfl (hown.alloc _) [(t % 10).toNat] ⟨wr.heap.size, 0, none⟩ 1 1 rfl rfl (by exact HC.out) H8.out HNN.out (by simp; omega) (fun A3 c3 w3 hown3 hg3 => ?_)))
          go_roundw
          case rel => exact ⟨k + 1, t / 10, A3, c3, ds ++ [(t % 10).toNat], by omega, by go_num, by go_num, by omega, by omega, by simp, hown3, by have := HDL.out; show _ = _; simp [this], small_snoc hds (by omega), HST, Below.own8 (hbel3.alloc (by omega) _) (hown.alloc _) (by simp; omega) hg3⟩
          case measure => simp [intOf]; omega
        · obtain rfl : k = N := by omega
          have hvd : val 10 ds = q.natAbs := by
            have h := times_end HSX.out HSY.out HN.out hzl HVV.out HD.out
            rw [h, HVX.out, HVY.out, HQ.out]
          have hcut := fun w h => rcut_tens (g + 1) A' c' ds q w h hds hvd (by have := HDL.out; omega)
          have LB : Below W0.heap.size W0 wr := hbel.trans (hbel3.mono (by omega))
          obtain ⟨⟨x0, x1⟩, ⟨y0, y1⟩, ⟨r0, r1, r2, r3⟩, hx, hy⟩ := HF.out _ LB
          have hm3 : ¬ (k : Int) < (k : Int) := by omega
          clear hvd
          go_wp2_with (go_at_call 55; refine (hcut _ hown).mono ?_; rintro e w4 ⟨rfl, hown4, rfl⟩; refine Hid.out ?_)
          refine Lib.hid ?_
          clear hcut
          have hsg := HSG.out
          by_cases h0 : 0 < (tens q).length
          · rw [decide_eq_true h0, Bool.and_true] at hsg
            have HSB := Lib.hid hsg
            obtain ⟨bq, hbq⟩ : ∃ bq, bq = (bi != bj) := ⟨_, rfl⟩
            have hbq2 : (bi != bj) = bq := hbq.symm
            have hbq3 : (!(bi == bj)) = bq := by rw [hbq]; cases bi <;> cases bj <;> rfl
            have HBQ := Lib.hid hbq
            clear hsg hbq
            cases bq
            · go_wp2_with fail
              refine bodyPost_ret (v := .agg #[.bool false, .slice A' (tens q).length c']) (by simp [results, Tryd.results37, go_sem, r0, r1]) rfl ?_
              have h2 := HWs.out
              have h3 := fin_num (w := w) (g0 := w.heap.size + 1 + 1) hown4 (LW.trans (LB.mono LW.size)) (by omega) (by omega) (.bool false) (.slice A' (tens q).length c')
              rw [HSB.out, ← HBQ.out] at h3
              exact h3
            · go_wp2_with fail
              refine bodyPost_ret (v := .agg #[.bool true, .slice A' (tens q).length c']) (by simp [results, Tryd.results37, go_sem, r0, r1]) rfl ?_
              have h2 := HWs.out
              have h3 := fin_num (w := w) (g0 := w.heap.size + 1 + 1) hown4 (LW.trans (LB.mono LW.size)) (by omega) (by omega) (.bool true) (.slice A' (tens q).length c')
              rw [HSB.out, ← HBQ.out] at h3
              exact h3
          · rw [decide_eq_false h0, Bool.and_false] at hsg
            have HSB := Lib.hid hsg
            obtain ⟨bq, hbq⟩ : ∃ bq, bq = (bi != bj) := ⟨_, rfl⟩
            have hbq2 : (bi != bj) = bq := hbq.symm
            have hbq3 : (!(bi == bj)) = bq := by rw [hbq]; cases bi <;> cases bj <;> rfl
            clear hsg hbq
            cases bq
            all_goals
              go_wp2_with fail
              refine bodyPost_ret (v := .agg #[.bool false, .slice A' (tens q).length c']) (by simp [results, Tryd.results37, go_sem, r0, r1]) rfl ?_
              have h2 := HWs.out
              have h3 := fin_num (w := w) (g0 := w.heap.size + 1 + 1) hown4 (LW.trans (LB.mono LW.size)) (by omega) (by omega) (.bool false) (.slice A' (tens q).length c')
              rw [HSB.out] at h3
              exact h3
theorem rtimes_any (hx : Nums8 w A (tens i)) (hy : Nums8 w B (tens j)) (hl : (tens i).length ≤ 600) (hl' : (tens j).length ≤ 600) :
    Calls Tryd.prog 37 #[.agg #[.bool (decide (i < 0)), .slice A (tens i).length c], .agg #[.bool (decide (j < 0)), .slice B (tens j).length d]] w (RetNum w (i * j)) :=
  rtimes_bits A B c d i j w _ _ rfl rfl hx hy hl hl'
end
end Go.Proofs.YteggjfmcpodepaaDoor

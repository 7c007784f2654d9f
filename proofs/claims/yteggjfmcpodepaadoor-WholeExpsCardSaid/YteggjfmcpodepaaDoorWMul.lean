/- The walk of whole.Mul. -/
import Derived.Test.YteggjfmcpodepaaDoorBits
import Derived.Test.YteggjfmcpodepaaDoorLawFns
import Derived.Test.YteggjfmcpodepaaDoorWTake
namespace Go.Proofs.YteggjfmcpodepaaDoor
open Go.RowKit

theorem fits_out (neg : Bool) (A : Option Addr) (c : Nat) (xs : List Nat) (w : World) (hx : Nums w A xs) (hs : small B18 xs) (hl : xs.length ≤ 1048576) :
    Calls Tryd.prog 56 #[.bool neg, .slice A xs.length c] w (RetBigErr w (outV true (sgn neg (val B18 xs))) (outE true (sgn neg (val B18 xs)))) := by
  rcases Nat.lt_or_ge (val B18 xs) (B18 ^ 30) with h | h
  · rw [outV_ok (by rw [sgn_natAbs]; exact h), outE_ok (by rw [sgn_natAbs]; exact h)]; exact fits_yes neg A c xs w hx hs hl h
  · rw [outV_big (by rw [sgn_natAbs]; exact h), outE_big (by rw [sgn_natAbs]; exact h)]; exact fits_no neg A c xs w hx hs hl h
theorem mul_step {ys zs : List Nat} {k j u t C X : Nat} (hz : k + j < zs.length) (h : val B18 zs + B18 ^ (k + j) * u = C + B18 ^ k * (X * val B18 (ys.take j))) (ht : t = X * ys.getD j 0 + zs.getD (k + j) 0 + u) :
    val B18 (zs.set (k + j) (t % B18)) + B18 ^ (k + (j + 1)) * (t / B18) = C + B18 ^ k * (X * val B18 (ys.take (j + 1))) := by
  have h1 := val_set (b := B18) zs (k + j) (t % B18) hz
  have h2 : B18 ^ (k + (j + 1)) * (t / B18) = B18 ^ (k + j) * (B18 * (t / B18)) := by rw [← Nat.add_assoc, Nat.pow_succ, Nat.mul_assoc]
  have h3 : B18 ^ (k + j) * (t % B18) + B18 ^ (k + j) * (B18 * (t / B18)) = B18 ^ (k + j) * t := by rw [← Nat.mul_add, Nat.mod_add_div]
  have h4 : B18 ^ (k + j) * t = B18 ^ (k + j) * (X * ys.getD j 0) + B18 ^ (k + j) * zs.getD (k + j) 0 + B18 ^ (k + j) * u := by rw [ht, Nat.mul_add, Nat.mul_add]
  have h5 : B18 ^ k * (X * val B18 (ys.take (j + 1))) = B18 ^ k * (X * val B18 (ys.take j)) + B18 ^ (k + j) * (X * ys.getD j 0) := by
    rw [val_take_succ, Nat.mul_add, Nat.mul_add, Nat.pow_add, Nat.mul_left_comm X, Nat.mul_assoc (B18 ^ k)]
  omega
theorem mul_close {xs ys zs : List Nat} {k u : Nat} (hz : k + ys.length < zs.length) (h0 : zs.getD (k + ys.length) 0 = 0)
    (h : val B18 zs + B18 ^ (k + ys.length) * u = val B18 (xs.take k) * val B18 ys + B18 ^ k * (xs.getD k 0 * val B18 (ys.take ys.length))) :
    val B18 (zs.set (k + ys.length) u) = val B18 (xs.take (k + 1)) * val B18 ys := by
  have h1 := val_set (b := B18) zs (k + ys.length) u hz
  rw [h0, Nat.mul_zero, Nat.add_zero] at h1
  rw [h1, h, List.take_length, val_take_succ, Nat.add_mul, Nat.mul_assoc]

def ThreeB (w : World) (n1 n2 : Bool) (A B : Option Addr) (c d : Nat) (xs ys : List Nat) (b : World) : Prop :=
  Two w n1 n2 A B c d xs ys b ∧ (b.cell? ⟨w.heap.size + 1 + 1, 0, none⟩ = some (.bool false) ∧ b.cell? ⟨w.heap.size + 1 + 1, 1, none⟩ = some (.slice none 0 0) ∧ b.frozen? ⟨w.heap.size + 1 + 1, 0, none⟩ = false ∧ b.frozen? ⟨w.heap.size + 1 + 1, 1, none⟩ = false)
def threeB (w : World) (n1 n2 : Bool) (A B : Option Addr) (c d : Nat) (xs ys : List Nat) : World := (two w n1 n2 A B c d xs ys).alloc (.cells #[.bool false, .slice none 0 0] 24)
theorem threeB_below (w : World) (n1 n2 : Bool) (A B : Option Addr) (c d : Nat) (xs ys : List Nat) : Below w.heap.size w (threeB w n1 n2 A B c d xs ys) :=
  (two_below w n1 n2 A B c d xs ys).alloc (two_below w n1 n2 A B c d xs ys).size _
theorem threeB_size (w : World) (n1 n2 : Bool) (A B : Option Addr) (c d : Nat) (xs ys : List Nat) : (threeB w n1 n2 A B c d xs ys).heap.size = w.heap.size + 3 := by simp [threeB, two]
theorem threeB_since {w b : World} {n1 n2 : Bool} {A B : Option Addr} {c d : Nat} {xs ys : List Nat} (hx : Nums w A xs) (hy : Nums w B ys) (hb : Below (threeB w n1 n2 A B c d xs ys).heap.size (threeB w n1 n2 A B c d xs ys) b) : ThreeB w n1 n2 A B c d xs ys b := by
  have k : Below (two w n1 n2 A B c d xs ys).heap.size (two w n1 n2 A B c d xs ys) (threeB w n1 n2 A B c d xs ys) := (Below.refl _ _).alloc (Nat.le_refl _) _
  have Z : Blk (threeB w n1 n2 A B c d xs ys) (w.heap.size + 1 + 1) 24 #[.bool false, .slice none 0 0] := Blk.newAt (by simp [two])
  exact ⟨two_since hx hy (below_on k hb), (Z.below hb Z.lt).two⟩

section
variable (n1 n2 : Bool) (A B : Option Addr) (c d : Nat) (xs ys : List Nat) (w : World)
set_option maxRecDepth 100000
set_option maxHeartbeats 1000000 in
theorem mul_bad (hx : Nums w A xs) (hy : Nums w B ys) (hl : xs.length ≤ 9223372036854775807) (hl' : ys.length ≤ 9223372036854775807) (hok : (goodB n1 xs && goodB n2 ys) = false) :
    Calls Tryd.prog 36 #[.agg #[.bool n1, .slice A xs.length c], .agg #[.bool n2, .slice B ys.length d]] w (RetBigErr w 0 3) := by
  obtain ⟨W0, hW0⟩ : ∃ W0, W0 = threeB w n1 n2 A B c d xs ys := ⟨_, rfl⟩
  have LW : Below w.heap.size w W0 := by rw [hW0]; exact threeB_below ..
  have HWs : Hid (W0.heap.size = w.heap.size + 3) := by rw [hW0]; exact threeB_size ..
  have HF : Hid (∀ b1, Below W0.heap.size W0 b1 → ThreeB w n1 n2 A B c d xs ys b1) := fun b1 hb => by rw [hW0] at hb; exact threeB_since hx hy hb
  have hg1 := fun w hx => good_any n1 c w A xs hl hx
  have hg2 := fun w hy => good_any n2 d w B ys hl' hy
  clear hx hy
  unfold threeB two at hW0
  have L : Below W0.heap.size W0 W0 := Below.refl _ _
  obtain ⟨⟨⟨x0, x1, y0, y1⟩, hx, hy⟩, r0, r1, r2, r3⟩ := HF.out _ L
  go_enter Tryd.func36, Tryd.ntmps36
  cases h1 : goodB n1 xs
  · rw [h1] at hg1
    clear hok h1
    go_upto_region 1 with fail
    rw [← hW0]
    clear hW0
    go_wp2_with (go_at_call 19; refine (hg1 _ hx).mono ?_; rintro e w1 ⟨rfl, hb⟩; have L := below_on L hb; clear x0 x1 y0 y1 hx hy r0 r1 r2 r3 hb; obtain ⟨⟨⟨x0, x1, y0, y1⟩, hx, hy⟩, r0, r1, r2, r3⟩ := HF.out _ L)
    refine bodyPost_ret (v := .tuple #[.agg #[.bool false, .slice none 0 0], .int .i64 3]) (by simp [results, Tryd.results36, go_sem, r0, r1]) rfl ?_
    exact fin_zero (LW.trans (L.mono LW.size)) (by omega) _ _
  · rw [h1, Bool.true_and] at hok
    rw [h1] at hg1
    rw [hok] at hg2
    clear hok h1
    go_upto_region 1 with fail
    rw [← hW0]
    clear hW0
    go_wp2_with (go_at_call 19; refine (hg1 _ hx).mono ?_; rintro e w1 ⟨rfl, hb⟩; have L := below_on L hb; clear x0 x1 y0 y1 hx hy r0 r1 r2 r3 hb; obtain ⟨⟨⟨x0, x1, y0, y1⟩, hx, hy⟩, r0, r1, r2, r3⟩ := HF.out _ L; refine Hid.out ?_)
    refine Lib.hid ?_
    go_wp2_with (go_at_call 19; refine (hg2 _ hy).mono ?_; rintro e w1 ⟨rfl, hb⟩; have L := below_on L hb; clear x0 x1 y0 y1 hx hy r0 r1 r2 r3 hb; obtain ⟨⟨⟨x0, x1, y0, y1⟩, hx, hy⟩, r0, r1, r2, r3⟩ := HF.out _ L)
    refine bodyPost_ret (v := .tuple #[.agg #[.bool false, .slice none 0 0], .int .i64 3]) (by simp [results, Tryd.results36, go_sem, r0, r1]) rfl ?_
    exact fin_zero (LW.trans (L.mono LW.size)) (by omega) _ _

theorem mul_bound {p z u : Int} (p0 : 0 ≤ p) (p1 : p ≤ 999999999999999999 * 999999999999999999) (z0 : 0 ≤ z) (z1 : z < 1000000000000000000) (u0 : 0 ≤ u) (u1 : u < 1000000000000000000) :
    0 ≤ p / 18446744073709551616 ∧ p / 18446744073709551616 < 1000000000000000000 ∧
    (p / 18446744073709551616 + (p % 18446744073709551616 + z) / 18446744073709551616 + ((p % 18446744073709551616 + z) % 18446744073709551616 + u) / 18446744073709551616) * 18446744073709551616 + ((p % 18446744073709551616 + z) % 18446744073709551616 + u) % 18446744073709551616 = p + z + u ∧
    (p + z + u) / 1000000000000000000 < 1000000000000000000 ∧
    p / 18446744073709551616 + (p % 18446744073709551616 + z) / 18446744073709551616 + ((p % 18446744073709551616 + z) % 18446744073709551616 + u) / 18446744073709551616 < 1000000000000000000 := by
  refine ⟨by omega, by omega, by omega, by omega, by omega⟩
theorem val_rep (b n : Nat) : val b (List.replicate n 0) = 0 := by
  induction n with
  | zero => rfl
  | succ n ih => rw [List.replicate_succ, val, ih]; simp
theorem mul64_int (x y : Int) (h0 : 0 ≤ x) (h1 : x < 18446744073709551616) (k0 : 0 ≤ y) (k1 : y < 18446744073709551616) (w : World) :
    Calls Tryd.prog 60 #[.int .u64 x, .int .u64 y] w fun e w' => e = .returned (.tuple #[.int .u64 (x * y / 18446744073709551616), .int .u64 (x * y % 18446744073709551616)]) ∧ w' = w := by
  obtain ⟨a, rfl⟩ := Int.eq_ofNat_of_zero_le h0
  obtain ⟨b, rfl⟩ := Int.eq_ofNat_of_zero_le k0
  refine (mul64_any a b (by omega) (by omega) w).mono fun e w' h => ?_
  obtain ⟨rfl, rfl⟩ := h
  rw [← Int.natCast_mul]
  exact ⟨by congr 1, rfl⟩
theorem nth_mul_le {xs ys : List Nat} (hs : small B18 xs) (ht : small B18 ys) (k j : Nat) : 0 ≤ nth xs k * nth ys j ∧ nth xs k * nth ys j ≤ 999999999999999999 * 999999999999999999 := by
  have a0 := nth_nonneg xs k; have b0 := nth_nonneg ys j
  have a1 := nth_lt (by unfold B18; omega) hs k; have b1 := nth_lt (by unfold B18; omega) ht j
  rw [B18_eq] at a1 b1
  refine ⟨Int.mul_nonneg a0 b0, Int.mul_le_mul (by omega) (by omega) b0 (by omega)⟩
set_option maxHeartbeats 2000000 in
theorem mul_good (hx : Nums w A xs) (hy : Nums w B ys) (hg : goodB n1 xs = true) (hk : goodB n2 ys = true) :
    Calls Tryd.prog 36 #[.agg #[.bool n1, .slice A xs.length c], .agg #[.bool n2, .slice B ys.length d]] w (RetBigErr w (outV true (num n1 xs * num n2 ys)) (outE true (num n1 xs * num n2 ys))) := by
  obtain ⟨hs, _, hl, _⟩ := good_parts hg
  obtain ⟨ht, _, hl', _⟩ := good_parts hk
  have hprod : ∀ v, v = val B18 xs * val B18 ys → sgn (n1 != n2) v = num n1 xs * num n2 ys := fun v hv => by
    rw [hv, num_eq, num_eq]; unfold sgn; cases n1 <;> cases n2 <;> simp [Int.natCast_mul, Int.neg_mul, Int.mul_neg]
  have HP := Lib.hid hprod; have HS := Lib.hid hs; have HT := Lib.hid ht
  obtain ⟨q, hq⟩ : ∃ q, q = num n1 xs * num n2 ys := ⟨_, rfl⟩
  rw [← hq] at HP ⊢
  obtain ⟨W0, hW0⟩ : ∃ W0, W0 = threeB w n1 n2 A B c d xs ys := ⟨_, rfl⟩
  have LW : Below w.heap.size w W0 := by rw [hW0]; exact threeB_below ..
  have HWs : Hid (W0.heap.size = w.heap.size + 3) := by rw [hW0]; exact threeB_size ..
  have HF : Hid (∀ b1, Below W0.heap.size W0 b1 → ThreeB w n1 n2 A B c d xs ys b1) := fun b1 hb => by rw [hW0] at hb; exact threeB_since hx hy hb
  have hg1 := fun w hx => good_any n1 c w A xs (by omega) hx
  have hg2 := fun w hy => good_any n2 d w B ys (by omega) hy
  rw [hg] at hg1
  rw [hk] at hg2
  clear hx hy hq hprod hs ht hg hk
  unfold threeB two at hW0
  have L : Below W0.heap.size W0 W0 := Below.refl _ _
  obtain ⟨⟨⟨x0, x1, y0, y1⟩, hx, hy⟩, r0, r1, r2, r3⟩ := HF.out _ L
  go_enter Tryd.func36, Tryd.ntmps36
  go_upto_region 1 with fail
  rw [← hW0]
  clear hW0
  go_wp2_with (go_at_call 19; refine (hg1 _ hx).mono ?_; rintro e w1 ⟨rfl, hb⟩; have L := below_on L hb; clear x0 x1 y0 y1 hx hy r0 r1 r2 r3 hb; obtain ⟨⟨⟨x0, x1, y0, y1⟩, hx, hy⟩, r0, r1, r2, r3⟩ := HF.out _ L; refine Hid.out ?_)
  refine Lib.hid ?_
  go_wp2_with (go_at_call 19; refine (hg2 _ hy).mono ?_; rintro e w1 ⟨rfl, hb⟩; have L := below_on L hb; clear x0 x1 y0 y1 hx hy r0 r1 r2 r3 hb; obtain ⟨⟨⟨x0, x1, y0, y1⟩, hx, hy⟩, r0, r1, r2, r3⟩ := HF.out _ L; refine Hid.out ?_)
  refine Lib.hid ?_
  clear hg1 hg2
  obtain ⟨N, hN⟩ : ∃ N : Nat, N = xs.length + ys.length + 1 := ⟨_, rfl⟩
  have hmk := make64 N (by omega)
  have hNi : ((xs.length : Int) + (ys.length : Int) + 1) = (N : Int) := by omega
  have HN := Lib.hid hN
  have hNb : N ≤ 61 := by omega
  clear hN
  go_upto_region 4 with fail
  obtain ⟨g, hg⟩ : ∃ g, g = w1.heap.size := ⟨_, rfl⟩
  obtain ⟨W1, hW1⟩ : ∃ W1, W1 = w1.alloc (.cells (madeCells #[.int .u64 0] N) 63) := ⟨_, rfl⟩
  have k1 : Below w1.heap.size w1 W1 := by rw [hW1]; exact (Below.refl _ _).alloc (Nat.le_refl _) _
  have hrow : Row W1 g N (List.replicate N 0) := by
    have h := (Row.made w1 N).fill
    rw [← hW1, ← hg] at h
    simpa using h
  have hWg : W1.heap.size = g + 1 := by rw [hW1, hg]; simp
  have hgW : W0.heap.size ≤ g := by rw [hg]; exact L.size
  have L := below_on L k1
  rw [← hg, ← hW1]
  clear x0 x1 y0 y1 hx hy r0 r1 r2 r3 hmk hNi hg hW1 k1
  obtain ⟨⟨⟨x0, x1, y0, y1⟩, hx, hy⟩, r0, r1, r2, r3⟩ := HF.out _ L
  go_wp2_with fail
  clear x0 x1 y0 y1 hx hy r0 r1 r2 r3
  go_loopw [34] (fun iv wr => ∃ (k : Nat) (zs : List Nat), k ≤ xs.length ∧ iv = .int .i64 k ∧ Row wr g N zs ∧ zs.length = N ∧ small B18 zs ∧ Hid (val B18 zs = val B18 (xs.take k) * val B18 ys) ∧ Hid (∀ p, k + ys.length ≤ p → nth zs p = 0) ∧ Below W0.heap.size W0 wr) (fun iv _ => xs.length - (intOf iv).toNat)
  case atStart => exact ⟨0, List.replicate N 0, by omega, rfl, hrow, by simp, by intro x hx; rw [List.eq_of_mem_replicate hx]; unfold B18; omega, by show _ = _; rw [val_rep, List.take_zero]; simp [val], fun p _ => nth_replicate _ _, L⟩
  case round =>
    obtain ⟨k, zs, hk, rfl, hrw, hzl, hzs, HV, HZ, hbel⟩ := hrel
    obtain ⟨⟨⟨x0, x1, y0, y1⟩, hx, hy⟩, r0, r1, r2, r3⟩ := HF.out _ hbel
    by_cases hkn : k < xs.length
    · obtain ⟨wo, rfl⟩ : ∃ wo : World, wo = wr := ⟨_, rfl⟩
      have hm1 : (k : Int) < (xs.length : Int) := by omega
      have HX0 : Hid (val B18 zs + B18 ^ (k + 0) * (0 : Int).toNat = val B18 (xs.take k) * val B18 ys + B18 ^ k * (xs.getD k 0 * val B18 (ys.take 0))) := by
        show _ = _; rw [HV.out]; simp [val]
      go_wp2_with fail
      clear x0 x1 y0 y1 hx hy r0 r1 r2 r3
      go_loopw [8, 40] (fun cv jv wi => ∃ (j : Nat) (u : Int) (qs : List Nat), j ≤ ys.length ∧ jv = .int .i64 j ∧ cv = .int .u64 u ∧ 0 ≤ u ∧ u < 1000000000000000000 ∧ Row wi g N qs ∧ qs.length = N ∧ small B18 qs ∧
          Hid (val B18 qs + B18 ^ (k + j) * u.toNat = val B18 (xs.take k) * val B18 ys + B18 ^ k * (xs.getD k 0 * val B18 (ys.take j))) ∧ Hid (∀ p, k + ys.length ≤ p → nth qs p = 0) ∧ Below W0.heap.size W0 wi) (fun _ jv _ => ys.length - (intOf jv).toNat)
      case atStart => exact ⟨0, 0, zs, by omega, rfl, rfl, by omega, by omega, hrw, hzl, hzs, HX0, HZ, hbel⟩
      case round =>
        obtain ⟨j, u, qs, hj, rfl, rfl, hu0, hu1, hrq, hql, hqs, HQ, HZ2, hbel2⟩ := hrel
        obtain ⟨⟨⟨x0, x1, y0, y1⟩, hx, hy⟩, r0, r1, r2, r3⟩ := HF.out _ hbel2
        by_cases hjn : j < ys.length
        · have hN1 := HN.out
          obtain ⟨b, o, rfl, hb, hc⟩ := hx.2 (by omega)
          obtain ⟨b', o', rfl, hb', hc'⟩ := hy.2 (by omega)
          have hcx := hc k hkn
          have hcy := hc' j hjn
          have hcz := hrq.cell (j := k + j) (by omega)
          have hm2 : (j : Int) < (ys.length : Int) := by omega
          have hk0 : (0 : Int) ≤ (k : Int) := by omega
          have hj0 : (0 : Int) ≤ (j : Int) := by omega
          have hnx := nth_nonneg xs k; have hny := nth_nonneg ys j; have hnz := nth_nonneg qs (k + j)
          have hlx := nth_lt (by unfold B18; omega) HS.out k; have hly := nth_lt (by unfold B18; omega) HT.out j; have hlz := nth_lt (by unfold B18; omega) hqs (k + j)
          rw [B18_eq] at hlx hly hlz
          obtain ⟨p0, p1⟩ := nth_mul_le HS.out HT.out k j
          obtain ⟨P, hP⟩ : ∃ P, P = nth xs k * nth ys j := ⟨_, rfl⟩
          rw [← hP] at p0 p1
          obtain ⟨m1, m2, m3, m4, m5⟩ := mul_bound p0 p1 hnz hlz hu0 hu1
          have hmul := fun w => mul64_int (nth xs k) (nth ys j) hnx (by omega) hny (by omega) w
          rw [← hP] at hmul
          obtain ⟨h0, hh0⟩ : ∃ h0, h0 = P / 18446744073709551616 := ⟨_, rfl⟩
          obtain ⟨l0, hl0⟩ : ∃ l0, l0 = P % 18446744073709551616 := ⟨_, rfl⟩
          rw [← hh0, ← hl0] at hmul
          obtain ⟨l1, hl1⟩ : ∃ l1, l1 = (l0 + nth qs (k + j)) % 18446744073709551616 := ⟨_, rfl⟩
          obtain ⟨c1, hc1⟩ : ∃ c1, c1 = (l0 + nth qs (k + j)) / 18446744073709551616 := ⟨_, rfl⟩
          obtain ⟨l2, hl2⟩ : ∃ l2, l2 = (l1 + u) % 18446744073709551616 := ⟨_, rfl⟩
          obtain ⟨c2, hc2⟩ : ∃ c2, c2 = (l1 + u) / 18446744073709551616 := ⟨_, rfl⟩
          have b1 : 0 ≤ l0 := by omega
          have b2 : 0 ≤ l1 := by omega
          have b3 : 0 ≤ l2 ∧ l2 < 18446744073709551616 := by omega
          have b4 : 0 ≤ c1 := by omega
          have b5 : 0 ≤ c2 := by omega
          have ha1 : ∀ w, (callFunc 61 #[.int .u64 l0, .int .u64 (nth qs (k + j)), .int .u64 0]).run Tryd.prog w = .ok (.value (.tuple #[.int .u64 l1, .int .u64 c1])) w := fun w => by rw [add64_run l0 _ b1 hnz, hl1, hc1]
          have ha2 : ∀ w, (callFunc 61 #[.int .u64 l1, .int .u64 u, .int .u64 0]).run Tryd.prog w = .ok (.value (.tuple #[.int .u64 l2, .int .u64 c2])) w := fun w => by rw [add64_run l1 _ b2 hu0, hl2, hc2]
          rw [← hh0, ← hl0, ← hl1, ← hc1, ← hl2, ← hc2] at m3
          rw [← hh0, ← hl0, ← hl1, ← hc1, ← hc2] at m5
          rw [← hh0] at m1 m2
          have hdv := fun w => div64_base (h0 + c1 + c2) l2 (by omega) m5 b3.1 b3.2 w
          rw [m3] at hdv
          obtain ⟨T, hT⟩ : ∃ T, T = P + nth qs (k + j) + u := ⟨_, rfl⟩
          rw [← hT] at hdv m4
          obtain ⟨Q, hQ⟩ : ∃ Q, Q = T / 1000000000000000000 := ⟨_, rfl⟩
          obtain ⟨R, hR⟩ : ∃ R, R = T % 1000000000000000000 := ⟨_, rfl⟩
          rw [← hQ, ← hR] at hdv
          rw [← hQ] at m4
          have hQ0 : 0 ≤ Q := by omega
          have hR0 : 0 ≤ R := by omega
          have hR1 : R < 1000000000000000000 := by omega
          have HST : Hid (val B18 (qs.set (k + j) R.toNat) + B18 ^ (k + (j + 1)) * Q.toNat = val B18 (xs.take k) * val B18 ys + B18 ^ k * (xs.getD k 0 * val B18 (ys.take (j + 1)))) := by
            have hTn : T.toNat = xs.getD k 0 * ys.getD j 0 + qs.getD (k + j) 0 + u.toNat := by
              have e1 : P = ((xs.getD k 0 * ys.getD j 0 : Nat) : Int) := by rw [hP]; unfold nth; rw [← Int.natCast_mul]
              have e2 : nth qs (k + j) = ((qs.getD (k + j) 0 : Nat) : Int) := by unfold nth; rfl
              rw [hT, e1, e2]; omega
            have h := mul_step (zs := qs) (k := k) (j := j) (ys := ys) (by omega) HQ.out hTn
            have e3 : R.toNat = T.toNat % B18 := by rw [hR]; unfold B18; omega
            have e4 : Q.toNat = T.toNat / B18 := by rw [hQ]; unfold B18; omega
            show _ = _; rw [e3, e4]; exact h
          have hfz := hrq.frozen (k + j)
          have hkj : (k : Int) + (j : Int) < (N : Int) := by omega
          have hkj0 : (0 : Int) ≤ (k : Int) + (j : Int) := by omega
          have hw64 : IntKind.i64.wrap ((k : Int) + (j : Int)) = (k : Int) + (j : Int) := IntWalk.i64_in _ (by omega)
          clear hc hc' hP hh0 hl0 hl1 hc1 hl2 hc2 hT hQ hR m3 hN1 p0 p1
          go_wp2_with fail
          go_quiet ((go_at_call 60; exact Calls.quiet_of_same (hmul _)))
          go_wp2_with (go_at_call 62; refine (hdv _).mono ?_; rintro e w' ⟨rfl, nd, rfl⟩)
          go_roundw
          case rel => exact ⟨j + 1, Q, qs.set (k + j) R.toNat, by omega, by go_num, rfl, hQ0, m4, by first | exact (hrq.drewN _).setInt R hR0 (by omega) | exact ((hrq.drewN _).drewN _).setInt R hR0 (by omega), by rw [List.length_set]; exact hql, small_set hqs _ _ (by unfold B18; omega), HST,
            fun p hp => by rw [nth_set _ _ _ (by omega), if_neg (by omega)]; exact HZ2.out p hp, by first | exact (below_drewN hbel2 _).setCell hgW _ | exact (below_drewN (below_drewN hbel2 _) _).setCell hgW _⟩
          case measure => simp [intOf]; omega
        · obtain rfl : j = ys.length := by omega
          have hN1 := HN.out
          have hcz := hrq.cell (j := k + ys.length) (by omega)
          have hz0 : nth qs (k + ys.length) = 0 := HZ2.out _ (Nat.le_refl _)
          rw [hz0] at hcz
          have hfz := hrq.frozen (k + ys.length)
          have hm2 : ¬ (ys.length : Int) < (ys.length : Int) := by omega
          have hkj : (k : Int) + (ys.length : Int) < (N : Int) := by omega
          have hkj0 : (0 : Int) ≤ (k : Int) + (ys.length : Int) := by omega
          have hw64 : IntKind.i64.wrap ((k : Int) + (ys.length : Int)) = (k : Int) + (ys.length : Int) := IntWalk.i64_in _ (by omega)
          have hlq : k + ys.length < qs.length := by omega
          have HCL : Hid (val B18 (qs.set (k + ys.length) u.toNat) = val B18 (xs.take (k + 1)) * val B18 ys) := mul_close hlq (by unfold nth at hz0; omega) HQ.out
          clear hz0 hN1
          go_wp2_with fail
          go_roundw
          case rel => exact ⟨k + 1, qs.set (k + ys.length) u.toNat, by omega, by go_num, hrq.setInt u hu0 hlq, by rw [List.length_set]; exact hql, small_set hqs _ _ (by unfold B18; omega), HCL,
            fun p hp => by rw [nth_set _ _ _ hlq, if_neg (by omega)]; exact HZ2.out p (by omega), hbel2.setCell hgW _⟩
          case measure => simp [intOf]; omega
    · obtain rfl : k = xs.length := by omega
      have hm1 : ¬ (xs.length : Int) < (xs.length : Int) := by omega
      have hnum := hrw.nums hzl (small64 hzs)
      have hfit := fun w h => fits_out (n1 != n2) (some ⟨g, 0, none⟩) N zs w h hzs (by omega)
      have hval : sgn (n1 != n2) (val B18 zs) = q := HP.out _ (by rw [HV.out, List.take_length])
      rw [hval, hzl] at hfit
      clear hval
      go_wp2_with (go_at_call 56; refine (hfit _ hnum).mono ?_; rintro e w4 ⟨A4, c4, rfl, hown4, hb4⟩; have LB := hbel.trans (hb4.mono hbel.size); clear x0 x1 y0 y1 hx hy r0 r1 r2 r3; obtain ⟨⟨⟨x0, x1, y0, y1⟩, hx, hy⟩, r0, r1, r2, r3⟩ := HF.out _ LB)
      refine bodyPost_ret (v := .tuple #[.agg #[.bool (decide (outV true q < 0)), .slice A4 (limbs (outV true q)).length c4], .int .i64 (outE true q)]) (by simp [results, Tryd.results36, go_sem, r0, r1]) rfl ?_
      exact fin_big hown4 (LW.trans (LB.mono LW.size)) (by omega) (by have := HWs.out; have := hbel.size; omega) _ _
theorem mul_any (hx : Nums w A xs) (hy : Nums w B ys) (hl : xs.length ≤ 9223372036854775807) (hl' : ys.length ≤ 9223372036854775807) :
    Calls Tryd.prog 36 #[.agg #[.bool n1, .slice A xs.length c], .agg #[.bool n2, .slice B ys.length d]] w
      (RetBigErr w (outV (goodB n1 xs && goodB n2 ys) (num n1 xs * num n2 ys)) (outE (goodB n1 xs && goodB n2 ys) (num n1 xs * num n2 ys))) := by
  cases h : (goodB n1 xs && goodB n2 ys)
  · rw [outV_bad, outE_bad]; exact mul_bad n1 n2 A B c d xs ys w hx hy hl hl' h
  · obtain ⟨hg, hk⟩ := Bool.and_eq_true_iff.1 h
    exact mul_good n1 n2 A B c d xs ys w hx hy hg hk
end
end Go.Proofs.YteggjfmcpodepaaDoor

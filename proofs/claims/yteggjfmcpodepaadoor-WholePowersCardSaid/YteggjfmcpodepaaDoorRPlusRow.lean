/- The walks of the reference's plus and minus: rows of digits added and subtracted. -/
import Derived.Test.YteggjfmcpodepaaDoorROf
namespace Go.Proofs.YteggjfmcpodepaaDoor
open Go.RowKit

theorem add_step (m n k : Nat) :
    ((m % 10 ^ k + n % 10 ^ k) / 10 ^ k + m / 10 ^ k % 10 + n / 10 ^ k % 10) % 10 = (m + n) / 10 ^ k % 10 ∧
    ((m % 10 ^ k + n % 10 ^ k) / 10 ^ k + m / 10 ^ k % 10 + n / 10 ^ k % 10) / 10 = (m % 10 ^ (k + 1) + n % 10 ^ (k + 1)) / 10 ^ (k + 1) := by
  have hp : 0 < 10 ^ k := Nat.pow_pos (by decide)
  have e : (m + n) / 10 ^ k = m / 10 ^ k + n / 10 ^ k + (m % 10 ^ k + n % 10 ^ k) / 10 ^ k := by
    have h1 := Nat.div_add_mod m (10 ^ k)
    have h2 := Nat.div_add_mod n (10 ^ k)
    have h3 : m + n = (m % 10 ^ k + n % 10 ^ k) + 10 ^ k * (m / 10 ^ k + n / 10 ^ k) := by rw [Nat.mul_add]; omega
    rw [h3, Nat.add_mul_div_left _ _ hp]
    omega
  have e2 : (m % 10 ^ (k + 1) + n % 10 ^ (k + 1)) = (m % 10 ^ k + n % 10 ^ k) + 10 ^ k * (m / 10 ^ k % 10 + n / 10 ^ k % 10) := by
    rw [Nat.pow_succ, Nat.mod_mul, Nat.mod_mul, Nat.mul_add]; omega
  constructor
  · rw [e]; omega
  · rw [e2, Nat.pow_succ, ← Nat.div_div_eq_div_mul, Nat.add_mul_div_left _ _ hp]
    congr 1
    omega
/-- What is borrowed of the places from k on. -/
def bor (m n k : Nat) : Nat := if m % 10 ^ k < n % 10 ^ k then 1 else 0
theorem bor_le (m n k : Nat) : bor m n k ≤ 1 := by unfold bor; split <;> omega
theorem sub_div (P m n : Nat) (hp : 0 < P) (h : n ≤ m) : (m - n) / P + n / P + (if m % P < n % P then 1 else 0) = m / P := by
  have h1 := Nat.div_add_mod m P
  have h2 := Nat.div_add_mod n P
  have h3 := Nat.mod_lt m hp
  have h4 := Nat.mod_lt n hp
  generalize m / P = M at *
  generalize n / P = N at *
  generalize m % P = m0 at *
  generalize n % P = n0 at *
  by_cases hb : m0 < n0
  · rw [if_pos hb]
    have hN : N < M := by
      rcases Nat.lt_or_ge N M with h5 | h5
      · exact h5
      · have := Nat.mul_le_mul_left P h5; omega
    obtain ⟨D, rfl⟩ : ∃ D, M = N + 1 + D := ⟨M - (N + 1), by omega⟩
    have e : m - n = (P + m0 - n0) + P * D := by
      have : P * (N + 1 + D) = P * N + P + P * D := by rw [Nat.mul_add, Nat.mul_add, Nat.mul_one]
      omega
    rw [e, Nat.add_mul_div_left _ _ hp, Nat.div_eq_of_lt (by omega)]
    omega
  · rw [if_neg hb]
    have hN : N ≤ M := by
      rcases Nat.lt_or_ge M N with h5 | h5
      · have := Nat.mul_le_mul_left P h5
        rw [Nat.mul_succ] at this
        omega
      · exact h5
    obtain ⟨D, rfl⟩ : ∃ D, M = N + D := ⟨M - N, by omega⟩
    have e : m - n = (m0 - n0) + P * D := by
      have : P * (N + D) = P * N + P * D := by rw [Nat.mul_add]
      omega
    rw [e, Nat.add_mul_div_left _ _ hp, Nat.div_eq_of_lt (by omega)]
    omega
theorem sub_step (m n k : Nat) (h : n ≤ m) :
    (m / 10 ^ k % 10 + 10 - bor m n k - n / 10 ^ k % 10) % 10 = (m - n) / 10 ^ k % 10 ∧ 1 - (m / 10 ^ k % 10 + 10 - bor m n k - n / 10 ^ k % 10) / 10 = bor m n (k + 1) ∧
    n / 10 ^ k % 10 + bor m n k ≤ m / 10 ^ k % 10 + 10 := by
  have hp : 0 < 10 ^ k := Nat.pow_pos (by decide)
  have e1 := sub_div (10 ^ k) m n hp h
  have hb := bor_le m n k
  refine ⟨?_, ?_, by omega⟩
  · unfold bor at hb ⊢
    generalize (if m % 10 ^ k < n % 10 ^ k then 1 else 0) = c at *
    omega
  · have hm : m % 10 ^ (k + 1) = m % 10 ^ k + 10 ^ k * (m / 10 ^ k % 10) := by rw [Nat.pow_succ, Nat.mod_mul]
    have hn : n % 10 ^ (k + 1) = n % 10 ^ k + 10 ^ k * (n / 10 ^ k % 10) := by rw [Nat.pow_succ, Nat.mod_mul]
    have h3 := Nat.mod_lt m hp
    have h4 := Nat.mod_lt n hp
    have ha : m / 10 ^ k % 10 < 10 := Nat.mod_lt _ (by decide)
    have hb' : n / 10 ^ k % 10 < 10 := Nat.mod_lt _ (by decide)
    unfold bor
    rw [hm, hn]
    generalize m / 10 ^ k % 10 = a at *
    generalize n / 10 ^ k % 10 = b at *
    generalize m % 10 ^ k = m0 at *
    generalize n % 10 ^ k = n0 at *
    generalize 10 ^ k = P at *
    rcases Nat.lt_trichotomy a b with hab | hab | hab
    · have : P * (a + 1) ≤ P * b := Nat.mul_le_mul_left P hab
      rw [Nat.mul_add, Nat.mul_one] at this
      rw [if_pos (by omega : m0 + P * a < n0 + P * b)]
      split <;> omega
    · subst hab
      by_cases hc : m0 < n0
      · rw [if_pos hc, if_pos (by omega)]; omega
      · rw [if_neg hc, if_neg (by omega)]; omega
    · have : P * (b + 1) ≤ P * a := Nat.mul_le_mul_left P hab
      rw [Nat.mul_add, Nat.mul_one] at this
      rw [if_neg (by omega : ¬ m0 + P * a < n0 + P * b)]
      split <;> omega
theorem natAbs_past {i : Int} {k : Nat} (h : (tens i).length ≤ k) : i.natAbs / 10 ^ k = 0 := by
  rw [tens_eq] at h
  exact Nat.div_eq_of_lt ((digs_length_le (by decide) _ _).1 h)
/-- What a call that answers digits leaves. -/
def RetTens (W : World) (i : Int) (e : Ending) (w' : World) : Prop := ∃ A c, e = .returned (.slice A (tens i).length c) ∧ Own8 w' W.heap.size A c (tens i) ∧ Below W.heap.size W w'
theorem plus_step (i j : Int) (k : Nat) {cv s : Int} (hc : cv = (((i.natAbs % 10 ^ k + j.natAbs % 10 ^ k) / 10 ^ k : Nat) : Int)) (hs : s = cv + nth (tens i) k + nth (tens j) k) :
    pad k (i.natAbs + j.natAbs) ++ [(s % 10).toNat] = pad (k + 1) (i.natAbs + j.natAbs) ∧ s / 10 = (((i.natAbs % 10 ^ (k + 1) + j.natAbs % 10 ^ (k + 1)) / 10 ^ (k + 1) : Nat) : Int) := by
  obtain ⟨h1, h2⟩ := add_step i.natAbs j.natAbs k
  rw [nth_tens, nth_tens] at hs
  rw [pad_snoc, ← h1, ← h2]
  subst hc; subst hs
  refine ⟨?_, by omega⟩
  congr 2
theorem carry_le (m n k : Nat) : (m % 10 ^ k + n % 10 ^ k) / 10 ^ k ≤ 1 := by
  have hp : 0 < 10 ^ k := Nat.pow_pos (by decide)
  have h3 := Nat.mod_lt m hp
  have h4 := Nat.mod_lt n hp
  rw [Nat.div_le_iff_le_mul_add_pred hp]
  omega
theorem plus_end (i j : Int) (k : Nat) {cv : Int} (hc : cv = (((i.natAbs % 10 ^ k + j.natAbs % 10 ^ k) / 10 ^ k : Nat) : Int)) (h1 : (tens i).length ≤ k) (h2 : (tens j).length ≤ k) :
    pad k (i.natAbs + j.natAbs) ++ [cv.toNat] = pad (k + 1) (i.natAbs + j.natAbs) ∧ val 10 (pad (k + 1) (i.natAbs + j.natAbs)) = i.natAbs + j.natAbs := by
  have a1 := natAbs_past h1
  have a2 := natAbs_past h2
  obtain ⟨h3, _⟩ := add_step i.natAbs j.natAbs k
  rw [a1, a2] at h3
  have hcl := carry_le i.natAbs j.natAbs k
  constructor
  · rw [pad_snoc, ← h3]
    generalize (i.natAbs % 10 ^ k + j.natAbs % 10 ^ k) / 10 ^ k = q at *
    subst hc
    congr 2
    omega
  · rw [pad_val]
    have hp : 0 < 10 ^ k := Nat.pow_pos (by decide)
    have b1 : i.natAbs < 10 ^ k := by
      rcases Nat.lt_or_ge i.natAbs (10 ^ k) with h | h
      · exact h
      · have := Nat.div_pos h hp; omega
    have b2 : j.natAbs < 10 ^ k := by
      rcases Nat.lt_or_ge j.natAbs (10 ^ k) with h | h
      · exact h
      · have := Nat.div_pos h hp; omega
    exact Nat.mod_eq_of_lt (by rw [Nat.pow_succ]; omega)
theorem minus_step (i j : Int) (k : Nat) (h : j.natAbs ≤ i.natAbs) {cv s : Int} (hc : cv = ((bor i.natAbs j.natAbs k : Nat) : Int)) (hs : s = nth (tens i) k + 10 - cv - nth (tens j) k) :
    pad k (i.natAbs - j.natAbs) ++ [(s % 10).toNat] = pad (k + 1) (i.natAbs - j.natAbs) ∧ 1 - s / 10 = ((bor i.natAbs j.natAbs (k + 1) : Nat) : Int) ∧ 0 ≤ s := by
  obtain ⟨h1, h2, h3⟩ := sub_step i.natAbs j.natAbs k h
  have hb := bor_le i.natAbs j.natAbs k
  rw [nth_tens, nth_tens] at hs
  rw [pad_snoc, ← h1, ← h2]
  have e : s = ((i.natAbs / 10 ^ k % 10 + 10 - bor i.natAbs j.natAbs k - j.natAbs / 10 ^ k % 10 : Nat) : Int) := by
    subst hc; subst hs; omega
  have hlt : i.natAbs / 10 ^ k % 10 + 10 - bor i.natAbs j.natAbs k - j.natAbs / 10 ^ k % 10 < 20 := by
    have := Nat.mod_lt (i.natAbs / 10 ^ k) (by decide : 0 < 10); omega
  generalize i.natAbs / 10 ^ k % 10 + 10 - bor i.natAbs j.natAbs k - j.natAbs / 10 ^ k % 10 = q at *
  subst e
  refine ⟨?_, by omega, by omega⟩
  congr 2
theorem minus_end (i j : Int) (k : Nat) (h1 : (tens i).length ≤ k) : val 10 (pad k (i.natAbs - j.natAbs)) = i.natAbs - j.natAbs := by
  rw [pad_val]
  have a1 := natAbs_past h1
  have hp : 0 < 10 ^ k := Nat.pow_pos (by decide)
  have b1 : i.natAbs < 10 ^ k := by
    rcases Nat.lt_or_ge i.natAbs (10 ^ k) with h | h
    · exact h
    · have := Nat.div_pos h hp; omega
  exact Nat.mod_eq_of_lt (by omega)

set_option maxRecDepth 100000
set_option maxHeartbeats 1000000 in
theorem rplusrow_any (A B : Option Addr) (c d : Nat) (i j q : Int) (w : World) (hx : Nums8 w A (tens i)) (hy : Nums8 w B (tens j)) (hl : (tens i).length ≤ 1000000) (hl' : (tens j).length ≤ 1000000) (hq : i.natAbs + j.natAbs = q.natAbs) :
    Calls Tryd.prog 53 #[.slice A (tens i).length c, .slice B (tens j).length d] w (RetTens w q) := by
  have HQ := Lib.hid hq
  have HSX := Lib.hid (tens_small i)
  have HSY := Lib.hid (tens_small j)
  clear hq
  go_enter Tryd.func53, Tryd.ntmps53
  go_wp2_with fail
  go_loopw [5, 6, 7, 8] (fun dv cv iv _ wr => ∃ (k : Nat) (A' : Option Addr) (c' : Nat) (zs : List Nat) (u : Int), k ≤ 1000000 ∧ iv = .int .i64 k ∧ dv = .slice A' zs.length c' ∧ cv = .int .u8 u ∧ 0 ≤ u ∧ u ≤ 1 ∧ zs.length ≤ k ∧ Own8 wr w.heap.size A' c' zs ∧
      Hid (u = (((i.natAbs % 10 ^ k + j.natAbs % 10 ^ k) / 10 ^ k : Nat) : Int)) ∧ Hid (zs = pad k (i.natAbs + j.natAbs)) ∧ Below w.heap.size w wr) (fun _ _ iv _ _ => 1000000 - (intOf iv).toNat)
  case atStart => exact ⟨0, none, 0, [], 0, by omega, rfl, rfl, rfl, by omega, by omega, by simp, Own8.nil _ _, by show _ = _; simp [Nat.mod_one], rfl, Below.refl _ _⟩
  case round =>
    obtain ⟨k, A', c', zs, u, hk, rfl, rfl, rfl, hu0, hu1, hzl, hown, HU, HZ, hbel⟩ := hrel
    have hxr : Nums8 wr A (tens i) := hx.below hbel (Nat.le_refl _)
    have hyr : Nums8 wr B (tens j) := hy.below hbel (Nat.le_refl _)
    have hsz := hbel.size
    have hnx := nth_nonneg (tens i) k
    have hny := nth_nonneg (tens j) k
    have hnx9 := nth_lt (by omega) HSX.out k
    have hny9 := nth_lt (by omega) HSY.out k
    by_cases hka : k < (tens i).length
    · obtain ⟨b, o, rfl, hb, hc⟩ := hxr.2 (by omega)
      have hcell := hc k hka
      have hm1 : (k : Int) < ((tens i).length : Int) := by omega
      clear hc
      by_cases hkb : k < (tens j).length
      · obtain ⟨b', o', rfl, hb', hc'⟩ := hyr.2 (by omega)
        have hcell' := hc' k hkb
        have hm2 : (k : Int) < ((tens j).length : Int) := by omega
        clear hc'
        have hstep := plus_step i j k (s := (u + nth (tens i) k + nth (tens j) k)) HU.out rfl
        have hw8 : 0 ≤ (u + nth (tens i) k + nth (tens j) k) := by omega
        have hw9 : (u + nth (tens i) k + nth (tens j) k) < 20 := by omega
        have e1 : (u + nth (tens i) k + nth (tens j) k) % 10 = ((((u + nth (tens i) k + nth (tens j) k) % 10).toNat : Nat) : Int) := by omega
        have hC := cells_one8 wr _ _ e1
        have HC := Lib.hid hC
        have H8 : Hid (∀ x ∈ [((u + nth (tens i) k + nth (tens j) k) % 10).toNat], x < 256) := by intro x hx'; simp only [List.mem_cons, List.not_mem_nil, or_false] at hx'; omega
        have HN : Hid (zs.length + [((u + nth (tens i) k + nth (tens j) k) % 10).toNat].length ≤ 17592186044416) := by show zs.length + 1 ≤ _; omega
        have HST := Lib.hid hstep
        clear e1 hC hstep
        go_wp2_with (at_builtin; go_loud (refine wpList_app8 rfl (.tmp 42) (.tmp 45) rfl w.heap.size A' c' zs rfl (hown.alloc _) [((u + nth (tens i) k + nth (tens j) k) % 10).toNat] ⟨wr.heap.size, 0, none⟩ 1 1 rfl rfl (by exact HC.out) H8.out HN.out (by simp; omega) (fun A3 c3 w3 hown3 hg3 => ?_)))
        go_roundw
        case rel => exact ⟨k + 1, A3, c3, zs ++ [((u + nth (tens i) k + nth (tens j) k) % 10).toNat], _, by omega, by go_num, by simp, rfl, by omega, by omega, by simp; omega, hown3, HST.out.2, by show _ = _; rw [HZ.out]; exact HST.out.1, Below.own8 (hbel.alloc (by omega) _) (hown.alloc _) (by simp; omega) hg3⟩
        case measure => simp [intOf]; omega
      · have hm2 : ¬ (k : Int) < ((tens j).length : Int) := by omega
        have h0 := nth_past (tens j) k (by omega)
        have HS0 : Hid (u + nth (tens i) k = u + nth (tens i) k + nth (tens j) k) := by show _ = _; rw [h0]; omega
        clear h0
        have hstep := plus_step i j k (s := (u + nth (tens i) k)) HU.out HS0.out
        have hw8 : 0 ≤ (u + nth (tens i) k) := by omega
        have hw9 : (u + nth (tens i) k) < 20 := by omega
        have e1 : (u + nth (tens i) k) % 10 = ((((u + nth (tens i) k) % 10).toNat : Nat) : Int) := by omega
        have hC := cells_one8 wr _ _ e1
        have HC := Lib.hid hC
        have H8 : Hid (∀ x ∈ [((u + nth (tens i) k) % 10).toNat], x < 256) := by intro x hx'; simp only [List.mem_cons, List.not_mem_nil, or_false] at hx'; omega
        have HN : Hid (zs.length + [((u + nth (tens i) k) % 10).toNat].length ≤ 17592186044416) := by show zs.length + 1 ≤ _; omega
        have HST := Lib.hid hstep
        clear e1 hC hstep
        go_wp2_with (at_builtin; go_loud (refine wpList_app8 rfl (.tmp 42) (.tmp 45) rfl w.heap.size A' c' zs rfl (hown.alloc _) [((u + nth (tens i) k) % 10).toNat] ⟨wr.heap.size, 0, none⟩ 1 1 rfl rfl (by exact HC.out) H8.out HN.out (by simp; omega) (fun A3 c3 w3 hown3 hg3 => ?_)))
        go_roundw
        case rel => exact ⟨k + 1, A3, c3, zs ++ [((u + nth (tens i) k) % 10).toNat], _, by omega, by go_num, by simp, rfl, by omega, by omega, by simp; omega, hown3, HST.out.2, by show _ = _; rw [HZ.out]; exact HST.out.1, Below.own8 (hbel.alloc (by omega) _) (hown.alloc _) (by simp; omega) hg3⟩
        case measure => simp [intOf]; omega
    · have hm1 : ¬ (k : Int) < ((tens i).length : Int) := by omega
      have h0 := nth_past (tens i) k (by omega)
      by_cases hkb : k < (tens j).length
      · obtain ⟨b', o', rfl, hb', hc'⟩ := hyr.2 (by omega)
        have hcell' := hc' k hkb
        have hm2 : (k : Int) < ((tens j).length : Int) := by omega
        have HS0 : Hid (u + nth (tens j) k = u + nth (tens i) k + nth (tens j) k) := by show _ = _; rw [h0]; omega
        clear hc' h0
        have hstep := plus_step i j k (s := (u + nth (tens j) k)) HU.out HS0.out
        have hw8 : 0 ≤ (u + nth (tens j) k) := by omega
        have hw9 : (u + nth (tens j) k) < 20 := by omega
        have e1 : (u + nth (tens j) k) % 10 = ((((u + nth (tens j) k) % 10).toNat : Nat) : Int) := by omega
        have hC := cells_one8 wr _ _ e1
        have HC := Lib.hid hC
        have H8 : Hid (∀ x ∈ [((u + nth (tens j) k) % 10).toNat], x < 256) := by intro x hx'; simp only [List.mem_cons, List.not_mem_nil, or_false] at hx'; omega
        have HN : Hid (zs.length + [((u + nth (tens j) k) % 10).toNat].length ≤ 17592186044416) := by show zs.length + 1 ≤ _; omega
        have HST := Lib.hid hstep
        clear e1 hC hstep
        go_wp2_with (at_builtin; go_loud (refine wpList_app8 rfl (.tmp 42) (.tmp 45) rfl w.heap.size A' c' zs rfl (hown.alloc _) [((u + nth (tens j) k) % 10).toNat] ⟨wr.heap.size, 0, none⟩ 1 1 rfl rfl (by exact HC.out) H8.out HN.out (by simp; omega) (fun A3 c3 w3 hown3 hg3 => ?_)))
        go_roundw
        case rel => exact ⟨k + 1, A3, c3, zs ++ [((u + nth (tens j) k) % 10).toNat], _, by omega, by go_num, by simp, rfl, by omega, by omega, by simp; omega, hown3, HST.out.2, by show _ = _; rw [HZ.out]; exact HST.out.1, Below.own8 (hbel.alloc (by omega) _) (hown.alloc _) (by simp; omega) hg3⟩
        case measure => simp [intOf]; omega
      · have hm2 : ¬ (k : Int) < ((tens j).length : Int) := by omega
        have hend := plus_end i j k HU.out (by omega) (by omega)
        have e1 : u = ((u.toNat : Nat) : Int) := by omega
        have hC := cells_one8 wr _ _ e1
        have HC := Lib.hid hC
        have H8 : Hid (∀ x ∈ [u.toNat], x < 256) := by intro x hx'; simp only [List.mem_cons, List.not_mem_nil, or_false] at hx'; omega
        have HN : Hid (zs.length + [u.toNat].length ≤ 17592186044416) := by show zs.length + 1 ≤ _; omega
        have HE := Lib.hid hend
        clear e1 hC hend h0
        go_wp2_with (at_builtin; go_loud (refine wpList_app8 rfl (.tmp 49) (.tmp 51) rfl w.heap.size A' c' zs rfl (hown.alloc _) [u.toNat] ⟨wr.heap.size, 0, none⟩ 1 1 rfl rfl (by exact HC.out) H8.out HN.out (by simp; omega) (fun A3 c3 w3 hown3 hg3 => ?_)); refine Hid.out ?_)
        refine Lib.hid ?_
        have hb3 := Below.own8 (hbel.alloc (by omega) _) (hown.alloc _) (by simp; omega) hg3
        obtain ⟨ds, hds⟩ : ∃ ds, ds = zs ++ [u.toNat] := ⟨_, rfl⟩
        rw [← hds] at hown3
        have hll : zs.length + 1 = ds.length := by rw [hds]; simp
        rw [hll]
        have hvz : val 10 ds = q.natAbs := by rw [hds, HZ.out, HE.out.1, HE.out.2, HQ.out]
        have hsm : small 10 ds := by rw [hds, HZ.out, HE.out.1]; exact pad_small _ _
        have hlen3 : ds.length ≤ 1048576 := by rw [hds]; simp; omega
        have HV := Lib.hid hvz; have HSM := Lib.hid hsm; have HL3 := Lib.hid hlen3
        clear hvz hsm hlen3 hds HE HC H8 HN hll
        go_wp2_with (go_at_call 55; refine (rcut_tens w.heap.size A3 c3 ds q _ hown3 HSM.out HV.out HL3.out).mono ?_; rintro e w4 ⟨rfl, hown4, rfl⟩)
        go_ret
        exact ⟨A3, c3, rfl, hown4, hb3⟩

set_option maxHeartbeats 1000000 in
theorem rminusrow_any (A B : Option Addr) (c d : Nat) (i j q : Int) (w : World) (hx : Nums8 w A (tens i)) (hy : Nums8 w B (tens j)) (hl : (tens i).length ≤ 1048576) (hl' : (tens j).length ≤ 1048576) (hle : j.natAbs ≤ i.natAbs) (hq : i.natAbs - j.natAbs = q.natAbs) :
    Calls Tryd.prog 54 #[.slice A (tens i).length c, .slice B (tens j).length d] w (RetTens w q) := by
  have HQ := Lib.hid hq
  have HLE := Lib.hid hle
  have HSX := Lib.hid (tens_small i)
  have HSY := Lib.hid (tens_small j)
  clear hq hle
  go_enter Tryd.func54, Tryd.ntmps54
  go_wp2_with fail
  go_loopw [5, 6, 7, 8] (fun dv cv iv _ wr => ∃ (k : Nat) (A' : Option Addr) (c' : Nat) (zs : List Nat) (u : Int), k ≤ (tens i).length ∧ iv = .int .i64 k ∧ dv = .slice A' zs.length c' ∧ cv = .int .u8 u ∧ 0 ≤ u ∧ u ≤ 1 ∧ zs.length ≤ k ∧ Own8 wr w.heap.size A' c' zs ∧
      Hid (u = ((bor i.natAbs j.natAbs k : Nat) : Int)) ∧ Hid (zs = pad k (i.natAbs - j.natAbs)) ∧ Below w.heap.size w wr) (fun _ _ iv _ _ => 1048576 - (intOf iv).toNat)
  case atStart => exact ⟨0, none, 0, [], 0, by omega, rfl, rfl, rfl, by omega, by omega, by simp, Own8.nil _ _, by show _ = _; simp [bor, Nat.mod_one], rfl, Below.refl _ _⟩
  case round =>
    obtain ⟨k, A', c', zs, u, hk, rfl, rfl, rfl, hu0, hu1, hzl, hown, HU, HZ, hbel⟩ := hrel
    have hxr : Nums8 wr A (tens i) := hx.below hbel (Nat.le_refl _)
    have hyr : Nums8 wr B (tens j) := hy.below hbel (Nat.le_refl _)
    have hsz := hbel.size
    have hnx := nth_nonneg (tens i) k
    have hny := nth_nonneg (tens j) k
    have hnx9 := nth_lt (by omega) HSX.out k
    have hny9 := nth_lt (by omega) HSY.out k
    by_cases hka : k < (tens i).length
    · obtain ⟨b, o, rfl, hb, hc⟩ := hxr.2 (by omega)
      have hcell := hc k hka
      have hm1 : (k : Int) < ((tens i).length : Int) := by omega
      clear hc
      by_cases hkb : k < (tens j).length
      · obtain ⟨b', o', rfl, hb', hc'⟩ := hyr.2 (by omega)
        have hcell' := hc' k hkb
        have hm2 : (k : Int) < ((tens j).length : Int) := by omega
        clear hc'
        have hstep := minus_step i j k HLE.out (s := (nth (tens i) k + 10 - u - nth (tens j) k)) HU.out rfl
        have hw8 : 0 ≤ (nth (tens i) k + 10 - u - nth (tens j) k) := hstep.2.2
        have hw9 : (nth (tens i) k + 10 - u - nth (tens j) k) < 20 := by omega
        have e1 : (nth (tens i) k + 10 - u - nth (tens j) k) % 10 = ((((nth (tens i) k + 10 - u - nth (tens j) k) % 10).toNat : Nat) : Int) := by omega
        have hC := cells_one8 wr _ _ e1
        have HC := Lib.hid hC
        have H8 : Hid (∀ x ∈ [((nth (tens i) k + 10 - u - nth (tens j) k) % 10).toNat], x < 256) := by intro x hx'; simp only [List.mem_cons, List.not_mem_nil, or_false] at hx'; omega
        have HN : Hid (zs.length + [((nth (tens i) k + 10 - u - nth (tens j) k) % 10).toNat].length ≤ 17592186044416) := by show zs.length + 1 ≤ _; omega
        have hq0 : 0 ≤ 1 - (nth (tens i) k + 10 - u - nth (tens j) k) / 10 := by omega
        have HST := Lib.hid hstep
        clear e1 hC hstep
        go_wp2_with (at_builtin; go_loud (refine wpList_app8 rfl (.tmp 32) (.tmp 35) rfl w.heap.size A' c' zs rfl (hown.alloc _) [((nth (tens i) k + 10 - u - nth (tens j) k) % 10).toNat] ⟨wr.heap.size, 0, none⟩ 1 1 rfl rfl (by exact HC.out) H8.out HN.out (by simp; omega) (fun A3 c3 w3 hown3 hg3 => ?_)))
        go_roundw
        case rel => exact ⟨k + 1, A3, c3, zs ++ [((nth (tens i) k + 10 - u - nth (tens j) k) % 10).toNat], _, by omega, by go_num, by simp, rfl, by omega, by omega, by simp; omega, hown3, HST.out.2.1, by show _ = _; rw [HZ.out]; exact HST.out.1, Below.own8 (hbel.alloc (by omega) _) (hown.alloc _) (by simp; omega) hg3⟩
        case measure => simp [intOf]; omega
      · have hm2 : ¬ (k : Int) < ((tens j).length : Int) := by omega
        have h0 := nth_past (tens j) k (by omega)
        have HS0 : Hid (nth (tens i) k + 10 - u = nth (tens i) k + 10 - u - nth (tens j) k) := by show _ = _; rw [h0]; omega
        clear h0
        have hstep := minus_step i j k HLE.out (s := (nth (tens i) k + 10 - u)) HU.out HS0.out
        have hw8 : 0 ≤ (nth (tens i) k + 10 - u) := hstep.2.2
        have hw9 : (nth (tens i) k + 10 - u) < 20 := by omega
        have e1 : (nth (tens i) k + 10 - u) % 10 = ((((nth (tens i) k + 10 - u) % 10).toNat : Nat) : Int) := by omega
        have hC := cells_one8 wr _ _ e1
        have HC := Lib.hid hC
        have H8 : Hid (∀ x ∈ [((nth (tens i) k + 10 - u) % 10).toNat], x < 256) := by intro x hx'; simp only [List.mem_cons, List.not_mem_nil, or_false] at hx'; omega
        have HN : Hid (zs.length + [((nth (tens i) k + 10 - u) % 10).toNat].length ≤ 17592186044416) := by show zs.length + 1 ≤ _; omega
        have hq0 : 0 ≤ 1 - (nth (tens i) k + 10 - u) / 10 := by omega
        have HST := Lib.hid hstep
        clear e1 hC hstep
        go_wp2_with (at_builtin; go_loud (refine wpList_app8 rfl (.tmp 32) (.tmp 35) rfl w.heap.size A' c' zs rfl (hown.alloc _) [((nth (tens i) k + 10 - u) % 10).toNat] ⟨wr.heap.size, 0, none⟩ 1 1 rfl rfl (by exact HC.out) H8.out HN.out (by simp; omega) (fun A3 c3 w3 hown3 hg3 => ?_)))
        go_roundw
        case rel => exact ⟨k + 1, A3, c3, zs ++ [((nth (tens i) k + 10 - u) % 10).toNat], _, by omega, by go_num, by simp, rfl, by omega, by omega, by simp; omega, hown3, HST.out.2.1, by show _ = _; rw [HZ.out]; exact HST.out.1, Below.own8 (hbel.alloc (by omega) _) (hown.alloc _) (by simp; omega) hg3⟩
        case measure => simp [intOf]; omega
    · have hm1 : ¬ (k : Int) < ((tens i).length : Int) := by omega
      have hend := minus_end i j k (by omega)
      have hvz : val 10 zs = q.natAbs := by rw [HZ.out, hend, HQ.out]
      have hsm : small 10 zs := by rw [HZ.out]; exact pad_small _ _
      have HV := Lib.hid hvz; have HSM := Lib.hid hsm
      clear hvz hsm hend
      go_wp2_with (go_at_call 55; refine (rcut_tens w.heap.size A' c' zs q _ hown HSM.out HV.out (by omega)).mono ?_; rintro e w4 ⟨rfl, hown4, rfl⟩)
      go_ret
      exact ⟨A', c', rfl, hown4, hbel⟩
end Go.Proofs.YteggjfmcpodepaaDoor

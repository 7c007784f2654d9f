/- Texts of this claim. -/
import Derived.Test.YtjdcjdohghkcgaaGreatDoorV12
namespace Go.Proofs.YtjdcjdohghkcgaaGreatDoor
open Go.RowKit
theorem add_step (m n k : Nat) :
 ((m % 10 ^ k + n % 10 ^ k) / 10 ^ k + m / 10 ^ k % 10 + n / 10 ^ k % 10) % 10 = (m + n) / 10 ^ k % 10 ∧
 ((m % 10 ^ k + n % 10 ^ k) / 10 ^ k + m / 10 ^ k % 10 + n / 10 ^ k % 10) / 10 = (m % 10 ^ (k + 1) + n % 10 ^ (k + 1)) / 10 ^ (k + 1) := by
 have hp : 0 < 10 ^ k := Nat.pow_pos (by decide);have e : (m + n) / 10 ^ k = m / 10 ^ k + n / 10 ^ k + (m % 10 ^ k + n % 10 ^ k) / 10 ^ k := by
  have h1 := Nat.div_add_mod m (10 ^ k);have h2 := Nat.div_add_mod n (10 ^ k);have h3 : m + n = (m % 10 ^ k + n % 10 ^ k) + 10 ^ k * (m / 10 ^ k + n / 10 ^ k) := by rw [Nat.mul_add]; omega
  rw [h3, Nat.add_mul_div_left _ _ hp];omega
 have e2 : (m % 10 ^ (k + 1) + n % 10 ^ (k + 1)) = (m % 10 ^ k + n % 10 ^ k) + 10 ^ k * (m / 10 ^ k % 10 + n / 10 ^ k % 10) := by
  rw [Nat.pow_succ, Nat.mod_mul, Nat.mod_mul, Nat.mul_add]; omega
 constructor
 · rw [e]; omega
 · rw [e2, Nat.pow_succ, ← Nat.div_div_eq_div_mul, Nat.add_mul_div_left _ _ hp];congr 1
   omega
def bor (m n k : Nat) : Nat := if m % 10 ^ k < n % 10 ^ k then 1 else 0
theorem bor_le (m n k : Nat) : bor m n k ≤ 1 := by unfold bor; split <;> omega
theorem sub_div (P m n : Nat) (hp : 0 < P) (h : n ≤ m) : (m - n) / P + n / P + (if m % P < n % P then 1 else 0) = m / P := by
 have h1 := Nat.div_add_mod m P;have h2 := Nat.div_add_mod n P;have h3 := Nat.mod_lt m hp;have h4 := Nat.mod_lt n hp;generalize m / P = M at *
 generalize n / P = N at *
 generalize m % P = m0 at *
 generalize n % P = n0 at *
 by_cases hb : m0 < n0
 · rw [if_pos hb];have hN : N < M := by
    rcases Nat.lt_or_ge N M with h5 | h5
    · exact h5
    · have := Nat.mul_le_mul_left P h5; omega
   obtain ⟨D, rfl⟩ : ∃ D, M = N + 1 + D := ⟨M - (N + 1), by omega⟩;have e : m - n = (P + m0 - n0) + P * D := by
    have : P * (N + 1 + D) = P * N + P + P * D := by rw [Nat.mul_add, Nat.mul_add, Nat.mul_one]
    omega
   rw [e, Nat.add_mul_div_left _ _ hp, Nat.div_eq_of_lt (by omega)];omega
 · rw [if_neg hb];have hN : N ≤ M := by
    rcases Nat.lt_or_ge M N with h5 | h5
    · have := Nat.mul_le_mul_left P h5;rw [Nat.mul_succ] at this;omega
    · exact h5
   obtain ⟨D, rfl⟩ : ∃ D, M = N + D := ⟨M - N, by omega⟩;have e : m - n = (m0 - n0) + P * D := by
    have : P * (N + D) = P * N + P * D := by rw [Nat.mul_add]
    omega
   rw [e, Nat.add_mul_div_left _ _ hp, Nat.div_eq_of_lt (by omega)];omega
theorem sub_step (m n k : Nat) (h : n ≤ m) :
 (m / 10 ^ k % 10 + 10 - bor m n k - n / 10 ^ k % 10) % 10 = (m - n) / 10 ^ k % 10 ∧ 1 - (m / 10 ^ k % 10 + 10 - bor m n k - n / 10 ^ k % 10) / 10 = bor m n (k + 1) ∧
 n / 10 ^ k % 10 + bor m n k ≤ m / 10 ^ k % 10 + 10 := by
 have hp : 0 < 10 ^ k := Nat.pow_pos (by decide);have e1 := sub_div (10 ^ k) m n hp h;have hb := bor_le m n k;refine ⟨?_, ?_, by omega⟩
 · unfold bor at hb ⊢;generalize (if m % 10 ^ k < n % 10 ^ k then 1 else 0) = c at *
   omega
 · have hm : m % 10 ^ (k + 1) = m % 10 ^ k + 10 ^ k * (m / 10 ^ k % 10) := by rw [Nat.pow_succ, Nat.mod_mul]
   have hn : n % 10 ^ (k + 1) = n % 10 ^ k + 10 ^ k * (n / 10 ^ k % 10) := by rw [Nat.pow_succ, Nat.mod_mul]
   have h3 := Nat.mod_lt m hp;have h4 := Nat.mod_lt n hp;have ha : m / 10 ^ k % 10 < 10 := Nat.mod_lt _ (by decide);have hb' : n / 10 ^ k % 10 < 10 := Nat.mod_lt _ (by decide);unfold bor;rw [hm, hn];generalize m / 10 ^ k % 10 = a at *
   generalize n / 10 ^ k % 10 = b at *
   generalize m % 10 ^ k = m0 at *
   generalize n % 10 ^ k = n0 at *
   generalize 10 ^ k = P at *
   rcases Nat.lt_trichotomy a b with hab | hab | hab
   · have : P * (a + 1) ≤ P * b := Nat.mul_le_mul_left P hab;rw [Nat.mul_add, Nat.mul_one] at this;rw [if_pos (by omega : m0 + P * a < n0 + P * b)];split <;> omega
   · subst hab;by_cases hc : m0 < n0
     · rw [if_pos hc, if_pos (by omega)]; omega
     · rw [if_neg hc, if_neg (by omega)]; omega
   · have : P * (b + 1) ≤ P * a := Nat.mul_le_mul_left P hab;rw [Nat.mul_add, Nat.mul_one] at this;rw [if_neg (by omega : ¬ m0 + P * a < n0 + P * b)];split <;> omega
theorem ztv {i : Int} {k : Nat} (h : (tens i).length ≤ k) : i.natAbs / 10 ^ k = 0 := by
 rw [gj] at h;exact Nat.div_eq_of_lt ((qx (by decide) _ _).1 h)
def RetTens (W : World) (i : Int) (e : Ending) (w' : World) : Prop := ∃ A c, e = .returned (.slice A (tens i).length c) ∧ Own8 w' W.heap.size A c (tens i) ∧ Below W.heap.size W w'
theorem ypv (i j : Int) (k : Nat) {cv s : Int} (hc : cv = (((i.natAbs % 10 ^ k + j.natAbs % 10 ^ k) / 10 ^ k : Nat) : Int)) (hs : s = cv + nth (tens i) k + nth (tens j) k) :
 pad k (i.natAbs + j.natAbs) ++ [(s % 10).toNat] = pad (k + 1) (i.natAbs + j.natAbs) ∧ s / 10 = (((i.natAbs % 10 ^ (k + 1) + j.natAbs % 10 ^ (k + 1)) / 10 ^ (k + 1) : Nat) : Int) := by
 obtain ⟨h1, h2⟩ := add_step i.natAbs j.natAbs k;rw [zdk, zdk] at hs;rw [ztz, ← h1, ← h2];subst hc; subst hs;refine ⟨?_, by omega⟩;congr 2
theorem carry_le (m n k : Nat) : (m % 10 ^ k + n % 10 ^ k) / 10 ^ k ≤ 1 := by
 have hp : 0 < 10 ^ k := Nat.pow_pos (by decide);have h3 := Nat.mod_lt m hp;have h4 := Nat.mod_lt n hp;rw [Nat.div_le_iff_le_mul_add_pred hp];omega
theorem plus_end (i j : Int) (k : Nat) {cv : Int} (hc : cv = (((i.natAbs % 10 ^ k + j.natAbs % 10 ^ k) / 10 ^ k : Nat) : Int)) (h1 : (tens i).length ≤ k) (h2 : (tens j).length ≤ k) :
 pad k (i.natAbs + j.natAbs) ++ [cv.toNat] = pad (k + 1) (i.natAbs + j.natAbs) ∧ val 10 (pad (k + 1) (i.natAbs + j.natAbs)) = i.natAbs + j.natAbs := by
 have a1 := ztv h1;have a2 := ztv h2;obtain ⟨h3, _⟩ := add_step i.natAbs j.natAbs k;rw [a1, a2] at h3;have hcl := carry_le i.natAbs j.natAbs k;constructor
 · rw [ztz, ← h3];generalize (i.natAbs % 10 ^ k + j.natAbs % 10 ^ k) / 10 ^ k = q at *
   subst hc;congr 2
   omega
 · rw [yzz];have hp : 0 < 10 ^ k := Nat.pow_pos (by decide);have b1 : i.natAbs < 10 ^ k := by
    rcases Nat.lt_or_ge i.natAbs (10 ^ k) with h | h
    · exact h
    · have := Nat.div_pos h hp; omega
   have b2 : j.natAbs < 10 ^ k := by
    rcases Nat.lt_or_ge j.natAbs (10 ^ k) with h | h
    · exact h
    · have := Nat.div_pos h hp; omega
   exact Nat.mod_eq_of_lt (by rw [Nat.pow_succ]; omega)
theorem minus_step (i j : Int) (k : Nat) (h : j.natAbs ≤ i.natAbs) {cv s : Int} (hc : cv = ((bor i.natAbs j.natAbs k : Nat) : Int)) (hs : s = nth (tens i) k + 10 - cv - nth (tens j) k) :
 pad k (i.natAbs - j.natAbs) ++ [(s % 10).toNat] = pad (k + 1) (i.natAbs - j.natAbs) ∧ 1 - s / 10 = ((bor i.natAbs j.natAbs (k + 1) : Nat) : Int) ∧ 0 ≤ s := by
 obtain ⟨h1, h2, h3⟩ := sub_step i.natAbs j.natAbs k h;have hb := bor_le i.natAbs j.natAbs k;rw [zdk, zdk] at hs;rw [ztz, ← h1, ← h2];have e : s = ((i.natAbs / 10 ^ k % 10 + 10 - bor i.natAbs j.natAbs k - j.natAbs / 10 ^ k % 10 : Nat) : Int) := by
  subst hc; subst hs; omega
 have hlt : i.natAbs / 10 ^ k % 10 + 10 - bor i.natAbs j.natAbs k - j.natAbs / 10 ^ k % 10 < 20 := by
  have := Nat.mod_lt (i.natAbs / 10 ^ k) (by decide : 0 < 10); omega
 generalize i.natAbs / 10 ^ k % 10 + 10 - bor i.natAbs j.natAbs k - j.natAbs / 10 ^ k % 10 = q at *
 subst e;refine ⟨?_, by omega, by omega⟩;congr 2
theorem minus_end (i j : Int) (k : Nat) (h1 : (tens i).length ≤ k) : val 10 (pad k (i.natAbs - j.natAbs)) = i.natAbs - j.natAbs := by
 rw [yzz];have a1 := ztv h1;have hp : 0 < 10 ^ k := Nat.pow_pos (by decide);have b1 : i.natAbs < 10 ^ k := by
  rcases Nat.lt_or_ge i.natAbs (10 ^ k) with h | h
  · exact h
  · have := Nat.div_pos h hp; omega
 exact Nat.mod_eq_of_lt (by omega)
set_option maxRecDepth 100000
set_option maxHeartbeats 1000000 in
theorem rplusrow_any (A B : Option Addr) (c d : Nat) (i j q : Int) (w : World) (hx : Nums8 w A (tens i)) (hy : Nums8 w B (tens j)) (hl : (tens i).length ≤ 1000000) (hl' : (tens j).length ≤ 1000000) (hq : i.natAbs + j.natAbs = q.natAbs) :
 Calls Tryz.prog 137 #[.slice A (tens i).length c, .slice B (tens j).length d] w (RetTens w q) := by
 have HQ := Lib.hid hq;have HSX := Lib.hid (kr i);have HSY := Lib.hid (kr j);clear hq;go_enter Tryz.func137, Tryz.ntmps137
 go_wp2_with fail
 go_loopw [5, 6, 7, 8] (fun dv cv iv _ wr => ∃ (k : Nat) (A' : Option Addr) (c' : Nat) (zs : List Nat) (u : Int), k ≤ 1000000 ∧ iv = .int .i64 k ∧ dv = .slice A' zs.length c' ∧ cv = .int .u8 u ∧ 0 ≤ u ∧ u ≤ 1 ∧ zs.length ≤ k ∧ Own8 wr w.heap.size A' c' zs ∧
  Hid (u = (((i.natAbs % 10 ^ k + j.natAbs % 10 ^ k) / 10 ^ k : Nat) : Int)) ∧ Hid (zs = pad k (i.natAbs + j.natAbs)) ∧ Below w.heap.size w wr) (fun _ _ iv _ _ => 1000000 - (intOf iv).toNat)
 case atStart => exact ⟨0, none, 0, [], 0, by omega, rfl, rfl, rfl, by omega, by omega, by simp, Own8.nil _ _, by show _ = _; simp [Nat.mod_one], rfl, Below.refl _ _⟩
 case round =>
  obtain ⟨k, A', c', zs, u, hk, rfl, rfl, rfl, hu0, hu1, hzl, hown, HU, HZ, hbel⟩ := hrel;have hxr : Nums8 wr A (tens i) := hx.below hbel (Nat.le_refl _);have hyr : Nums8 wr B (tens j) := hy.below hbel (Nat.le_refl _);have hsz := hbel.size;have hnx := yt (tens i) k;have hny := yt (tens j) k;have hnx9 := vg (by omega) HSX.out k;have hny9 := vg (by omega) HSY.out k
  by_cases hka : k < (tens i).length
  · obtain ⟨b, o, rfl, hb, hc⟩ := hxr.2 (by omega);have hcell := hc k hka;have hm1 : (k : Int) < ((tens i).length : Int) := by omega
    clear hc;by_cases hkb : k < (tens j).length
    · obtain ⟨b', o', rfl, hb', hc'⟩ := hyr.2 (by omega);have hcell' := hc' k hkb;have hm2 : (k : Int) < ((tens j).length : Int) := by omega
      clear hc';have hstep := ypv i j k (s := (u + nth (tens i) k + nth (tens j) k)) HU.out rfl;have hw8 : 0 ≤ (u + nth (tens i) k + nth (tens j) k) := by omega
      have hw9 : (u + nth (tens i) k + nth (tens j) k) < 20 := by omega
      have e1 : (u + nth (tens i) k + nth (tens j) k) % 10 = ((((u + nth (tens i) k + nth (tens j) k) % 10).toNat : Nat) : Int) := by omega
      have hC := kx wr _ _ e1;have HC := Lib.hid hC;have H8 : Hid (∀ x ∈ [((u + nth (tens i) k + nth (tens j) k) % 10).toNat], x < 256) := by intro x hx'; simp only [List.mem_cons, List.not_mem_nil, or_false] at hx'; omega
      have HN : Hid (zs.length + [((u + nth (tens i) k + nth (tens j) k) % 10).toNat].length ≤ 17592186044416) := by show zs.length + 1 ≤ _; omega
      have HST := Lib.hid hstep;clear e1 hC hstep;go_wp2_with (at_builtin; go_loud (refine kb rfl (.tmp 42) (.tmp 45) rfl w.heap.size A' c' zs rfl (hown.alloc _) [((u + nth (tens i) k + nth (tens j) k) % 10).toNat] ⟨wr.heap.size, 0, none⟩ 1 1 rfl rfl (by exact HC.out) H8.out HN.out (by simp; omega) (fun A3 c3 w3 hown3 hg3 => ?_)))
      go_roundw
      case rel => exact ⟨k + 1, A3, c3, zs ++ [((u + nth (tens i) k + nth (tens j) k) % 10).toNat], _, by omega, by go_num, by simp, rfl, by omega, by omega, by simp; omega, hown3, HST.out.2, by show _ = _; rw [HZ.out]; exact HST.out.1, Below.own8 (hbel.alloc (by omega) _) (hown.alloc _) (by simp; omega) hg3⟩
      case measure => simp [intOf]; omega
    · have hm2 : ¬ (k : Int) < ((tens j).length : Int) := by omega
      have h0 := gy (tens j) k (by omega);have HS0 : Hid (u + nth (tens i) k = u + nth (tens i) k + nth (tens j) k) := by show _ = _; rw [h0]; omega
      clear h0;have hstep := ypv i j k (s := (u + nth (tens i) k)) HU.out HS0.out;have hw8 : 0 ≤ (u + nth (tens i) k) := by omega
      have hw9 : (u + nth (tens i) k) < 20 := by omega
      have e1 : (u + nth (tens i) k) % 10 = ((((u + nth (tens i) k) % 10).toNat : Nat) : Int) := by omega
      have hC := kx wr _ _ e1;have HC := Lib.hid hC;have H8 : Hid (∀ x ∈ [((u + nth (tens i) k) % 10).toNat], x < 256) := by intro x hx'; simp only [List.mem_cons, List.not_mem_nil, or_false] at hx'; omega
      have HN : Hid (zs.length + [((u + nth (tens i) k) % 10).toNat].length ≤ 17592186044416) := by show zs.length + 1 ≤ _; omega
      have HST := Lib.hid hstep;clear e1 hC hstep;go_wp2_with (at_builtin; go_loud (refine kb rfl (.tmp 42) (.tmp 45) rfl w.heap.size A' c' zs rfl (hown.alloc _) [((u + nth (tens i) k) % 10).toNat] ⟨wr.heap.size, 0, none⟩ 1 1 rfl rfl (by exact HC.out) H8.out HN.out (by simp; omega) (fun A3 c3 w3 hown3 hg3 => ?_)))
      go_roundw
      case rel => exact ⟨k + 1, A3, c3, zs ++ [((u + nth (tens i) k) % 10).toNat], _, by omega, by go_num, by simp, rfl, by omega, by omega, by simp; omega, hown3, HST.out.2, by show _ = _; rw [HZ.out]; exact HST.out.1, Below.own8 (hbel.alloc (by omega) _) (hown.alloc _) (by simp; omega) hg3⟩
      case measure => simp [intOf]; omega
  · have hm1 : ¬ (k : Int) < ((tens i).length : Int) := by omega
    have h0 := gy (tens i) k (by omega);by_cases hkb : k < (tens j).length
    · obtain ⟨b', o', rfl, hb', hc'⟩ := hyr.2 (by omega);have hcell' := hc' k hkb;have hm2 : (k : Int) < ((tens j).length : Int) := by omega
      have HS0 : Hid (u + nth (tens j) k = u + nth (tens i) k + nth (tens j) k) := by show _ = _; rw [h0]; omega
      clear hc' h0;have hstep := ypv i j k (s := (u + nth (tens j) k)) HU.out HS0.out;have hw8 : 0 ≤ (u + nth (tens j) k) := by omega
      have hw9 : (u + nth (tens j) k) < 20 := by omega
      have e1 : (u + nth (tens j) k) % 10 = ((((u + nth (tens j) k) % 10).toNat : Nat) : Int) := by omega
      have hC := kx wr _ _ e1;have HC := Lib.hid hC;have H8 : Hid (∀ x ∈ [((u + nth (tens j) k) % 10).toNat], x < 256) := by intro x hx'; simp only [List.mem_cons, List.not_mem_nil, or_false] at hx'; omega
      have HN : Hid (zs.length + [((u + nth (tens j) k) % 10).toNat].length ≤ 17592186044416) := by show zs.length + 1 ≤ _; omega
      have HST := Lib.hid hstep;clear e1 hC hstep;go_wp2_with (at_builtin; go_loud (refine kb rfl (.tmp 42) (.tmp 45) rfl w.heap.size A' c' zs rfl (hown.alloc _) [((u + nth (tens j) k) % 10).toNat] ⟨wr.heap.size, 0, none⟩ 1 1 rfl rfl (by exact HC.out) H8.out HN.out (by simp; omega) (fun A3 c3 w3 hown3 hg3 => ?_)))
      go_roundw
      case rel => exact ⟨k + 1, A3, c3, zs ++ [((u + nth (tens j) k) % 10).toNat], _, by omega, by go_num, by simp, rfl, by omega, by omega, by simp; omega, hown3, HST.out.2, by show _ = _; rw [HZ.out]; exact HST.out.1, Below.own8 (hbel.alloc (by omega) _) (hown.alloc _) (by simp; omega) hg3⟩
      case measure => simp [intOf]; omega
    · have hm2 : ¬ (k : Int) < ((tens j).length : Int) := by omega
      have hend := plus_end i j k HU.out (by omega) (by omega);have e1 : u = ((u.toNat : Nat) : Int) := by omega
      have hC := kx wr _ _ e1;have HC := Lib.hid hC;have H8 : Hid (∀ x ∈ [u.toNat], x < 256) := by intro x hx'; simp only [List.mem_cons, List.not_mem_nil, or_false] at hx'; omega
      have HN : Hid (zs.length + [u.toNat].length ≤ 17592186044416) := by show zs.length + 1 ≤ _; omega
      have HE := Lib.hid hend;clear e1 hC hend h0;go_wp2_with (at_builtin; go_loud (refine kb rfl (.tmp 49) (.tmp 51) rfl w.heap.size A' c' zs rfl (hown.alloc _) [u.toNat] ⟨wr.heap.size, 0, none⟩ 1 1 rfl rfl (by exact HC.out) H8.out HN.out (by simp; omega) (fun A3 c3 w3 hown3 hg3 => ?_)); refine Hid.out ?_)
      refine Lib.hid ?_;have hb3 := Below.own8 (hbel.alloc (by omega) _) (hown.alloc _) (by simp; omega) hg3;obtain ⟨ds, hds⟩ : ∃ ds, ds = zs ++ [u.toNat] := ⟨_, rfl⟩;rw [← hds] at hown3;have hll : zs.length + 1 = ds.length := by rw [hds]; simp
      rw [hll];have hvz : val 10 ds = q.natAbs := by rw [hds, HZ.out, HE.out.1, HE.out.2, HQ.out]
      have hsm : small 10 ds := by rw [hds, HZ.out, HE.out.1]; exact zxq _ _
      have hlen3 : ds.length ≤ 1048576 := by rw [hds]; simp; omega
      have HV := Lib.hid hvz; have HSM := Lib.hid hsm; have HL3 := Lib.hid hlen3;clear hvz hsm hlen3 hds HE HC H8 HN hll;go_wp2_with (go_at_call 94; refine (ypk w.heap.size A3 c3 ds q _ hown3 HSM.out HV.out HL3.out).mono ?_; rintro e w4 ⟨rfl, hown4, rfl⟩)
      go_ret
      exact ⟨A3, c3, rfl, hown4, hb3⟩
set_option maxHeartbeats 1000000 in
theorem yak (A B : Option Addr) (c d : Nat) (i j q : Int) (w : World) (hx : Nums8 w A (tens i)) (hy : Nums8 w B (tens j)) (hl : (tens i).length ≤ 1048576) (hl' : (tens j).length ≤ 1048576) (hle : j.natAbs ≤ i.natAbs) (hq : i.natAbs - j.natAbs = q.natAbs) :
 Calls Tryz.prog 139 #[.slice A (tens i).length c, .slice B (tens j).length d] w (RetTens w q) := by
 have HQ := Lib.hid hq;have HLE := Lib.hid hle;have HSX := Lib.hid (kr i);have HSY := Lib.hid (kr j);clear hq hle;go_enter Tryz.func139, Tryz.ntmps139
 go_wp2_with fail
 go_loopw [5, 6, 7, 8] (fun dv cv iv _ wr => ∃ (k : Nat) (A' : Option Addr) (c' : Nat) (zs : List Nat) (u : Int), k ≤ (tens i).length ∧ iv = .int .i64 k ∧ dv = .slice A' zs.length c' ∧ cv = .int .u8 u ∧ 0 ≤ u ∧ u ≤ 1 ∧ zs.length ≤ k ∧ Own8 wr w.heap.size A' c' zs ∧
  Hid (u = ((bor i.natAbs j.natAbs k : Nat) : Int)) ∧ Hid (zs = pad k (i.natAbs - j.natAbs)) ∧ Below w.heap.size w wr) (fun _ _ iv _ _ => 1048576 - (intOf iv).toNat)
 case atStart => exact ⟨0, none, 0, [], 0, by omega, rfl, rfl, rfl, by omega, by omega, by simp, Own8.nil _ _, by show _ = _; simp [bor, Nat.mod_one], rfl, Below.refl _ _⟩
 case round =>
  obtain ⟨k, A', c', zs, u, hk, rfl, rfl, rfl, hu0, hu1, hzl, hown, HU, HZ, hbel⟩ := hrel;have hxr : Nums8 wr A (tens i) := hx.below hbel (Nat.le_refl _);have hyr : Nums8 wr B (tens j) := hy.below hbel (Nat.le_refl _);have hsz := hbel.size;have hnx := yt (tens i) k;have hny := yt (tens j) k;have hnx9 := vg (by omega) HSX.out k;have hny9 := vg (by omega) HSY.out k
  by_cases hka : k < (tens i).length
  · obtain ⟨b, o, rfl, hb, hc⟩ := hxr.2 (by omega);have hcell := hc k hka;have hm1 : (k : Int) < ((tens i).length : Int) := by omega
    clear hc;by_cases hkb : k < (tens j).length
    · obtain ⟨b', o', rfl, hb', hc'⟩ := hyr.2 (by omega);have hcell' := hc' k hkb;have hm2 : (k : Int) < ((tens j).length : Int) := by omega
      clear hc';have hstep := minus_step i j k HLE.out (s := (nth (tens i) k + 10 - u - nth (tens j) k)) HU.out rfl;have hw8 : 0 ≤ (nth (tens i) k + 10 - u - nth (tens j) k) := hstep.2.2;have hw9 : (nth (tens i) k + 10 - u - nth (tens j) k) < 20 := by omega
      have e1 : (nth (tens i) k + 10 - u - nth (tens j) k) % 10 = ((((nth (tens i) k + 10 - u - nth (tens j) k) % 10).toNat : Nat) : Int) := by omega
      have hC := kx wr _ _ e1;have HC := Lib.hid hC;have H8 : Hid (∀ x ∈ [((nth (tens i) k + 10 - u - nth (tens j) k) % 10).toNat], x < 256) := by intro x hx'; simp only [List.mem_cons, List.not_mem_nil, or_false] at hx'; omega
      have HN : Hid (zs.length + [((nth (tens i) k + 10 - u - nth (tens j) k) % 10).toNat].length ≤ 17592186044416) := by show zs.length + 1 ≤ _; omega
      have hq0 : 0 ≤ 1 - (nth (tens i) k + 10 - u - nth (tens j) k) / 10 := by omega
      have HST := Lib.hid hstep;clear e1 hC hstep;go_wp2_with (at_builtin; go_loud (refine kb rfl (.tmp 32) (.tmp 35) rfl w.heap.size A' c' zs rfl (hown.alloc _) [((nth (tens i) k + 10 - u - nth (tens j) k) % 10).toNat] ⟨wr.heap.size, 0, none⟩ 1 1 rfl rfl (by exact HC.out) H8.out HN.out (by simp; omega) (fun A3 c3 w3 hown3 hg3 => ?_)))
      go_roundw
      case rel => exact ⟨k + 1, A3, c3, zs ++ [((nth (tens i) k + 10 - u - nth (tens j) k) % 10).toNat], _, by omega, by go_num, by simp, rfl, by omega, by omega, by simp; omega, hown3, HST.out.2.1, by show _ = _; rw [HZ.out]; exact HST.out.1, Below.own8 (hbel.alloc (by omega) _) (hown.alloc _) (by simp; omega) hg3⟩
      case measure => simp [intOf]; omega
    · have hm2 : ¬ (k : Int) < ((tens j).length : Int) := by omega
      have h0 := gy (tens j) k (by omega);have HS0 : Hid (nth (tens i) k + 10 - u = nth (tens i) k + 10 - u - nth (tens j) k) := by show _ = _; rw [h0]; omega
      clear h0;have hstep := minus_step i j k HLE.out (s := (nth (tens i) k + 10 - u)) HU.out HS0.out;have hw8 : 0 ≤ (nth (tens i) k + 10 - u) := hstep.2.2;have hw9 : (nth (tens i) k + 10 - u) < 20 := by omega
      have e1 : (nth (tens i) k + 10 - u) % 10 = ((((nth (tens i) k + 10 - u) % 10).toNat : Nat) : Int) := by omega
      have hC := kx wr _ _ e1;have HC := Lib.hid hC;have H8 : Hid (∀ x ∈ [((nth (tens i) k + 10 - u) % 10).toNat], x < 256) := by intro x hx'; simp only [List.mem_cons, List.not_mem_nil, or_false] at hx'; omega
      have HN : Hid (zs.length + [((nth (tens i) k + 10 - u) % 10).toNat].length ≤ 17592186044416) := by show zs.length + 1 ≤ _; omega
      have hq0 : 0 ≤ 1 - (nth (tens i) k + 10 - u) / 10 := by omega
      have HST := Lib.hid hstep;clear e1 hC hstep;go_wp2_with (at_builtin; go_loud (refine kb rfl (.tmp 32) (.tmp 35) rfl w.heap.size A' c' zs rfl (hown.alloc _) [((nth (tens i) k + 10 - u) % 10).toNat] ⟨wr.heap.size, 0, none⟩ 1 1 rfl rfl (by exact HC.out) H8.out HN.out (by simp; omega) (fun A3 c3 w3 hown3 hg3 => ?_)))
      go_roundw
      case rel => exact ⟨k + 1, A3, c3, zs ++ [((nth (tens i) k + 10 - u) % 10).toNat], _, by omega, by go_num, by simp, rfl, by omega, by omega, by simp; omega, hown3, HST.out.2.1, by show _ = _; rw [HZ.out]; exact HST.out.1, Below.own8 (hbel.alloc (by omega) _) (hown.alloc _) (by simp; omega) hg3⟩
      case measure => simp [intOf]; omega
  · have hm1 : ¬ (k : Int) < ((tens i).length : Int) := by omega
    have hend := minus_end i j k (by omega);have hvz : val 10 zs = q.natAbs := by rw [HZ.out, hend, HQ.out]
    have hsm : small 10 zs := by rw [HZ.out]; exact zxq _ _
    have HV := Lib.hid hvz; have HSM := Lib.hid hsm;clear hvz hsm hend;go_wp2_with (go_at_call 94; refine (ypk w.heap.size A' c' zs q _ hown HSM.out HV.out (by omega)).mono ?_; rintro e w4 ⟨rfl, hown4, rfl⟩)
    go_ret
    exact ⟨A', c', rfl, hown4, hbel⟩
end Go.Proofs.YtjdcjdohghkcgaaGreatDoor
namespace Go.Proofs.YtjdcjdohghkcgaaGreatDoor
open Go.RowKit
theorem ylz {xs ys : List Nat} (hs : small 10 xs) (hm : xi ys) (h : xs.length < ys.length) : yaz (val 10 xs) (val 10 ys) = -1 ∧ yaz (val 10 ys) (val 10 xs) = 1 := by
 have := zjk (by decide : 2 ≤ 10) hs hm h;unfold yaz;exact ⟨if_pos this, by rw [if_neg (by omega), if_pos this]⟩
theorem yxv {xs ys : List Nat} (hs : small 10 xs) (h : xs.length = ys.length) {k : Nat} (hk : k < xs.length) (hd : ∀ j, k + 1 ≤ j → nth xs j = nth ys j) (hlt : nth xs k < nth ys k) :
 yaz (val 10 xs) (val 10 ys) = -1 ∧ yaz (val 10 ys) (val 10 xs) = 1 := by
 have := val_lt_of_digit hs h hk (fun j hj _ => (yex _ _ _ _).1 (hd j hj)) ((nth_lt_iff _ _ _ _).1 hlt);unfold yaz;exact ⟨if_pos this, by rw [if_neg (by omega), if_pos this]⟩
theorem cmp_same10 {xs ys : List Nat} (h : xs.length = ys.length) (hd : ∀ j, 0 ≤ j → nth xs j = nth ys j) : yaz (val 10 xs) (val 10 ys) = 0 := by
 have : xs = ys := by
  apply List.ext_getElem h
  intro j h1 h2;have := (yex _ _ _ _).1 (hd j (Nat.zero_le _));simpa [List.getD, List.getElem?_eq_getElem h1, List.getElem?_eq_getElem h2] using this
 subst this;simp [yaz]
set_option maxRecDepth 100000 in
set_option maxHeartbeats 400000 in
theorem rsizes_any (A B : Option Addr) (c d : Nat) (xs ys : List Nat) (w : World) (hx : Nums8 w A xs) (hy : Nums8 w B ys) (hs : small 10 xs) (ht : small 10 ys) (hn : xi xs) (hm : xi ys)
 (hl : xs.length ≤ 1048576) (hl' : ys.length ≤ 1048576) :
 Calls Tryz.prog 138 #[.slice A xs.length c, .slice B ys.length d] w fun e w' => e = .returned (.int .i64 (yaz (val 10 xs) (val 10 ys))) ∧ ∃ n, w' = w.drewN n := by
 by_cases hlen : xs.length = ys.length
 · have hne : ¬ (xs.length : Int) < (ys.length : Int) := by omega
   have hne2 : ¬ (ys.length : Int) < (xs.length : Int) := by omega
   have HL := Lib.hid hlen; clear hlen;go_enter Tryz.func138, Tryz.ntmps138
   go_wp2
   go_loopw [5] (fun v wr => ∃ k : Nat, k ≤ xs.length ∧ v = .int .i64 ((k : Int) - 1) ∧ (∀ j, k ≤ j → nth xs j = nth ys j) ∧ ∃ n, wr = w.drewN n) (fun v _ => (intOf v + 1).toNat)
   case atStart => exact ⟨xs.length, Nat.le_refl _, rfl, fun j hj => by rw [gy xs j hj, gy ys j (by rw [← HL.out]; exact hj)], 0, rfl⟩
   case round =>
    obtain ⟨k, hk, rfl, hz, n, rfl⟩ := hrel;have HZ := Lib.hid hz; clear hz;by_cases hk0 : k = 0
    · subst hk0;go_wp2
      go_ret
      exact ⟨zsv (cmp_same10 HL.out HZ.out).symm, n, rfl⟩
    · obtain ⟨m, rfl⟩ : ∃ m, k = m + 1 := ⟨k - 1, by omega⟩;obtain ⟨b, o, rfl, hb, hc⟩ := hx.2 (by omega);obtain ⟨b', o', rfl, hb', hc'⟩ := hy.2 (by rw [← HL.out]; omega);have hcell := hc m (by omega);have hcell' := hc' m (by rw [← HL.out]; omega);have hm1 : (m : Int) < (xs.length : Int) := by omega
      have hm2 : (m : Int) < (ys.length : Int) := by have := HL.out; omega
      have hm0 : (0 : Int) ≤ (m : Int) := by omega
      clear hc hc';rcases Int.lt_trichotomy (nth xs m) (nth ys m) with h | h | h
      · have hdl : decide (nth xs m < nth ys m) = true := by simpa using h
        have H := Lib.hid h;clear h;go_wp2
        go_quiet (fail)
        go_wp2
        go_ret
        exact ⟨zsv (yxv hs HL.out (by omega) HZ.out H.out).1.symm, _, by simp only [World.drewN_drewN]; rfl⟩
      · have hd1 : decide (nth xs m < nth ys m) = false := by simp [h]
        have hd2 : decide (nth ys m < nth xs m) = false := by simp [h]
        have H := Lib.hid h;clear h;go_wp2
        go_quiet (fail)
        go_wp2
        go_quiet (fail)
        go_wp2
        go_roundw
        case rel => exact ⟨m, by omega, rfl, fun j hj => by
         by_cases e : j = m
         · rw [e]; exact H.out
         · exact HZ.out j (by omega), _, by first | rfl | (simp only [World.drewN_drewN]; rfl)⟩
        case measure => simp [intOf]
      · have hd1 : decide (nth xs m < nth ys m) = false := by simp; omega
        have hd2 : decide (nth ys m < nth xs m) = true := by simpa using h
        have H := Lib.hid h;clear h;go_wp2
        go_quiet (fail)
        go_wp2
        go_quiet (fail)
        go_wp2
        go_ret
        exact ⟨zsv (yxv ht HL.out.symm (by have := HL.out; omega) (fun j hj => (HZ.out j hj).symm) H.out).2.symm, _, by simp only [World.drewN_drewN]; rfl⟩
 · rcases Nat.lt_or_ge xs.length ys.length with h | h
   · have hlt : (xs.length : Int) < (ys.length : Int) := by omega
     go_enter Tryz.func138, Tryz.ntmps138
     go_wp2
     go_ret
     exact ⟨zsv (ylz hs hm h).1.symm, 0, rfl⟩
   · have hlt : ¬ (xs.length : Int) < (ys.length : Int) := by omega
     have hlt2 : (ys.length : Int) < (xs.length : Int) := by omega
     go_enter Tryz.func138, Tryz.ntmps138
     go_wp2
     go_ret
     exact ⟨zsv (ylz ht hn (by omega)).2.symm, 0, rfl⟩
theorem rsizes_tens (A B : Option Addr) (c d : Nat) (i j : Int) (w : World) (hx : Nums8 w A (tens i)) (hy : Nums8 w B (tens j)) (hl : (tens i).length ≤ 1048576) (hl' : (tens j).length ≤ 1048576) :
 Calls Tryz.prog 138 #[.slice A (tens i).length c, .slice B (tens j).length d] w fun e w' => e = .returned (.int .i64 (yaz i.natAbs j.natAbs)) ∧ ∃ n, w' = w.drewN n := by
 have h := rsizes_any A B c d (tens i) (tens j) w hx hy (kr i) (kr j) (by rw [gj]; exact ku (by decide) _) (by rw [gj]; exact ku (by decide) _) hl hl';rwa [val_tens, val_tens] at h
def NumsI (w : World) (A : Option Addr) (xs : List Nat) : Prop :=
 (∀ k, nth xs k < 9223372036854775808) ∧ (0 < xs.length → ∃ b o, A = some ⟨b, o, none⟩ ∧ b < w.heap.size ∧ ∀ k, k < xs.length → w.cell? ⟨b, o + k, none⟩ = some (.int .i64 (nth xs k)))
def rowOfI (ys : List Nat) (j : Nat) : Value := .int .i64 (nth ys j)
def RowI (w : World) (g n : Nat) (ys : List Nat) : Prop := w.rowIs g 3 n (rowOfI ys) ∧ ys.length ≤ n
section
variable {w w' : World} {g n : Nat} {ys : List Nat}
end
def OwnI (w : World) (base : Nat) (A : Option Addr) (c : Nat) (xs : List Nat) : Prop :=
 w.ownsRow base 3 1 (.slice A xs.length c) xs.length (xs.map fun x : Nat => Value.int .i64 (x : Int)) ∧ ∀ x ∈ xs, x < 9223372036854775808
section
variable {w w' : World} {base : Nat} {A : Option Addr} {c : Nat} {xs : List Nat}
end
/-! ### copy into a new row -/
/-! ### append of new words to a slice of the call's own -/
def inR (v : Int) : Prop := -9223372036854775808 ≤ v ∧ v ≤ 9223372036854775807
instance (v : Int) : Decidable (inR v) := by unfold inR; infer_instance
@[irreducible] def intV (ok : Bool) (v : Int) : Int := if ok then (if inR v then v else 0) else 0
@[irreducible] def intE (ok : Bool) (v : Int) : Int := if ok then (if inR v then 0 else 7) else 3
def RetInt (W : World) (ok : Bool) (v : Int) (e : Ending) (w' : World) : Prop := e = .returned (.tuple #[.int .i64 (intV ok v), .int .i64 (intE ok v)]) ∧ Below W.heap.size W w'
section
variable (A : Option Addr) (c : Nat) (xs : List Nat) (w : World)
set_option maxRecDepth 100000
end
end Go.Proofs.YtjdcjdohghkcgaaGreatDoor
namespace Go.Proofs.YtjdcjdohghkcgaaGreatDoor
open Go.RowKit
@[irreducible] def smV (i : Int) : Int := if inR i then i else 0
def RetSmall (W : World) (i : Int) (e : Ending) (w' : World) : Prop := e = .returned (.tuple #[.int .i64 (smV i), .bool (decide (inR i))]) ∧ Below W.heap.size W w'
set_option maxRecDepth 100000
end Go.Proofs.YtjdcjdohghkcgaaGreatDoor
namespace Go.Proofs.YtjdcjdohghkcgaaGreatDoor
open Go.RowKit
set_option maxRecDepth 100000
theorem Per.nums8N {X : Nat → Prop} {w : World} {A : Option Addr} {xs : List Nat} (h : Nums8 w A xs) (hx : ∀ q, A = some q → ¬ X q.block) : Per X w (fun b => Nums8 b A xs) := fun b hb =>
 ⟨h.1, fun h0 => by
  obtain ⟨g, o, rfl, hg, hc⟩ := h.2 h0;exact ⟨g, o, rfl, Nat.lt_of_lt_of_le hg hb.size, fun k hk => (hb.cell (p := ⟨g, o + k, none⟩) hg (hx ⟨g, o, none⟩ rfl)).trans (hc k hk)⟩⟩
theorem Per.nums80 {w : World} {A : Option Addr} {xs : List Nat} (h : Nums8 w A xs) : Per No w (fun b => Nums8 b A xs) := Per.nums8N h (fun _ _ => id)
theorem Per.own8X {X : Nat → Prop} {w : World} {base c : Nat} {A : Option Addr} {xs : List Nat} (h : Own8 w base A c xs) (hx : ∀ k, X k → k < base) : Per X w (fun b => Nums8 b A xs) := Per.nums8N h.nums (fun q hq e => by have := hx _ e; have := (h.ge q hq).1; omega)
theorem zfv {j : Int} (h0 : j ≠ 0) : 0 < (tens j).length := by rw [gj]; exact zev (by decide) (by omega)
theorem rofI {i : Int} (A : Option Addr) (c : Nat) (w : World) (hi : i.natAbs < B18 ^ 30) (hx : Nums w A (limbs i)) : Calls Tryz.prog 57 #[.agg #[.bool (decide (i < 0)), .slice A (limbs i).length c]] w (yfx w i) := by
 have h := rof_any (decide (i < 0)) A c (limbs i) w hx (xk hi);rwa [zkx] at h
theorem rgoodI {i : Int} (A : Option Addr) (c : Nat) (w : World) (hi : i.natAbs < B18 ^ 30) (hx : Nums w A (limbs i)) : Calls Tryz.prog 27 #[.agg #[.bool (decide (i < 0)), .slice A (limbs i).length c]] w fun e w' => e = .returned (.bool true) ∧ Below w.heap.size w w' := by
 have h := rgood_any (decide (i < 0)) c w A (limbs i) (by have := kh hi; omega) hx;rwa [xk hi] at h
end Go.Proofs.YtjdcjdohghkcgaaGreatDoor

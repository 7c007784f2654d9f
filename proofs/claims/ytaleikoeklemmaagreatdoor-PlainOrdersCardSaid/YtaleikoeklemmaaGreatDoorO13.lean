/- Texts of this claim. -/
import Derived.Test.YtaleikoeklemmaaGreatDoorO12
namespace Go.Proofs.YtaleikoeklemmaaGreatDoor
open Go.RowKit
theorem rcut_long (base : Nat) (A : Option Addr) (c : Nat) (ds : List Nat) (i : Int) (w : World) (hown : Own8 w base A c ds) (hs : yd 10 ds) (hv : val 10 ds = i.natAbs) (hl : ds.length ≤ 9223372036854775807) :
 Calls Tryz.prog 121 #[.slice A ds.length c] w fun e w' => e = .returned (.slice A (tens i).length c) ∧ Own8 w base A c (tens i) ∧ w = w' := by
 refine (rcut_any A c ds w hown.nums hs hown.room hl).mono fun e w' h => ?_;obtain ⟨rfl, h2, h3, rfl⟩ := h;rw [hv, ← jp] at h2 h3 ⊢;refine ⟨rfl, ?_, rfl⟩;by_cases h0 : ds = []
 · subst h0;have : tens i = [] := List.eq_nil_of_length_eq_zero (by simpa using h3);rw [this]; exact hown
 · rw [h2]; exact hown.cut h0 h3
theorem yck (base : Nat) (A : Option Addr) (c : Nat) (ds : List Nat) (i : Int) (w : World) (hown : Own8 w base A c ds) (hs : yd 10 ds) (hv : val 10 ds = i.natAbs) (hl : ds.length ≤ 1048576) :
 Calls Tryz.prog 121 #[.slice A ds.length c] w fun e w' => e = .returned (.slice A (tens i).length c) ∧ Own8 w base A c (tens i) ∧ w = w' := rcut_long base A c ds i w hown hs hv (by omega)
theorem of_step {xs : List Nat} (h : yd B18 xs) {k j : Nat} (hj : j < 18) {l : Int} (hl : l = ((xs.getD k 0 / 10 ^ j : Nat) : Int)) :
 pad (18 * k + j) (val B18 xs) ++ [(l % 10).toNat] = pad (18 * k + (j + 1)) (val B18 xs) ∧ l / 10 = ((xs.getD k 0 / 10 ^ (j + 1) : Nat) : Int) := by
 have h1 := limb_digit h k j hj;have h2 := zjk (18 * k + j) (val B18 xs);rw [← h1] at h2;have h3 : xs.getD k 0 / 10 ^ (j + 1) = xs.getD k 0 / 10 ^ j / 10 := by rw [Nat.pow_succ, Nat.div_div_eq_div_mul]
 subst hl;refine ⟨?_, by rw [h3]; omega⟩;rw [show 18 * k + (j + 1) = 18 * k + j + 1 from by omega, h2];congr 2
theorem limb_zero (xs : List Nat) (k : Nat) : nth xs k = ((xs.getD k 0 / 10 ^ 0 : Nat) : Int) := by unfold nth; simp
set_option maxRecDepth 100000
set_option maxHeartbeats 1000000 in
theorem rof_any (n1 : Bool) (A : Option Addr) (c : Nat) (xs : List Nat) (w : World) (hx : Nums w A xs) (hg : yf n1 xs = true) :
 Calls Tryz.prog 87 #[.agg #[.bool n1, .slice A xs.length c]] w (zmv w (num n1 xs)) := by
 obtain ⟨hs, hn, hl, _⟩ := qc hg;have HS := Lib.hid hs;have HN := Lib.hid (neg_num hg);have HA := Lib.hid (oj n1 xs);clear hs hn hg;generalize num n1 xs = i at *
 go_enter Tryz.func87, Tryz.ntmps87
 go_wp2_with fail
 go_loopw [3, 4, 5, 6] (fun dv iv _ _ wr => ∃ (k : Nat) (A' : Option Addr) (c' : Nat) (zs : List Nat), k ≤ xs.length ∧ iv = .int .i64 k ∧ dv = .slice A' zs.length c' ∧ zs.length ≤ 18 * k ∧ Own8 wr (w.heap.size + 2) A' c' zs ∧
  Hid (zs = pad (18 * k) (val B18 xs)) ∧ Below (w.heap.size + 2) ((w.alloc (.cells #[.bool n1, .slice A xs.length c] 24)).alloc (.cells #[.bool false, .slice none 0 0] 45)) wr) (fun _ iv _ _ _ => xs.length - (intOf iv).toNat)
 case atStart => exact ⟨0, none, 0, [], Nat.zero_le _, rfl, rfl, by simp, Own8.nil _ _, rfl, Below.refl _ _⟩
 case round =>
  obtain ⟨k, A', c', zs, hk, rfl, rfl, hzl, hown, HZ, hbel⟩ := hrel;have R0 := (Blk.first w 24 #[.bool n1, .slice A xs.length c] (.cells #[.bool false, .slice none 0 0] 45)).below hbel (by omega);have R1 := (Blk.new1 w (.cells #[.bool n1, .slice A xs.length c] 24) 45 #[.bool false, .slice none 0 0]).below hbel (by omega)
  have hxr : Nums wr A xs := hx.below (w := w) (B := w.heap.size) ((((Below.refl _ _).alloc (Nat.le_refl _) _).alloc (by simp) _).trans (hbel.mono (by omega))) (Nat.le_refl _);obtain ⟨r0, r1, r2, r3⟩ := R0.two;have hsz := hbel.size;simp only [World.size_alloc] at hsz
  by_cases hkn : k < xs.length
  · obtain ⟨b, o, rfl, hb, hc⟩ := hxr.2 (by omega);have hcell := hc k hkn;have hm1 : (k : Int) < (xs.length : Int) := by omega
    have hm0 : (0 : Int) ≤ (k : Int) := by omega
    have hnn := yk xs k;have hnl := qr (by unfold B18; omega) HS.out k;rw [B18_eq] at hnl;have HL0 := Lib.hid (limb_zero xs k);clear hc;go_wp2_with fail
    obtain ⟨wo, rfl⟩ : ∃ wo : World, wo = wr := ⟨_, rfl⟩;go_loopw [3, 5, 6] (fun dv lv jv wi => ∃ (j : Nat) (l : Int) (A' : Option Addr) (c' : Nat) (zs : List Nat), j ≤ 18 ∧ jv = .int .i64 j ∧ lv = .int .u64 l ∧ 0 ≤ l ∧ l < 1000000000000000000 ∧ dv = .slice A' zs.length c' ∧ zs.length ≤ 18 * k + j ∧ Own8 wi (w.heap.size + 2) A' c' zs ∧
     Hid (l = ((xs.getD k 0 / 10 ^ j : Nat) : Int)) ∧ Hid (zs = pad (18 * k + j) (val B18 xs)) ∧ Below (w.heap.size + 2) ((w.alloc (.cells #[.bool n1, .slice (some ⟨b, o, none⟩) xs.length c] 24)).alloc (.cells #[.bool false, .slice none 0 0] 45)) wi) (fun _ _ jv _ => 18 - (intOf jv).toNat)
    case atStart => exact ⟨0, nth xs k, A', c', zs, by omega, rfl, rfl, hnn, by omega, rfl, by omega, hown, HL0, HZ, hbel⟩
    case round =>
     obtain ⟨j, l, A2, c2, ys, hj, rfl, rfl, hl0, hl1, rfl, hyl, hown2, HL, HY, hbel2⟩ := hrel;have hsz2 := hbel2.size;simp only [World.size_alloc] at hsz2
     by_cases hj18 : j < 18
     · have hstep := of_step HS.out hj18 HL.out;have hw8 := wrap8 (l % 10) (by omega) (by omega);have e1 : l % 10 = (((l % 10).toNat : Nat) : Int) := by omega
       have HC := Lib.hid (kb wr _ _ e1);have H8 : Hid (∀ x ∈ [(l % 10).toNat], x < 256) := by intro x hx'; simp only [List.mem_cons, List.not_mem_nil, or_false] at hx'; omega
       have HN : Hid (ys.length + [(l % 10).toNat].length ≤ 17592186044416) := by show ys.length + 1 ≤ _; omega
       have HST := Lib.hid hstep;have hj18' : (j : Int) < 18 := by omega
       clear e1 hstep;go_wp2_with (at_builtin; go_loud (refine jw rfl (.tmp 23) (.tmp 27) rfl (w.heap.size + 2) A2 c2 ys rfl (hown2.alloc _) [(l % 10).toNat] ⟨wr.heap.size, 0, none⟩ 1 1 rfl rfl (by exact HC.out) H8.out HN.out (by simp; omega) (fun A3 c3 w3 hown3 hg3 => ?_)))
       go_roundw
       case rel => exact ⟨j + 1, l / 10, A3, c3, ys ++ [(l % 10).toNat], by omega, by go_num, by go_num, by omega, by omega, by simp, by simp; omega, hown3, HST.out.2, by show _ = _; rw [HY.out]; exact HST.out.1, Below.own8 (hbel2.alloc (by simpa using hsz2) _) (hown2.alloc _) (by simp; omega) hg3⟩
       case measure => simp [intOf]; omega
     · obtain rfl : j = 18 := by omega
       have HY2 : Hid (ys = pad (18 * (k + 1)) (val B18 xs)) := HY;clear HY;go_wp2_with fail
       go_roundw
       case rel => exact ⟨k + 1, A2, c2, ys, by omega, by go_num, rfl, by omega, hown2, HY2, hbel2⟩
       case measure => simp [intOf]; omega
  · obtain rfl : k = xs.length := by omega
    have hvz : val 10 zs = i.natAbs := by
     rw [HZ.out, yiv, Nat.mod_eq_of_lt (val_lt18 HS.out), HA.out]
    have hsz10 : yd 10 zs := by rw [HZ.out]; exact zov _ _
    have HV := Lib.hid hvz; have H10 := Lib.hid hsz10;clear hvz hsz10;obtain ⟨q0, q1, q2, q3⟩ := R1.two;go_wp2_with fail
    go_region_with (go_at_call 121; refine (yck (w.heap.size + 2) _ _ _ i _ (by first | exact hown | exact hown.drew) H10.out HV.out (by omega)).mono ?_; rintro e w' ⟨rfl, hown3, rfl⟩)
    all_goals
     go_wp2_with fail
     refine bodyPost_ret (v := .agg #[.bool n1, .slice A' (tens i).length c']) (by simp [results, Tryz.results87, go_sem, q0, q1]) rfl ?_;exact ⟨A', c', by rw [HN.out], ((hown3.setBelow (by show w.heap.size + 1 < w.heap.size + 2; omega) _).setBelow (by show w.heap.size + 1 < w.heap.size + 2; omega) _).mono (by omega),
      ((((((Below.refl _ _).alloc (Nat.le_refl _) _).alloc (by simp) _).trans (hbel.mono (by omega))).drew).setCell (by show w.heap.size ≤ w.heap.size + 1; omega) _).setCell (by show w.heap.size ≤ w.heap.size + 1; omega) _⟩
end Go.Proofs.YtaleikoeklemmaaGreatDoor
namespace Go.Proofs.YtaleikoeklemmaaGreatDoor
open Go.RowKit
theorem to_step (n : Int) (m j : Nat) (hj : j < 18) {l : Int} (hl : l = ((n.natAbs / B18 ^ m % B18 / 10 ^ (j + 1) : Nat) : Int)) :
 l * 10 + nth (tens n) (18 * m + j) = ((n.natAbs / B18 ^ m % B18 / 10 ^ j : Nat) : Int) ∧ 0 ≤ l ∧ l < 100000000000000000 := by
 have h1 := limb_step (n.natAbs / B18 ^ m) j hj;have h2 : nth (tens n) (18 * m + j) = ((n.natAbs / B18 ^ m / 10 ^ j % 10 : Nat) : Int) := by rw [zkk, chunk_div]
 have h3 : n.natAbs / B18 ^ m % B18 / 10 ^ (j + 1) < 100000000000000000 := by
  have h4 : n.natAbs / B18 ^ m % B18 < B18 := Nat.mod_lt _ (by unfold B18; omega);have h5 : n.natAbs / B18 ^ m % B18 / 10 ^ (j + 1) ≤ n.natAbs / B18 ^ m % B18 / 10 := by
   rw [Nat.pow_succ, Nat.mul_comm, ← Nat.div_div_eq_div_mul]; exact Nat.div_le_self _ _
  unfold B18 at h4 h5 ⊢;omega
 subst hl;rw [h2];refine ⟨?_, by omega, by omega⟩;rw [h1];omega
theorem Blk.app {w w3 : World} {g : Nat} {t : TypeId} {cs : Array Value} {base : Nat} {A : Option Addr} {c : Nat} {xs : List Nat} (h : Blk w g t cs) (hown : Own w base A c xs) (hg : w.grownBy w3 (Value.slice A xs.length c).ownBlock) (ht : 25 ≠ t) : Blk w3 g t cs :=
 h.grown hg (fun e => zfv hown.1 h ht e.symm)
theorem ne_big : (25 : TypeId) ≠ 24 := by decide
theorem to_top (n : Int) (m : Nat) : (0 : Int) = ((n.natAbs / B18 ^ m % B18 / 10 ^ 18 : Nat) : Int) := by
 have h4 : n.natAbs / B18 ^ m % B18 < 10 ^ 18 := Nat.mod_lt _ (by unfold B18; omega);rw [Nat.div_eq_of_lt h4]; rfl
theorem to_peel (n : Int) (m : Nat) (h : ¬ (tens n).length ≤ 18 * m) {zs : List Nat} (hz : zs ++ vo B18 (n.natAbs / B18 ^ m) = limbs n) {l : Int} (hl : l = ((n.natAbs / B18 ^ m % B18 / 10 ^ 0 : Nat) : Int)) :
 (zs ++ [l.toNat]) ++ vo B18 (n.natAbs / B18 ^ (m + 1)) = limbs n ∧ l.toNat < 1000000000000000000 := by
 rw [digs_peel qo _ _ (fun e => h ((tens_le n m).2 e))] at hz;subst hl;refine ⟨?_, ?_⟩
 · rw [List.append_assoc, ← hz, Nat.pow_zero, Nat.div_one, Int.toNat_natCast, List.singleton_append]
 · have h4 : n.natAbs / B18 ^ m % B18 < B18 := Nat.mod_lt _ (by unfold B18; omega);unfold B18 at h4 ⊢;simp only [Nat.pow_zero, Nat.div_one]
   omega
theorem to_end (n : Int) (m : Nat) (h : (tens n).length ≤ 18 * m) {zs : List Nat} (hz : zs ++ vo B18 (n.natAbs / B18 ^ m) = limbs n) : zs = limbs n := by
 rw [(tens_le n m).1 h, zek, List.append_nil] at hz;exact hz
theorem tens_pos {n : Int} (h : n < 0) : 0 < (tens n).length := by
 rw [jp]; exact xl (by decide) (by omega)
set_option maxRecDepth 100000
set_option maxHeartbeats 1000000 in
theorem rto_any (A : Option Addr) (c : Nat) (n : Int) (w : World) (hx : Nums8 w A (tens n)) (hl : (tens n).length ≤ 1048576) :
 Calls Tryz.prog 42 #[.agg #[.bool (decide (n < 0)), .slice A (tens n).length c]] w (RetBig w n) := by
 obtain ⟨bn, hbn⟩ : ∃ bn, bn = decide (n < 0) := ⟨_, rfl⟩;rw [← hbn];have HB := Lib.hid hbn;have hpos : bn = true → 0 < (tens n).length := fun e => tens_pos (by rw [e] at hbn; simpa using hbn.symm);have HP := Lib.hid hpos;clear hbn hpos;have hsm := gu n;have HS := Lib.hid hsm;clear hsm;go_enter Tryz.func42, Tryz.ntmps42
 go_wp2_with fail
 go_loopw [4, 5, 6] (fun iv _ _ wr => ∃ (I : Int) (m : Nat) (A' : Option Addr) (c' : Nat) (zs : List Nat), iv = .int .i64 I ∧ 0 ≤ I ∧ I ≤ 2000000 ∧ zs.length ≤ m ∧ Hid (I = 18 * (m : Int)) ∧ Blk wr (w.heap.size + 2) 24 #[.bool false, .slice A' zs.length c'] ∧ Own wr (w.heap.size + 3) A' c' zs ∧
  Hid (zs ++ vo B18 (n.natAbs / B18 ^ m) = limbs n) ∧ Below (w.heap.size + 2) ((w.alloc (.cells #[.bool bn, .slice A (tens n).length c] 45)).alloc (.cells #[.bool false, .slice none 0 0] 24)) wr) (fun iv _ _ _ => 2000000 - (intOf iv).toNat)
 case atStart => exact ⟨0, 0, none, 0, [], rfl, by omega, by omega, by simp, by show _ = _; rfl, Blk.newAt (by simp), Own.nil _ _, by show _ = _; rw [qt]; simp, (Below.refl _ _).alloc (by simp) _⟩
 case round =>
  obtain ⟨I, m, A', c', zs, rfl, hI0, hI1, hzm, HI, RX, hown, HZ, hbel⟩ := hrel;have R0 := (Blk.first w 45 #[.bool bn, .slice A (tens n).length c] (.cells #[.bool false, .slice none 0 0] 24)).below hbel (by omega);have R1 := (Blk.new1 w (.cells #[.bool bn, .slice A (tens n).length c] 45) 24 #[.bool false, .slice none 0 0]).below hbel (by omega)
  have hxr : Nums8 wr A (tens n) := hx.below (w := w) (B := w.heap.size) ((((Below.refl _ _).alloc (Nat.le_refl _) _).alloc (by simp) _).trans (hbel.mono (by omega))) (Nat.le_refl _);obtain ⟨r0, r1, r2, r3⟩ := R0.two;obtain ⟨q0, q1, q2, q3⟩ := R1.two;obtain ⟨x0, x1, x2, x3⟩ := RX.two;have hsz := RX.lt;by_cases hkn : I < ((tens n).length : Int)
  · have HN1 : Hid (¬ (tens n).length ≤ 18 * m) := by have := HI.out; show ¬ _; omega
    obtain ⟨b, o, rfl, hb, hc⟩ := hxr.2 (by omega);have HC := Lib.hid hc;clear hc;go_wp2_with fail
    go_loop [5, 6] (fun lv kv => ∃ (j : Nat) (l K : Int), lv = .int .u64 l ∧ kv = .int .i64 K ∧ j ≤ 18 ∧ Hid (K = I + (j : Int) - 1) ∧ Hid (l = ((n.natAbs / B18 ^ m % B18 / 10 ^ j : Nat) : Int)) ∧ 0 ≤ l ∧ l < 1000000000000000000 ∧ I - 1 ≤ K ∧ K ≤ I + 17) (fun _ kv => (intOf kv + 1).toNat)
    case atStart => exact ⟨18, 0, I + 17, rfl, rfl, by omega, by show _ = _; omega, to_top n m, by omega, by omega, by omega, by omega⟩
    case round =>
     obtain ⟨j, l, K, rfl, rfl, hj, HK, HL, hl0, hl1, hK0, hK1⟩ := hrel;by_cases hj0 : j = 0
     · subst hj0;have hKI : K < I := by have := HK.out; omega
       have hpeel := to_peel n m HN1.out HZ.out HL.out;have HPL := Lib.hid hpeel;have e1 : l = ((l.toNat : Nat) : Int) := by omega
       have hC1 := yek wr _ _ e1;have H64 : Hid (∀ x ∈ [l.toNat], x < 18446744073709551616) := by intro x hx'; simp only [List.mem_cons, List.not_mem_nil, or_false] at hx'; omega
       have HN : Hid (zs.length + [l.toNat].length ≤ 17592186044416) := by have := HI.out; show zs.length + 1 ≤ _; omega
       have HC1 := Lib.hid hC1;have hmI : Hid (I + 18 = 18 * ((m + 1 : Nat) : Int)) := by have := HI.out; show _ = _; omega
       have hIl : I < 1048576 := by omega
       have HB0 : Hid (w.heap.size + 3 ≤ (wr.alloc (.cells #[.int .u64 l] 25)).heap.size) := by show _ ≤ _; simp; omega
       clear e1 hC1 hpeel hl;go_wp2_with (at_builtin; (refine zev rfl (.tmp 37) (.tmp 39) rfl (w.heap.size + 3) A' c' zs rfl (hown.alloc _) [l.toNat] ⟨wr.heap.size, 0, none⟩ 1 1 rfl rfl (by exact HC1.out) H64.out HN.out HB0.out (fun A3 c3 w3 hown3 hg3 => ?_)); (have RX3 := (RX.alloc _).app (hown.alloc _) hg3 ne_big); obtain ⟨y0, y1, y2, y3⟩ := RX3.two)
       go_roundw
       case rel => exact ⟨I + 18, m + 1, A3, c3, zs ++ [l.toNat], rfl, by omega, by omega, by simp; omega, hmI, by simpa using RX3.set_ 1 (.slice A3 (zs ++ [l.toNat]).length c3), hown3.setBelow (by show w.heap.size + 2 < w.heap.size + 3; omega) _, HPL.out.1,
        (Below.own (hbel.alloc (by omega) _) ((hown.alloc _).mono (by omega)) (by simp; omega) hg3).setCell (by show w.heap.size + 2 ≤ w.heap.size + 2; omega) _⟩
       case measure => simp [intOf]; omega
     · obtain ⟨j, rfl⟩ : ∃ j', j = j' + 1 := ⟨j - 1, by omega⟩;have hKI : I ≤ K := by have := HK.out; omega
       obtain ⟨hs1, _, hs3⟩ := to_step n m j (by omega) HL.out;have hKj : K.toNat = 18 * m + j := by have := HK.out; have := HI.out; omega
       have hKj2 : K - 1 = I + (j : Int) - 1 := by have := HK.out; omega
       rw [← hKj] at hs1;have hnn := yk (tens n) K.toNat;have hn10 := qr (by omega) HS.out K.toNat;have hKp : 0 ≤ K := by omega
       have hw10 : IntKind.u64.wrap (l * 10) = l * 10 := by simp [IntKind.wrap, IntKind.signed, IntKind.bits]; omega
       have HS1 := Lib.hid hs1; have HKJ2 := Lib.hid hKj2;clear hKj hs1 hKj2;by_cases hKl : K < ((tens n).length : Int)
       · have hcell := HC.out K.toNat (by omega);go_wp2
         go_round
         case rel => exact ⟨j, _, K - 1, rfl, rfl, by omega, HKJ2, HS1, by omega, by omega, by omega, by omega⟩
         case measure => simp [intOf]; omega
       · have hz0 : nth (tens n) K.toNat = 0 := jg _ _ (by omega);have HS2 : Hid (l * 10 = ((n.natAbs / B18 ^ m % B18 / 10 ^ j : Nat) : Int)) := by have := HS1.out; rw [hz0] at this; show _ = _; omega
         clear hz0;go_wp2
         go_round
         case rel => exact ⟨j, _, K - 1, rfl, rfl, by omega, HKJ2, HS2, by omega, by omega, by omega, by omega⟩
         case measure => simp [intOf]; omega
  · have hze := to_end n m (by have := HI.out; omega) HZ.out;subst hze;clear HZ;cases bn
    · go_wp2_with fail
      refine bodyPost_ret (v := .agg #[.bool false, .slice A' (limbs n).length c']) (by simp [results, Tryz.results42, go_sem, q0, q1]) rfl ?_;exact ⟨A', c', by rw [← HB.out], (((hown.setBelow (by show w.heap.size + 2 < w.heap.size + 3; omega) _).setBelow (by show w.heap.size + 1 < w.heap.size + 3; omega) _).setBelow (by show w.heap.size + 1 < w.heap.size + 3; omega) _).mono (by omega),
       ((((((Below.refl _ _).alloc (Nat.le_refl _) _).alloc (by simp) _).trans (hbel.mono (by omega))).setCell (by show w.heap.size ≤ w.heap.size + 2; omega) _).setCell (by show w.heap.size ≤ w.heap.size + 1; omega) _).setCell (by show w.heap.size ≤ w.heap.size + 1; omega) _⟩
    · have hp0 : 0 < (tens n).length := HP.out rfl;go_wp2_with fail
      refine bodyPost_ret (v := .agg #[.bool true, .slice A' (limbs n).length c']) (by simp [results, Tryz.results42, go_sem, q0, q1]) rfl ?_;exact ⟨A', c', by rw [← HB.out], (((hown.setBelow (by show w.heap.size + 2 < w.heap.size + 3; omega) _).setBelow (by show w.heap.size + 1 < w.heap.size + 3; omega) _).setBelow (by show w.heap.size + 1 < w.heap.size + 3; omega) _).mono (by omega),
       ((((((Below.refl _ _).alloc (Nat.le_refl _) _).alloc (by simp) _).trans (hbel.mono (by omega))).setCell (by show w.heap.size ≤ w.heap.size + 2; omega) _).setCell (by show w.heap.size ≤ w.heap.size + 1; omega) _).setCell (by show w.heap.size ≤ w.heap.size + 1; omega) _⟩
end Go.Proofs.YtaleikoeklemmaaGreatDoor
namespace Go.Proofs.YtaleikoeklemmaaGreatDoor
open Go.RowKit
def od (n1 : Bool) (xs : List Nat) (n2 : Bool) (ys : List Nat) : Bool := (n1 == n2) && (xs == ys)
theorem list_eq_of_nth {xs ys : List Nat} (hl : xs.length = ys.length) (h : ∀ j, j < xs.length → nth xs j = nth ys j) : xs = ys := by
 apply List.ext_getElem hl
 intro j h1 h2;have := (ol xs ys j j).1 (h j h1);simpa [List.getD, List.getElem?_eq_getElem h1, List.getElem?_eq_getElem h2] using this
theorem sameB_neg {n1 n2 : Bool} {xs ys : List Nat} (h : n1 ≠ n2) : od n1 xs n2 ys = false := by unfold od; simp [h]
theorem sameB_len {n1 n2 : Bool} {xs ys : List Nat} (h : xs.length ≠ ys.length) : od n1 xs n2 ys = false := by
 unfold od;have : (xs == ys) = false := beq_eq_false_iff_ne.2 fun e => h (by rw [e]);rw [this, Bool.and_false]
theorem sameB_digit {n1 n2 : Bool} {xs ys : List Nat} {k : Nat} (h : nth xs k ≠ nth ys k) : od n1 xs n2 ys = false := by
 unfold od;have : (xs == ys) = false := beq_eq_false_iff_ne.2 fun e => h (by rw [e]);rw [this, Bool.and_false]
theorem sameB_yes {n : Bool} {xs ys : List Nat} (hl : xs.length = ys.length) (h : ∀ j, j < xs.length → nth xs j = nth ys j) : od n xs n ys = true := by
 rw [list_eq_of_nth hl h]; unfold od; simp
section
variable (A B : Option Addr) (c d : Nat) (xs ys : List Nat) (w : World)
set_option maxRecDepth 100000
set_option maxHeartbeats 1000000 in
theorem rsame_any (n1 n2 : Bool) (hx : Nums w A xs) (hy : Nums w B ys) (hl : xs.length ≤ 1048576) (hl' : ys.length ≤ 1048576) :
 Calls Tryz.prog 34 #[.agg #[.bool n1, .slice A xs.length c], .agg #[.bool n2, .slice B ys.length d]] w fun e w' => e = .returned (.bool (od n1 xs n2 ys)) ∧ Below w.heap.size w w' := by
 have L0 : Below w.heap.size w ((w.alloc (.cells #[.bool n1, .slice A xs.length c] 24)).alloc (.cells #[.bool n2, .slice B ys.length d] 24)) := ((Below.refl _ _).alloc (Nat.le_refl _) _).alloc (by simp) _;by_cases hn : n1 = n2
 · subst hn;by_cases hlen : xs.length = ys.length
   · have hne : ((xs.length : Int) != (ys.length : Int)) = false := by simp [hlen]
     have hnn : (n1 != n1) = false := by simp
     have HL := Lib.hid hlen; clear hlen;go_enter Tryz.func34, Tryz.ntmps34
     go_wp2
     go_loopw [5] (fun v wr => ∃ k : Nat, k ≤ xs.length ∧ v = .int .i64 k ∧ (∀ j, j < k → nth xs j = nth ys j) ∧ ∃ n, wr = ((w.alloc (.cells #[.bool n1, .slice A xs.length c] 24)).alloc (.cells #[.bool n1, .slice B ys.length d] 24)).drewN n) (fun v _ => xs.length - (intOf v).toNat)
     case atStart => exact ⟨0, Nat.zero_le _, rfl, fun j hj => absurd hj (by omega), 0, rfl⟩
     case round =>
      obtain ⟨k, hk, rfl, hz, n, rfl⟩ := hrel;have HZ := Lib.hid hz; clear hz;rcases Nat.lt_or_ge k xs.length with hk' | hk'
      · obtain ⟨b, o, rfl, hb, hc⟩ := hx.2 (by omega);obtain ⟨b', o', rfl, hb', hc'⟩ := hy.2 (by rw [← HL.out]; omega);have hcell := hc k (by omega);have hcell' := hc' k (by rw [← HL.out]; omega);have hm1 : (k : Int) < (xs.length : Int) := by omega
        have hm2 : (k : Int) < (ys.length : Int) := by have := HL.out; omega
        have hm0 : (0 : Int) ≤ (k : Int) := by omega
        clear hc hc';by_cases h : nth xs k = nth ys k
        · have hne' : (nth xs k != nth ys k) = false := by simp [h]
          have H := Lib.hid h;clear h;go_wp2
          go_quiet (fail)
          go_wp2
          go_roundw
          case rel => exact ⟨k + 1, by omega, by go_num, fun j hj => by
           by_cases e : j = k
           · rw [e]; exact H.out
           · exact HZ.out j (by omega), _, by first | rfl | (simp only [World.drewN_drewN]; rfl)⟩
          case measure => simp [intOf]; omega
        · have hne' : (nth xs k != nth ys k) = true := by simpa using h
          have H := Lib.hid h;clear h;go_wp2
          go_quiet (fail)
          go_wp2
          go_ret
          exact ⟨xh (sameB_digit H.out).symm, by first | exact L0.drewN _ | exact ⟨L0.os, L0.tape, L0.output, L0.size, L0.block⟩⟩
      · obtain rfl : k = xs.length := by omega
        go_wp2
        go_ret
        exact ⟨xh (sameB_yes HL.out HZ.out).symm, by exact ⟨L0.os, L0.tape, L0.output, L0.size, L0.block⟩⟩
   · have hne : ((xs.length : Int) != (ys.length : Int)) = true := by simp; omega
     have hnn : (n1 != n1) = false := by simp
     have H := Lib.hid hlen;clear hlen;go_enter Tryz.func34, Tryz.ntmps34
     go_wp2
     go_ret
     exact ⟨xh (sameB_len H.out).symm, L0⟩
 · have hnn : (n1 != n2) = true := by simpa using hn
   have H := Lib.hid hn;clear hn;go_enter Tryz.func34, Tryz.ntmps34
   go_wp2
   go_ret
   exact ⟨xh (sameB_neg H.out).symm, L0⟩
end
theorem ju {a b w' : World} (h : Below a.heap.size a b) (k : Below b.heap.size b w') : Below a.heap.size a w' := h.trans (k.mono h.size)
theorem yaz {a w' : World} (k : Below a.drew.heap.size a.drew w') : Below a.heap.size a w' := ⟨k.os, k.tape, k.output, k.size, k.block⟩
theorem Nums.since {a b : World} {A : Option Addr} {xs : List Nat} (h : Nums a A xs) (k : Below a.heap.size a b) : Nums b A xs := h.below k (Nat.le_refl _)
theorem Nums8.since {a b : World} {A : Option Addr} {xs : List Nat} (h : Nums8 a A xs) (k : Below a.heap.size a b) : Nums8 b A xs := h.below k (Nat.le_refl _)
@[irreducible] def outV (ok : Bool) (s : Int) : Int := if ok then (if s.natAbs < B18 ^ 30 then s else 0) else 0
@[irreducible] def outE (ok : Bool) (s : Int) : Int := if ok then (if s.natAbs < B18 ^ 30 then 0 else 7) else 3
theorem ow {s : Int} (h : s.natAbs < B18 ^ 30) : outV true s = s := by unfold outV; rw [if_pos rfl, if_pos h]
theorem oz {s : Int} (h : s.natAbs < B18 ^ 30) : outE true s = 0 := by unfold outE; rw [if_pos rfl, if_pos h]
theorem outV_big {s : Int} (h : B18 ^ 30 ≤ s.natAbs) : outV true s = 0 := by unfold outV; rw [if_pos rfl, if_neg (by omega)]
theorem zwk {s : Int} (h : B18 ^ 30 ≤ s.natAbs) : outE true s = 7 := by unfold outE; rw [if_pos rfl, if_neg (by omega)]
theorem outV_bad (s : Int) : outV false s = 0 := by unfold outV; rfl
theorem outE_bad (s : Int) : outE false s = 3 := by unfold outE; rfl
section
variable (A B : Option Addr) (c d : Nat) (xs ys : List Nat) (w : World)
set_option maxRecDepth 100000
theorem add_any (n1 n2 : Bool) (hx : Nums w A xs) (hy : Nums w B ys) (hl : xs.length ≤ 9223372036854775807) (hl' : ys.length ≤ 9223372036854775807) :
 Calls Tryz.prog 95 #[.agg #[.bool n1, .slice A xs.length c], .agg #[.bool n2, .slice B ys.length d]] w
  (qa w (outV (yf n1 xs && yf n2 ys) (num n1 xs + num n2 ys)) (outE (yf n1 xs && yf n2 ys) (num n1 xs + num n2 ys))) := by
 cases h : (yf n1 xs && yf n2 ys)
 · rw [outV_bad, outE_bad]; exact add_form A B c d xs ys w n1 n2 hx hy hl hl' h
 · obtain ⟨hg, hk⟩ := Bool.and_eq_true_iff.1 h;rcases Nat.lt_or_ge (num n1 xs + num n2 ys).natAbs (B18 ^ 30) with hf | hf
   · rw [ow hf, oz hf]; exact add_ok A B c d xs ys w n1 n2 hx hy hg hk hf
   · rw [outV_big hf, zwk hf]; exact add_range A B c d xs ys w n1 n2 hx hy hg hk hf
end
theorem Below.drewN {B : Nat} {a w : World} (h : Below B a w) (n : Nat) : Below B a (w.drewN n) := ⟨h.os, h.tape, h.output, h.size, h.block⟩
@[irreducible] def cmpO (ok : Bool) (i j : Int) : Int := if ok then gj i j else 0
theorem cmp_pos {xs ys : List Nat} : gh (val B18 xs) (val B18 ys) = gj (num false xs) (num false ys) := by
 rw [jj, jj]; unfold gj gh sgn;by_cases h1 : val B18 xs < val B18 ys
 · simp [h1]
 · by_cases h2 : val B18 ys < val B18 xs <;> simp [h1, h2]
theorem cmp_neg {xs ys : List Nat} : gh (val B18 ys) (val B18 xs) = gj (num true xs) (num true ys) := by
 rw [jj, jj]; unfold gj gh sgn;by_cases h1 : val B18 ys < val B18 xs
 · simp [h1]
 · by_cases h2 : val B18 xs < val B18 ys <;> simp [h1, h2]
theorem cmp_lt {xs ys : List Nat} (hg : yf true xs = true) : gj (num true xs) (num false ys) = -1 := by
 have h := neg_num hg;have h1 : num true xs < 0 := by simpa using h
 have h2 : (0 : Int) ≤ num false ys := by rw [jj]; unfold sgn; simp
 unfold gj; rw [if_pos (by omega)]
theorem cmp_gt {xs ys : List Nat} (hk : yf true ys = true) : gj (num false xs) (num true ys) = 1 := by
 have h := neg_num hk;have h1 : num true ys < 0 := by simpa using h
 have h2 : (0 : Int) ≤ num false xs := by rw [jj]; unfold sgn; simp
 unfold gj; rw [if_neg (by omega), if_pos (by omega)]
section
variable (A B : Option Addr) (c d : Nat) (xs ys : List Nat) (w : World)
set_option maxRecDepth 100000
set_option maxHeartbeats 1000000 in
theorem cmp_bad_x (n1 n2 : Bool) (hx : Nums w A xs) (hl : xs.length ≤ 9223372036854775807) (hg : yf n1 xs = false) :
 Calls Tryz.prog 29 #[.agg #[.bool n1, .slice A xs.length c], .agg #[.bool n2, .slice B ys.length d]] w fun e w' => e = .returned (.int .i64 0) ∧ Below w.heap.size w w' := by
 go_enter Tryz.func29, Tryz.ntmps29
 go_wp2_with fail
 refine (yy n1 c _ A xs hl ((hx.alloc _).alloc _)).mono ?_;rintro e w1 ⟨rfl, hb1⟩;have L1 : Below w.heap.size w w1 := (((Below.refl _ _).alloc (Nat.le_refl _) _).alloc (by simp) _).trans (hb1.mono (by simp; omega));go_wp2_with fail
 go_ret
 exact ⟨rfl, L1⟩
set_option maxHeartbeats 1000000 in
theorem cmp_bad_y (n1 n2 : Bool) (hx : Nums w A xs) (hy : Nums w B ys) (hl : ys.length ≤ 9223372036854775807) (hg : yf n1 xs = true) (hk : yf n2 ys = false) :
 Calls Tryz.prog 29 #[.agg #[.bool n1, .slice A xs.length c], .agg #[.bool n2, .slice B ys.length d]] w fun e w' => e = .returned (.int .i64 0) ∧ Below w.heap.size w w' := by
 obtain ⟨_, _, hlx, _⟩ := qc hg;go_enter Tryz.func29, Tryz.ntmps29
 go_wp2_with fail
 refine (yy n1 c _ A xs (by omega) ((hx.alloc _).alloc _)).mono ?_;rintro e w1 ⟨rfl, hb1⟩;have Y1 := (Blk.new (w.alloc (.cells #[.bool n1, .slice A xs.length c] 24)) 24 #[.bool n2, .slice B ys.length d]).below hb1 (by simp);have L1 : Below w.heap.size w w1 := (((Below.refl _ _).alloc (Nat.le_refl _) _).alloc (by simp) _).trans (hb1.mono (by simp; omega));simp only [World.size_alloc] at Y1
 obtain ⟨y0, y1, y2, y3⟩ := Y1.two;go_wp2_with fail
 refine (yy n2 d _ B ys hl (hy.below L1 (Nat.le_refl _))).mono ?_;rintro e w2 ⟨rfl, hb2⟩;have L2 := L1.trans (hb2.mono L1.size);go_wp2_with fail
 go_ret
 exact ⟨rfl, L2⟩
set_option maxHeartbeats 1000000 in
theorem cmp_good (n1 n2 : Bool) (hx : Nums w A xs) (hy : Nums w B ys) (hg : yf n1 xs = true) (hk : yf n2 ys = true) :
 Calls Tryz.prog 29 #[.agg #[.bool n1, .slice A xs.length c], .agg #[.bool n2, .slice B ys.length d]] w fun e w' => e = .returned (.int .i64 (gj (num n1 xs) (num n2 ys))) ∧ Below w.heap.size w w' := by
 obtain ⟨hs, hn, hlx, _⟩ := qc hg;obtain ⟨ht, hm, hly, _⟩ := qc hk;cases n1 <;> cases n2
 case false.false =>
  have HV := Lib.hid (cmp_pos (xs := xs) (ys := ys));go_enter Tryz.func29, Tryz.ntmps29
  go_wp2_with fail
  refine (yy false c _ A xs (by omega) ((hx.alloc _).alloc _)).mono ?_;rintro e w1 ⟨rfl, hb1⟩;have X1 := (Blk.first w 24 #[.bool false, .slice A xs.length c] (.cells #[.bool false, .slice B ys.length d] 24)).below hb1 (by simp; omega);have Y1 := (Blk.new (w.alloc (.cells #[.bool false, .slice A xs.length c] 24)) 24 #[.bool false, .slice B ys.length d]).below hb1 (by simp)
  have L1 : Below w.heap.size w w1 := (((Below.refl _ _).alloc (Nat.le_refl _) _).alloc (by simp) _).trans (hb1.mono (by simp; omega));simp only [World.size_alloc] at X1 Y1
  clear hb1;obtain ⟨y0, y1, y2, y3⟩ := Y1.two;go_wp2_with fail
  refine (yy false d _ B ys (by omega) (hy.below L1 (Nat.le_refl _))).mono ?_;rintro e w2 ⟨rfl, hb2⟩;have X2 := X1.below hb2 X1.lt; have Y2 := Y1.below hb2 Y1.lt;have L2 := L1.trans (hb2.mono L1.size);clear y0 y1 y2 y3 X1 Y1 L1 hb2;obtain ⟨x0, x1, x2, x3⟩ := X2.two;obtain ⟨y0, y1, y2, y3⟩ := Y2.two;go_wp2_with fail
  refine (zvx A B c d xs ys _ (hx.below L2 (Nat.le_refl _)) (hy.below L2 (Nat.le_refl _)) hs ht hn hm (by omega) (by omega)).mono ?_;rintro e w3 ⟨rfl, n, rfl⟩;rw [HV.out];go_wp2_with fail
  go_ret
  exact ⟨rfl, Below.drewN L2 n⟩
 case true.true =>
  have HV := Lib.hid (cmp_neg (xs := xs) (ys := ys));go_enter Tryz.func29, Tryz.ntmps29
  go_wp2_with fail
  refine (yy true c _ A xs (by omega) ((hx.alloc _).alloc _)).mono ?_;rintro e w1 ⟨rfl, hb1⟩;have X1 := (Blk.first w 24 #[.bool true, .slice A xs.length c] (.cells #[.bool true, .slice B ys.length d] 24)).below hb1 (by simp; omega);have Y1 := (Blk.new (w.alloc (.cells #[.bool true, .slice A xs.length c] 24)) 24 #[.bool true, .slice B ys.length d]).below hb1 (by simp)
  have L1 : Below w.heap.size w w1 := (((Below.refl _ _).alloc (Nat.le_refl _) _).alloc (by simp) _).trans (hb1.mono (by simp; omega));simp only [World.size_alloc] at X1 Y1
  clear hb1;obtain ⟨y0, y1, y2, y3⟩ := Y1.two;go_wp2_with fail
  refine (yy true d _ B ys (by omega) (hy.below L1 (Nat.le_refl _))).mono ?_;rintro e w2 ⟨rfl, hb2⟩;have X2 := X1.below hb2 X1.lt; have Y2 := Y1.below hb2 Y1.lt;have L2 := L1.trans (hb2.mono L1.size);clear y0 y1 y2 y3 X1 Y1 L1 hb2;obtain ⟨x0, x1, x2, x3⟩ := X2.two;obtain ⟨y0, y1, y2, y3⟩ := Y2.two;go_wp2_with fail
  refine (zvx B A d c ys xs _ (hy.below L2 (Nat.le_refl _)) (hx.below L2 (Nat.le_refl _)) ht hs hm hn (by omega) (by omega)).mono ?_;rintro e w3 ⟨rfl, n, rfl⟩;rw [HV.out];go_wp2_with fail
  go_ret
  exact ⟨rfl, Below.drewN L2 n⟩
 case true.false =>
  have HV := Lib.hid (cmp_lt (xs := xs) (ys := ys) hg);go_enter Tryz.func29, Tryz.ntmps29
  go_wp2_with fail
  refine (yy true c _ A xs (by omega) ((hx.alloc _).alloc _)).mono ?_;rintro e w1 ⟨rfl, hb1⟩;have X1 := (Blk.first w 24 #[.bool true, .slice A xs.length c] (.cells #[.bool false, .slice B ys.length d] 24)).below hb1 (by simp; omega);have Y1 := (Blk.new (w.alloc (.cells #[.bool true, .slice A xs.length c] 24)) 24 #[.bool false, .slice B ys.length d]).below hb1 (by simp)
  have L1 : Below w.heap.size w w1 := (((Below.refl _ _).alloc (Nat.le_refl _) _).alloc (by simp) _).trans (hb1.mono (by simp; omega));simp only [World.size_alloc] at X1 Y1
  clear hb1;obtain ⟨y0, y1, y2, y3⟩ := Y1.two;go_wp2_with fail
  refine (yy false d _ B ys (by omega) (hy.below L1 (Nat.le_refl _))).mono ?_;rintro e w2 ⟨rfl, hb2⟩;have X2 := X1.below hb2 X1.lt; have Y2 := Y1.below hb2 Y1.lt;have L2 := L1.trans (hb2.mono L1.size);clear y0 y1 y2 y3 X1 Y1 L1 hb2;obtain ⟨x0, x1, x2, x3⟩ := X2.two;obtain ⟨y0, y1, y2, y3⟩ := Y2.two;go_wp2_with fail
  go_ret
  exact ⟨jc HV.out.symm, L2⟩
 case false.true =>
  have HV := Lib.hid (cmp_gt (xs := xs) (ys := ys) hk);go_enter Tryz.func29, Tryz.ntmps29
  go_wp2_with fail
  refine (yy false c _ A xs (by omega) ((hx.alloc _).alloc _)).mono ?_;rintro e w1 ⟨rfl, hb1⟩;have X1 := (Blk.first w 24 #[.bool false, .slice A xs.length c] (.cells #[.bool true, .slice B ys.length d] 24)).below hb1 (by simp; omega);have Y1 := (Blk.new (w.alloc (.cells #[.bool false, .slice A xs.length c] 24)) 24 #[.bool true, .slice B ys.length d]).below hb1 (by simp)
  have L1 : Below w.heap.size w w1 := (((Below.refl _ _).alloc (Nat.le_refl _) _).alloc (by simp) _).trans (hb1.mono (by simp; omega));simp only [World.size_alloc] at X1 Y1
  clear hb1;obtain ⟨y0, y1, y2, y3⟩ := Y1.two;go_wp2_with fail
  refine (yy true d _ B ys (by omega) (hy.below L1 (Nat.le_refl _))).mono ?_;rintro e w2 ⟨rfl, hb2⟩;have X2 := X1.below hb2 X1.lt; have Y2 := Y1.below hb2 Y1.lt;have L2 := L1.trans (hb2.mono L1.size);clear y0 y1 y2 y3 X1 Y1 L1 hb2;obtain ⟨x0, x1, x2, x3⟩ := X2.two;obtain ⟨y0, y1, y2, y3⟩ := Y2.two;go_wp2_with fail
  go_ret
  exact ⟨jc HV.out.symm, L2⟩
theorem cmp_any (n1 n2 : Bool) (hx : Nums w A xs) (hy : Nums w B ys) (hl : xs.length ≤ 9223372036854775807) (hl' : ys.length ≤ 9223372036854775807) :
 Calls Tryz.prog 29 #[.agg #[.bool n1, .slice A xs.length c], .agg #[.bool n2, .slice B ys.length d]] w fun e w' => e = .returned (.int .i64 (cmpO (yf n1 xs && yf n2 ys) (num n1 xs) (num n2 ys))) ∧ Below w.heap.size w w' := by
 unfold cmpO;cases hg : yf n1 xs
 · exact cmp_bad_x A B c d xs ys w n1 n2 hx hl hg
 cases hk : yf n2 ys
 · exact cmp_bad_y A B c d xs ys w n1 n2 hx hy hl' hg hk
 exact cmp_good A B c d xs ys w n1 n2 hx hy hg hk
end
set_option maxRecDepth 100000
theorem Per.nums8N {X : Nat → Prop} {w : World} {A : Option Addr} {xs : List Nat} (h : Nums8 w A xs) (hx : ∀ q, A = some q → ¬ X q.block) : Per X w (fun b => Nums8 b A xs) := fun b hb =>
 ⟨h.1, fun h0 => by
  obtain ⟨g, o, rfl, hg, hc⟩ := h.2 h0;exact ⟨g, o, rfl, Nat.lt_of_lt_of_le hg hb.size, fun k hk => (hb.cell (p := ⟨g, o + k, none⟩) hg (hx ⟨g, o, none⟩ rfl)).trans (hc k hk)⟩⟩
theorem Per.nums80 {w : World} {A : Option Addr} {xs : List Nat} (h : Nums8 w A xs) : Per No w (fun b => Nums8 b A xs) := Per.nums8N h (fun _ _ => id)
theorem Per.own8X {X : Nat → Prop} {w : World} {base c : Nat} {A : Option Addr} {xs : List Nat} (h : Own8 w base A c xs) (hx : ∀ k, X k → k < base) : Per X w (fun b => Nums8 b A xs) := Per.nums8N h.nums (fun q hq e => by have := hx _ e; have := (h.ge q hq).1; omega)
theorem ten_pos {j : Int} (h0 : j ≠ 0) : 0 < (tens j).length := by rw [jp]; exact xl (by decide) (by omega)
theorem rofI {i : Int} (A : Option Addr) (c : Nat) (w : World) (hi : i.natAbs < B18 ^ 30) (hx : Nums w A (limbs i)) : Calls Tryz.prog 87 #[.agg #[.bool (decide (i < 0)), .slice A (limbs i).length c]] w (zmv w i) := by
 have h := rof_any (decide (i < 0)) A c (limbs i) w hx (qx hi);rwa [qz] at h
theorem rgoodI {i : Int} (A : Option Addr) (c : Nat) (w : World) (hi : i.natAbs < B18 ^ 30) (hx : Nums w A (limbs i)) : Calls Tryz.prog 38 #[.agg #[.bool (decide (i < 0)), .slice A (limbs i).length c]] w fun e w' => e = .returned (.bool true) ∧ Below w.heap.size w w' := by
 have h := ycz (decide (i < 0)) c w A (limbs i) (by have := vn hi; omega) hx;rwa [qx hi] at h
theorem nth_nat (xs : List Nat) (k : Nat) : nth xs k = ((xs.getD k 0 : Nat) : Int) := by unfold nth; rfl
end Go.Proofs.YtaleikoeklemmaaGreatDoor
namespace Go.Proofs.YtaleikoeklemmaaGreatDoor
open Go.RowKit
theorem add_step (m n k : Nat) :
 ((m % 10 ^ k + n % 10 ^ k) / 10 ^ k + m / 10 ^ k % 10 + n / 10 ^ k % 10) % 10 = (m + n) / 10 ^ k % 10 ∧
 ((m % 10 ^ k + n % 10 ^ k) / 10 ^ k + m / 10 ^ k % 10 + n / 10 ^ k % 10) / 10 = (m % 10 ^ (k + 1) + n % 10 ^ (k + 1)) / 10 ^ (k + 1) := by
 have hp : 0 < 10 ^ k := Nat.pow_pos (by decide);have e : (m + n) / 10 ^ k = m / 10 ^ k + n / 10 ^ k + (m % 10 ^ k + n % 10 ^ k) / 10 ^ k := by
  have h1 := Nat.div_add_mod m (10 ^ k);have h2 := Nat.div_add_mod n (10 ^ k);have h3 : m + n = (m % 10 ^ k + n % 10 ^ k) + 10 ^ k * (m / 10 ^ k + n / 10 ^ k) := by rw [Nat.mul_add]; omega
  rw [h3, Nat.add_mul_div_left _ _ hp];omega
 have e2 : (m % 10 ^ (k + 1) + n % 10 ^ (k + 1)) = (m % 10 ^ k + n % 10 ^ k) + 10 ^ k * (m / 10 ^ k % 10 + n / 10 ^ k % 10) := by
  rw [Nat.pow_succ, Nat.mod_mul, Nat.mod_mul, Nat.mul_add]; omega
 constructor
 · rw [e]; omega
 · rw [e2, Nat.pow_succ, ← Nat.div_div_eq_div_mul, Nat.add_mul_div_left _ _ hp];congr 1
   omega
def bor (m n k : Nat) : Nat := if m % 10 ^ k < n % 10 ^ k then 1 else 0
theorem bor_le (m n k : Nat) : bor m n k ≤ 1 := by unfold bor; split <;> omega
theorem sub_div (P m n : Nat) (hp : 0 < P) (h : n ≤ m) : (m - n) / P + n / P + (if m % P < n % P then 1 else 0) = m / P := by
 have h1 := Nat.div_add_mod m P;have h2 := Nat.div_add_mod n P;have h3 := Nat.mod_lt m hp;have h4 := Nat.mod_lt n hp;generalize m / P = M at *
 generalize n / P = N at *
 generalize m % P = m0 at *
 generalize n % P = n0 at *
 by_cases hb : m0 < n0
 · rw [if_pos hb];have hN : N < M := by
    rcases Nat.lt_or_ge N M with h5 | h5
    · exact h5
    · have := Nat.mul_le_mul_left P h5; omega
   obtain ⟨D, rfl⟩ : ∃ D, M = N + 1 + D := ⟨M - (N + 1), by omega⟩;have e : m - n = (P + m0 - n0) + P * D := by
    have : P * (N + 1 + D) = P * N + P + P * D := by rw [Nat.mul_add, Nat.mul_add, Nat.mul_one]
    omega
   rw [e, Nat.add_mul_div_left _ _ hp, Nat.div_eq_of_lt (by omega)];omega
 · rw [if_neg hb];have hN : N ≤ M := by
    rcases Nat.lt_or_ge M N with h5 | h5
    · have := Nat.mul_le_mul_left P h5;rw [Nat.mul_succ] at this;omega
    · exact h5
   obtain ⟨D, rfl⟩ : ∃ D, M = N + D := ⟨M - N, by omega⟩;have e : m - n = (m0 - n0) + P * D := by
    have : P * (N + D) = P * N + P * D := by rw [Nat.mul_add]
    omega
   rw [e, Nat.add_mul_div_left _ _ hp, Nat.div_eq_of_lt (by omega)];omega
theorem sub_step (m n k : Nat) (h : n ≤ m) :
 (m / 10 ^ k % 10 + 10 - bor m n k - n / 10 ^ k % 10) % 10 = (m - n) / 10 ^ k % 10 ∧ 1 - (m / 10 ^ k % 10 + 10 - bor m n k - n / 10 ^ k % 10) / 10 = bor m n (k + 1) ∧
 n / 10 ^ k % 10 + bor m n k ≤ m / 10 ^ k % 10 + 10 := by
 have hp : 0 < 10 ^ k := Nat.pow_pos (by decide);have e1 := sub_div (10 ^ k) m n hp h;have hb := bor_le m n k;refine ⟨?_, ?_, by omega⟩
 · unfold bor at hb ⊢;generalize (if m % 10 ^ k < n % 10 ^ k then 1 else 0) = c at *
   omega
 · have hm : m % 10 ^ (k + 1) = m % 10 ^ k + 10 ^ k * (m / 10 ^ k % 10) := by rw [Nat.pow_succ, Nat.mod_mul]
   have hn : n % 10 ^ (k + 1) = n % 10 ^ k + 10 ^ k * (n / 10 ^ k % 10) := by rw [Nat.pow_succ, Nat.mod_mul]
   have h3 := Nat.mod_lt m hp;have h4 := Nat.mod_lt n hp;have ha : m / 10 ^ k % 10 < 10 := Nat.mod_lt _ (by decide);have hb' : n / 10 ^ k % 10 < 10 := Nat.mod_lt _ (by decide);unfold bor;rw [hm, hn];generalize m / 10 ^ k % 10 = a at *
   generalize n / 10 ^ k % 10 = b at *
   generalize m % 10 ^ k = m0 at *
   generalize n % 10 ^ k = n0 at *
   generalize 10 ^ k = P at *
   rcases Nat.lt_trichotomy a b with hab | hab | hab
   · have : P * (a + 1) ≤ P * b := Nat.mul_le_mul_left P hab;rw [Nat.mul_add, Nat.mul_one] at this;rw [if_pos (by omega : m0 + P * a < n0 + P * b)];split <;> omega
   · subst hab;by_cases hc : m0 < n0
     · rw [if_pos hc, if_pos (by omega)]; omega
     · rw [if_neg hc, if_neg (by omega)]; omega
   · have : P * (b + 1) ≤ P * a := Nat.mul_le_mul_left P hab;rw [Nat.mul_add, Nat.mul_one] at this;rw [if_neg (by omega : ¬ m0 + P * a < n0 + P * b)];split <;> omega
theorem zlx {i : Int} {k : Nat} (h : (tens i).length ≤ k) : i.natAbs / 10 ^ k = 0 := by
 rw [jp] at h;exact Nat.div_eq_of_lt ((qn (by decide) _ _).1 h)
def RetTens (W : World) (i : Int) (e : Ending) (w' : World) : Prop := ∃ A c, e = .returned (.slice A (tens i).length c) ∧ Own8 w' W.heap.size A c (tens i) ∧ Below W.heap.size W w'
theorem ydx (i j : Int) (k : Nat) {cv s : Int} (hc : cv = (((i.natAbs % 10 ^ k + j.natAbs % 10 ^ k) / 10 ^ k : Nat) : Int)) (hs : s = cv + nth (tens i) k + nth (tens j) k) :
 pad k (i.natAbs + j.natAbs) ++ [(s % 10).toNat] = pad (k + 1) (i.natAbs + j.natAbs) ∧ s / 10 = (((i.natAbs % 10 ^ (k + 1) + j.natAbs % 10 ^ (k + 1)) / 10 ^ (k + 1) : Nat) : Int) := by
 obtain ⟨h1, h2⟩ := add_step i.natAbs j.natAbs k;rw [zkk, zkk] at hs;rw [zjk, ← h1, ← h2];subst hc; subst hs;refine ⟨?_, by omega⟩;congr 2
theorem carry_le (m n k : Nat) : (m % 10 ^ k + n % 10 ^ k) / 10 ^ k ≤ 1 := by
 have hp : 0 < 10 ^ k := Nat.pow_pos (by decide);have h3 := Nat.mod_lt m hp;have h4 := Nat.mod_lt n hp;rw [Nat.div_le_iff_le_mul_add_pred hp];omega
theorem plus_end (i j : Int) (k : Nat) {cv : Int} (hc : cv = (((i.natAbs % 10 ^ k + j.natAbs % 10 ^ k) / 10 ^ k : Nat) : Int)) (h1 : (tens i).length ≤ k) (h2 : (tens j).length ≤ k) :
 pad k (i.natAbs + j.natAbs) ++ [cv.toNat] = pad (k + 1) (i.natAbs + j.natAbs) ∧ val 10 (pad (k + 1) (i.natAbs + j.natAbs)) = i.natAbs + j.natAbs := by
 have a1 := zlx h1;have a2 := zlx h2;obtain ⟨h3, _⟩ := add_step i.natAbs j.natAbs k;rw [a1, a2] at h3;have hcl := carry_le i.natAbs j.natAbs k;constructor
 · rw [zjk, ← h3];generalize (i.natAbs % 10 ^ k + j.natAbs % 10 ^ k) / 10 ^ k = q at *
   subst hc;congr 2
   omega
 · rw [yiv];have hp : 0 < 10 ^ k := Nat.pow_pos (by decide);have b1 : i.natAbs < 10 ^ k := by
    rcases Nat.lt_or_ge i.natAbs (10 ^ k) with h | h
    · exact h
    · have := Nat.div_pos h hp; omega
   have b2 : j.natAbs < 10 ^ k := by
    rcases Nat.lt_or_ge j.natAbs (10 ^ k) with h | h
    · exact h
    · have := Nat.div_pos h hp; omega
   exact Nat.mod_eq_of_lt (by rw [Nat.pow_succ]; omega)
theorem minus_step (i j : Int) (k : Nat) (h : j.natAbs ≤ i.natAbs) {cv s : Int} (hc : cv = ((bor i.natAbs j.natAbs k : Nat) : Int)) (hs : s = nth (tens i) k + 10 - cv - nth (tens j) k) :
 pad k (i.natAbs - j.natAbs) ++ [(s % 10).toNat] = pad (k + 1) (i.natAbs - j.natAbs) ∧ 1 - s / 10 = ((bor i.natAbs j.natAbs (k + 1) : Nat) : Int) ∧ 0 ≤ s := by
 obtain ⟨h1, h2, h3⟩ := sub_step i.natAbs j.natAbs k h;have hb := bor_le i.natAbs j.natAbs k;rw [zkk, zkk] at hs;rw [zjk, ← h1, ← h2];have e : s = ((i.natAbs / 10 ^ k % 10 + 10 - bor i.natAbs j.natAbs k - j.natAbs / 10 ^ k % 10 : Nat) : Int) := by
  subst hc; subst hs; omega
 have hlt : i.natAbs / 10 ^ k % 10 + 10 - bor i.natAbs j.natAbs k - j.natAbs / 10 ^ k % 10 < 20 := by
  have := Nat.mod_lt (i.natAbs / 10 ^ k) (by decide : 0 < 10); omega
 generalize i.natAbs / 10 ^ k % 10 + 10 - bor i.natAbs j.natAbs k - j.natAbs / 10 ^ k % 10 = q at *
 subst e;refine ⟨?_, by omega, by omega⟩;congr 2
theorem minus_end (i j : Int) (k : Nat) (h1 : (tens i).length ≤ k) : val 10 (pad k (i.natAbs - j.natAbs)) = i.natAbs - j.natAbs := by
 rw [yiv];have a1 := zlx h1;have hp : 0 < 10 ^ k := Nat.pow_pos (by decide);have b1 : i.natAbs < 10 ^ k := by
  rcases Nat.lt_or_ge i.natAbs (10 ^ k) with h | h
  · exact h
  · have := Nat.div_pos h hp; omega
 exact Nat.mod_eq_of_lt (by omega)
set_option maxRecDepth 100000
set_option maxHeartbeats 1000000 in
theorem rplusrow_any (A B : Option Addr) (c d : Nat) (i j q : Int) (w : World) (hx : Nums8 w A (tens i)) (hy : Nums8 w B (tens j)) (hl : (tens i).length ≤ 1000000) (hl' : (tens j).length ≤ 1000000) (hq : i.natAbs + j.natAbs = q.natAbs) :
 Calls Tryz.prog 142 #[.slice A (tens i).length c, .slice B (tens j).length d] w (RetTens w q) := by
 have HQ := Lib.hid hq;have HSX := Lib.hid (gu i);have HSY := Lib.hid (gu j);clear hq;go_enter Tryz.func142, Tryz.ntmps142
 go_wp2_with fail
 go_loopw [5, 6, 7, 8] (fun dv cv iv _ wr => ∃ (k : Nat) (A' : Option Addr) (c' : Nat) (zs : List Nat) (u : Int), k ≤ 1000000 ∧ iv = .int .i64 k ∧ dv = .slice A' zs.length c' ∧ cv = .int .u8 u ∧ 0 ≤ u ∧ u ≤ 1 ∧ zs.length ≤ k ∧ Own8 wr w.heap.size A' c' zs ∧
  Hid (u = (((i.natAbs % 10 ^ k + j.natAbs % 10 ^ k) / 10 ^ k : Nat) : Int)) ∧ Hid (zs = pad k (i.natAbs + j.natAbs)) ∧ Below w.heap.size w wr) (fun _ _ iv _ _ => 1000000 - (intOf iv).toNat)
 case atStart => exact ⟨0, none, 0, [], 0, by omega, rfl, rfl, rfl, by omega, by omega, by simp, Own8.nil _ _, by show _ = _; simp [Nat.mod_one], rfl, Below.refl _ _⟩
 case round =>
  obtain ⟨k, A', c', zs, u, hk, rfl, rfl, rfl, hu0, hu1, hzl, hown, HU, HZ, hbel⟩ := hrel;have hxr : Nums8 wr A (tens i) := hx.below hbel (Nat.le_refl _);have hyr : Nums8 wr B (tens j) := hy.below hbel (Nat.le_refl _);have hsz := hbel.size;have hnx := yk (tens i) k;have hny := yk (tens j) k;have hnx9 := qr (by omega) HSX.out k;have hny9 := qr (by omega) HSY.out k
  by_cases hka : k < (tens i).length
  · obtain ⟨b, o, rfl, hb, hc⟩ := hxr.2 (by omega);have hcell := hc k hka;have hm1 : (k : Int) < ((tens i).length : Int) := by omega
    clear hc;by_cases hkb : k < (tens j).length
    · obtain ⟨b', o', rfl, hb', hc'⟩ := hyr.2 (by omega);have hcell' := hc' k hkb;have hm2 : (k : Int) < ((tens j).length : Int) := by omega
      clear hc';have hstep := ydx i j k (s := (u + nth (tens i) k + nth (tens j) k)) HU.out rfl;have hw8 : 0 ≤ (u + nth (tens i) k + nth (tens j) k) := by omega
      have hw9 : (u + nth (tens i) k + nth (tens j) k) < 20 := by omega
      have e1 : (u + nth (tens i) k + nth (tens j) k) % 10 = ((((u + nth (tens i) k + nth (tens j) k) % 10).toNat : Nat) : Int) := by omega
      have hC := kb wr _ _ e1;have HC := Lib.hid hC;have H8 : Hid (∀ x ∈ [((u + nth (tens i) k + nth (tens j) k) % 10).toNat], x < 256) := by intro x hx'; simp only [List.mem_cons, List.not_mem_nil, or_false] at hx'; omega
      have HN : Hid (zs.length + [((u + nth (tens i) k + nth (tens j) k) % 10).toNat].length ≤ 17592186044416) := by show zs.length + 1 ≤ _; omega
      have HST := Lib.hid hstep;clear e1 hC hstep;go_wp2_with (at_builtin; go_loud (refine jw rfl (.tmp 42) (.tmp 45) rfl w.heap.size A' c' zs rfl (hown.alloc _) [((u + nth (tens i) k + nth (tens j) k) % 10).toNat] ⟨wr.heap.size, 0, none⟩ 1 1 rfl rfl (by exact HC.out) H8.out HN.out (by simp; omega) (fun A3 c3 w3 hown3 hg3 => ?_)))
      go_roundw
      case rel => exact ⟨k + 1, A3, c3, zs ++ [((u + nth (tens i) k + nth (tens j) k) % 10).toNat], _, by omega, by go_num, by simp, rfl, by omega, by omega, by simp; omega, hown3, HST.out.2, by show _ = _; rw [HZ.out]; exact HST.out.1, Below.own8 (hbel.alloc (by omega) _) (hown.alloc _) (by simp; omega) hg3⟩
      case measure => simp [intOf]; omega
    · have hm2 : ¬ (k : Int) < ((tens j).length : Int) := by omega
      have h0 := jg (tens j) k (by omega);have HS0 : Hid (u + nth (tens i) k = u + nth (tens i) k + nth (tens j) k) := by show _ = _; rw [h0]; omega
      clear h0;have hstep := ydx i j k (s := (u + nth (tens i) k)) HU.out HS0.out;have hw8 : 0 ≤ (u + nth (tens i) k) := by omega
      have hw9 : (u + nth (tens i) k) < 20 := by omega
      have e1 : (u + nth (tens i) k) % 10 = ((((u + nth (tens i) k) % 10).toNat : Nat) : Int) := by omega
      have hC := kb wr _ _ e1;have HC := Lib.hid hC;have H8 : Hid (∀ x ∈ [((u + nth (tens i) k) % 10).toNat], x < 256) := by intro x hx'; simp only [List.mem_cons, List.not_mem_nil, or_false] at hx'; omega
      have HN : Hid (zs.length + [((u + nth (tens i) k) % 10).toNat].length ≤ 17592186044416) := by show zs.length + 1 ≤ _; omega
      have HST := Lib.hid hstep;clear e1 hC hstep;go_wp2_with (at_builtin; go_loud (refine jw rfl (.tmp 42) (.tmp 45) rfl w.heap.size A' c' zs rfl (hown.alloc _) [((u + nth (tens i) k) % 10).toNat] ⟨wr.heap.size, 0, none⟩ 1 1 rfl rfl (by exact HC.out) H8.out HN.out (by simp; omega) (fun A3 c3 w3 hown3 hg3 => ?_)))
      go_roundw
      case rel => exact ⟨k + 1, A3, c3, zs ++ [((u + nth (tens i) k) % 10).toNat], _, by omega, by go_num, by simp, rfl, by omega, by omega, by simp; omega, hown3, HST.out.2, by show _ = _; rw [HZ.out]; exact HST.out.1, Below.own8 (hbel.alloc (by omega) _) (hown.alloc _) (by simp; omega) hg3⟩
      case measure => simp [intOf]; omega
  · have hm1 : ¬ (k : Int) < ((tens i).length : Int) := by omega
    have h0 := jg (tens i) k (by omega);by_cases hkb : k < (tens j).length
    · obtain ⟨b', o', rfl, hb', hc'⟩ := hyr.2 (by omega);have hcell' := hc' k hkb;have hm2 : (k : Int) < ((tens j).length : Int) := by omega
      have HS0 : Hid (u + nth (tens j) k = u + nth (tens i) k + nth (tens j) k) := by show _ = _; rw [h0]; omega
      clear hc' h0;have hstep := ydx i j k (s := (u + nth (tens j) k)) HU.out HS0.out;have hw8 : 0 ≤ (u + nth (tens j) k) := by omega
      have hw9 : (u + nth (tens j) k) < 20 := by omega
      have e1 : (u + nth (tens j) k) % 10 = ((((u + nth (tens j) k) % 10).toNat : Nat) : Int) := by omega
      have hC := kb wr _ _ e1;have HC := Lib.hid hC;have H8 : Hid (∀ x ∈ [((u + nth (tens j) k) % 10).toNat], x < 256) := by intro x hx'; simp only [List.mem_cons, List.not_mem_nil, or_false] at hx'; omega
      have HN : Hid (zs.length + [((u + nth (tens j) k) % 10).toNat].length ≤ 17592186044416) := by show zs.length + 1 ≤ _; omega
      have HST := Lib.hid hstep;clear e1 hC hstep;go_wp2_with (at_builtin; go_loud (refine jw rfl (.tmp 42) (.tmp 45) rfl w.heap.size A' c' zs rfl (hown.alloc _) [((u + nth (tens j) k) % 10).toNat] ⟨wr.heap.size, 0, none⟩ 1 1 rfl rfl (by exact HC.out) H8.out HN.out (by simp; omega) (fun A3 c3 w3 hown3 hg3 => ?_)))
      go_roundw
      case rel => exact ⟨k + 1, A3, c3, zs ++ [((u + nth (tens j) k) % 10).toNat], _, by omega, by go_num, by simp, rfl, by omega, by omega, by simp; omega, hown3, HST.out.2, by show _ = _; rw [HZ.out]; exact HST.out.1, Below.own8 (hbel.alloc (by omega) _) (hown.alloc _) (by simp; omega) hg3⟩
      case measure => simp [intOf]; omega
    · have hm2 : ¬ (k : Int) < ((tens j).length : Int) := by omega
      have hend := plus_end i j k HU.out (by omega) (by omega);have e1 : u = ((u.toNat : Nat) : Int) := by omega
      have hC := kb wr _ _ e1;have HC := Lib.hid hC;have H8 : Hid (∀ x ∈ [u.toNat], x < 256) := by intro x hx'; simp only [List.mem_cons, List.not_mem_nil, or_false] at hx'; omega
      have HN : Hid (zs.length + [u.toNat].length ≤ 17592186044416) := by show zs.length + 1 ≤ _; omega
      have HE := Lib.hid hend;clear e1 hC hend h0;go_wp2_with (at_builtin; go_loud (refine jw rfl (.tmp 49) (.tmp 51) rfl w.heap.size A' c' zs rfl (hown.alloc _) [u.toNat] ⟨wr.heap.size, 0, none⟩ 1 1 rfl rfl (by exact HC.out) H8.out HN.out (by simp; omega) (fun A3 c3 w3 hown3 hg3 => ?_)); refine Hid.out ?_)
      refine Lib.hid ?_;have hb3 := Below.own8 (hbel.alloc (by omega) _) (hown.alloc _) (by simp; omega) hg3;obtain ⟨ds, hds⟩ : ∃ ds, ds = zs ++ [u.toNat] := ⟨_, rfl⟩;rw [← hds] at hown3;have hll : zs.length + 1 = ds.length := by rw [hds]; simp
      rw [hll];have hvz : val 10 ds = q.natAbs := by rw [hds, HZ.out, HE.out.1, HE.out.2, HQ.out]
      have hsm : yd 10 ds := by rw [hds, HZ.out, HE.out.1]; exact zov _ _
      have hlen3 : ds.length ≤ 1048576 := by rw [hds]; simp; omega
      have HV := Lib.hid hvz; have HSM := Lib.hid hsm; have HL3 := Lib.hid hlen3;clear hvz hsm hlen3 hds HE HC H8 HN hll;go_wp2_with (go_at_call 121; refine (yck w.heap.size A3 c3 ds q _ hown3 HSM.out HV.out HL3.out).mono ?_; rintro e w4 ⟨rfl, hown4, rfl⟩)
      go_ret
      exact ⟨A3, c3, rfl, hown4, hb3⟩
set_option maxHeartbeats 1000000 in
theorem zrq (A B : Option Addr) (c d : Nat) (i j q : Int) (w : World) (hx : Nums8 w A (tens i)) (hy : Nums8 w B (tens j)) (hl : (tens i).length ≤ 1048576) (hl' : (tens j).length ≤ 1048576) (hle : j.natAbs ≤ i.natAbs) (hq : i.natAbs - j.natAbs = q.natAbs) :
 Calls Tryz.prog 143 #[.slice A (tens i).length c, .slice B (tens j).length d] w (RetTens w q) := by
 have HQ := Lib.hid hq;have HLE := Lib.hid hle;have HSX := Lib.hid (gu i);have HSY := Lib.hid (gu j);clear hq hle;go_enter Tryz.func143, Tryz.ntmps143
 go_wp2_with fail
 go_loopw [5, 6, 7, 8] (fun dv cv iv _ wr => ∃ (k : Nat) (A' : Option Addr) (c' : Nat) (zs : List Nat) (u : Int), k ≤ (tens i).length ∧ iv = .int .i64 k ∧ dv = .slice A' zs.length c' ∧ cv = .int .u8 u ∧ 0 ≤ u ∧ u ≤ 1 ∧ zs.length ≤ k ∧ Own8 wr w.heap.size A' c' zs ∧
  Hid (u = ((bor i.natAbs j.natAbs k : Nat) : Int)) ∧ Hid (zs = pad k (i.natAbs - j.natAbs)) ∧ Below w.heap.size w wr) (fun _ _ iv _ _ => 1048576 - (intOf iv).toNat)
 case atStart => exact ⟨0, none, 0, [], 0, by omega, rfl, rfl, rfl, by omega, by omega, by simp, Own8.nil _ _, by show _ = _; simp [bor, Nat.mod_one], rfl, Below.refl _ _⟩
 case round =>
  obtain ⟨k, A', c', zs, u, hk, rfl, rfl, rfl, hu0, hu1, hzl, hown, HU, HZ, hbel⟩ := hrel;have hxr : Nums8 wr A (tens i) := hx.below hbel (Nat.le_refl _);have hyr : Nums8 wr B (tens j) := hy.below hbel (Nat.le_refl _);have hsz := hbel.size;have hnx := yk (tens i) k;have hny := yk (tens j) k;have hnx9 := qr (by omega) HSX.out k;have hny9 := qr (by omega) HSY.out k
  by_cases hka : k < (tens i).length
  · obtain ⟨b, o, rfl, hb, hc⟩ := hxr.2 (by omega);have hcell := hc k hka;have hm1 : (k : Int) < ((tens i).length : Int) := by omega
    clear hc;by_cases hkb : k < (tens j).length
    · obtain ⟨b', o', rfl, hb', hc'⟩ := hyr.2 (by omega);have hcell' := hc' k hkb;have hm2 : (k : Int) < ((tens j).length : Int) := by omega
      clear hc';have hstep := minus_step i j k HLE.out (s := (nth (tens i) k + 10 - u - nth (tens j) k)) HU.out rfl;have hw8 : 0 ≤ (nth (tens i) k + 10 - u - nth (tens j) k) := hstep.2.2;have hw9 : (nth (tens i) k + 10 - u - nth (tens j) k) < 20 := by omega
      have e1 : (nth (tens i) k + 10 - u - nth (tens j) k) % 10 = ((((nth (tens i) k + 10 - u - nth (tens j) k) % 10).toNat : Nat) : Int) := by omega
      have hC := kb wr _ _ e1;have HC := Lib.hid hC;have H8 : Hid (∀ x ∈ [((nth (tens i) k + 10 - u - nth (tens j) k) % 10).toNat], x < 256) := by intro x hx'; simp only [List.mem_cons, List.not_mem_nil, or_false] at hx'; omega
      have HN : Hid (zs.length + [((nth (tens i) k + 10 - u - nth (tens j) k) % 10).toNat].length ≤ 17592186044416) := by show zs.length + 1 ≤ _; omega
      have hq0 : 0 ≤ 1 - (nth (tens i) k + 10 - u - nth (tens j) k) / 10 := by omega
      have HST := Lib.hid hstep;clear e1 hC hstep;go_wp2_with (at_builtin; go_loud (refine jw rfl (.tmp 32) (.tmp 35) rfl w.heap.size A' c' zs rfl (hown.alloc _) [((nth (tens i) k + 10 - u - nth (tens j) k) % 10).toNat] ⟨wr.heap.size, 0, none⟩ 1 1 rfl rfl (by exact HC.out) H8.out HN.out (by simp; omega) (fun A3 c3 w3 hown3 hg3 => ?_)))
      go_roundw
      case rel => exact ⟨k + 1, A3, c3, zs ++ [((nth (tens i) k + 10 - u - nth (tens j) k) % 10).toNat], _, by omega, by go_num, by simp, rfl, by omega, by omega, by simp; omega, hown3, HST.out.2.1, by show _ = _; rw [HZ.out]; exact HST.out.1, Below.own8 (hbel.alloc (by omega) _) (hown.alloc _) (by simp; omega) hg3⟩
      case measure => simp [intOf]; omega
    · have hm2 : ¬ (k : Int) < ((tens j).length : Int) := by omega
      have h0 := jg (tens j) k (by omega);have HS0 : Hid (nth (tens i) k + 10 - u = nth (tens i) k + 10 - u - nth (tens j) k) := by show _ = _; rw [h0]; omega
      clear h0;have hstep := minus_step i j k HLE.out (s := (nth (tens i) k + 10 - u)) HU.out HS0.out;have hw8 : 0 ≤ (nth (tens i) k + 10 - u) := hstep.2.2;have hw9 : (nth (tens i) k + 10 - u) < 20 := by omega
      have e1 : (nth (tens i) k + 10 - u) % 10 = ((((nth (tens i) k + 10 - u) % 10).toNat : Nat) : Int) := by omega
      have hC := kb wr _ _ e1;have HC := Lib.hid hC;have H8 : Hid (∀ x ∈ [((nth (tens i) k + 10 - u) % 10).toNat], x < 256) := by intro x hx'; simp only [List.mem_cons, List.not_mem_nil, or_false] at hx'; omega
      have HN : Hid (zs.length + [((nth (tens i) k + 10 - u) % 10).toNat].length ≤ 17592186044416) := by show zs.length + 1 ≤ _; omega
      have hq0 : 0 ≤ 1 - (nth (tens i) k + 10 - u) / 10 := by omega
      have HST := Lib.hid hstep;clear e1 hC hstep;go_wp2_with (at_builtin; go_loud (refine jw rfl (.tmp 32) (.tmp 35) rfl w.heap.size A' c' zs rfl (hown.alloc _) [((nth (tens i) k + 10 - u) % 10).toNat] ⟨wr.heap.size, 0, none⟩ 1 1 rfl rfl (by exact HC.out) H8.out HN.out (by simp; omega) (fun A3 c3 w3 hown3 hg3 => ?_)))
      go_roundw
      case rel => exact ⟨k + 1, A3, c3, zs ++ [((nth (tens i) k + 10 - u) % 10).toNat], _, by omega, by go_num, by simp, rfl, by omega, by omega, by simp; omega, hown3, HST.out.2.1, by show _ = _; rw [HZ.out]; exact HST.out.1, Below.own8 (hbel.alloc (by omega) _) (hown.alloc _) (by simp; omega) hg3⟩
      case measure => simp [intOf]; omega
  · have hm1 : ¬ (k : Int) < ((tens i).length : Int) := by omega
    have hend := minus_end i j k (by omega);have hvz : val 10 zs = q.natAbs := by rw [HZ.out, hend, HQ.out]
    have hsm : yd 10 zs := by rw [HZ.out]; exact zov _ _
    have HV := Lib.hid hvz; have HSM := Lib.hid hsm;clear hvz hsm hend;go_wp2_with (go_at_call 121; refine (yck w.heap.size A' c' zs q _ hown HSM.out HV.out (by omega)).mono ?_; rintro e w4 ⟨rfl, hown4, rfl⟩)
    go_ret
    exact ⟨A', c', rfl, hown4, hbel⟩
end Go.Proofs.YtaleikoeklemmaaGreatDoor
namespace Go.Proofs.YtaleikoeklemmaaGreatDoor
open Go.RowKit
theorem zzk {xs ys : List Nat} (hs : yd 10 xs) (hm : go ys) (h : xs.length < ys.length) : gh (val 10 xs) (val 10 ys) = -1 ∧ gh (val 10 ys) (val 10 xs) = 1 := by
 have := jr (by decide : 2 ≤ 10) hs hm h;unfold gh;exact ⟨if_pos this, by rw [if_neg (by omega), if_pos this]⟩
theorem yix {xs ys : List Nat} (hs : yd 10 xs) (h : xs.length = ys.length) {k : Nat} (hk : k < xs.length) (hd : ∀ j, k + 1 ≤ j → nth xs j = nth ys j) (hlt : nth xs k < nth ys k) :
 gh (val 10 xs) (val 10 ys) = -1 ∧ gh (val 10 ys) (val 10 xs) = 1 := by
 have := zhz hs h hk (fun j hj _ => (ol _ _ _ _).1 (hd j hj)) ((nth_lt_iff _ _ _ _).1 hlt);unfold gh;exact ⟨if_pos this, by rw [if_neg (by omega), if_pos this]⟩
theorem cmp_same10 {xs ys : List Nat} (h : xs.length = ys.length) (hd : ∀ j, 0 ≤ j → nth xs j = nth ys j) : gh (val 10 xs) (val 10 ys) = 0 := by
 have : xs = ys := by
  apply List.ext_getElem h
  intro j h1 h2;have := (ol _ _ _ _).1 (hd j (Nat.zero_le _));simpa [List.getD, List.getElem?_eq_getElem h1, List.getElem?_eq_getElem h2] using this
 subst this;simp [gh]
set_option maxRecDepth 100000 in
set_option maxHeartbeats 400000 in
theorem rsizes_any (A B : Option Addr) (c d : Nat) (xs ys : List Nat) (w : World) (hx : Nums8 w A xs) (hy : Nums8 w B ys) (hs : yd 10 xs) (ht : yd 10 ys) (hn : go xs) (hm : go ys)
 (hl : xs.length ≤ 1048576) (hl' : ys.length ≤ 1048576) :
 Calls Tryz.prog 88 #[.slice A xs.length c, .slice B ys.length d] w fun e w' => e = .returned (.int .i64 (gh (val 10 xs) (val 10 ys))) ∧ ∃ n, w' = w.drewN n := by
 by_cases hlen : xs.length = ys.length
 · have hne : ¬ (xs.length : Int) < (ys.length : Int) := by omega
   have hne2 : ¬ (ys.length : Int) < (xs.length : Int) := by omega
   have HL := Lib.hid hlen; clear hlen;go_enter Tryz.func88, Tryz.ntmps88
   go_wp2
   go_loopw [5] (fun v wr => ∃ k : Nat, k ≤ xs.length ∧ v = .int .i64 ((k : Int) - 1) ∧ (∀ j, k ≤ j → nth xs j = nth ys j) ∧ ∃ n, wr = w.drewN n) (fun v _ => (intOf v + 1).toNat)
   case atStart => exact ⟨xs.length, Nat.le_refl _, rfl, fun j hj => by rw [jg xs j hj, jg ys j (by rw [← HL.out]; exact hj)], 0, rfl⟩
   case round =>
    obtain ⟨k, hk, rfl, hz, n, rfl⟩ := hrel;have HZ := Lib.hid hz; clear hz;by_cases hk0 : k = 0
    · subst hk0;go_wp2
      go_ret
      exact ⟨jc (cmp_same10 HL.out HZ.out).symm, n, rfl⟩
    · obtain ⟨m, rfl⟩ : ∃ m, k = m + 1 := ⟨k - 1, by omega⟩;obtain ⟨b, o, rfl, hb, hc⟩ := hx.2 (by omega);obtain ⟨b', o', rfl, hb', hc'⟩ := hy.2 (by rw [← HL.out]; omega);have hcell := hc m (by omega);have hcell' := hc' m (by rw [← HL.out]; omega);have hm1 : (m : Int) < (xs.length : Int) := by omega
      have hm2 : (m : Int) < (ys.length : Int) := by have := HL.out; omega
      have hm0 : (0 : Int) ≤ (m : Int) := by omega
      clear hc hc';rcases Int.lt_trichotomy (nth xs m) (nth ys m) with h | h | h
      · have hdl : decide (nth xs m < nth ys m) = true := by simpa using h
        have H := Lib.hid h;clear h;go_wp2
        go_quiet (fail)
        go_wp2
        go_ret
        exact ⟨jc (yix hs HL.out (by omega) HZ.out H.out).1.symm, _, by simp only [World.drewN_drewN]; rfl⟩
      · have hd1 : decide (nth xs m < nth ys m) = false := by simp [h]
        have hd2 : decide (nth ys m < nth xs m) = false := by simp [h]
        have H := Lib.hid h;clear h;go_wp2
        go_quiet (fail)
        go_wp2
        go_quiet (fail)
        go_wp2
        go_roundw
        case rel => exact ⟨m, by omega, rfl, fun j hj => by
         by_cases e : j = m
         · rw [e]; exact H.out
         · exact HZ.out j (by omega), _, by first | rfl | (simp only [World.drewN_drewN]; rfl)⟩
        case measure => simp [intOf]
      · have hd1 : decide (nth xs m < nth ys m) = false := by simp; omega
        have hd2 : decide (nth ys m < nth xs m) = true := by simpa using h
        have H := Lib.hid h;clear h;go_wp2
        go_quiet (fail)
        go_wp2
        go_quiet (fail)
        go_wp2
        go_ret
        exact ⟨jc (yix ht HL.out.symm (by have := HL.out; omega) (fun j hj => (HZ.out j hj).symm) H.out).2.symm, _, by simp only [World.drewN_drewN]; rfl⟩
 · rcases Nat.lt_or_ge xs.length ys.length with h | h
   · have hlt : (xs.length : Int) < (ys.length : Int) := by omega
     go_enter Tryz.func88, Tryz.ntmps88
     go_wp2
     go_ret
     exact ⟨jc (zzk hs hm h).1.symm, 0, rfl⟩
   · have hlt : ¬ (xs.length : Int) < (ys.length : Int) := by omega
     have hlt2 : (ys.length : Int) < (xs.length : Int) := by omega
     go_enter Tryz.func88, Tryz.ntmps88
     go_wp2
     go_ret
     exact ⟨jc (zzk ht hn (by omega)).2.symm, 0, rfl⟩
theorem zjx (A B : Option Addr) (c d : Nat) (i j : Int) (w : World) (hx : Nums8 w A (tens i)) (hy : Nums8 w B (tens j)) (hl : (tens i).length ≤ 1048576) (hl' : (tens j).length ≤ 1048576) :
 Calls Tryz.prog 88 #[.slice A (tens i).length c, .slice B (tens j).length d] w fun e w' => e = .returned (.int .i64 (gh i.natAbs j.natAbs)) ∧ ∃ n, w' = w.drewN n := by
 have h := rsizes_any A B c d (tens i) (tens j) w hx hy (gu i) (gu j) (by rw [jp]; exact ka (by decide) _) (by rw [jp]; exact ka (by decide) _) hl hl';rwa [val_tens, val_tens] at h
end Go.Proofs.YtaleikoeklemmaaGreatDoor

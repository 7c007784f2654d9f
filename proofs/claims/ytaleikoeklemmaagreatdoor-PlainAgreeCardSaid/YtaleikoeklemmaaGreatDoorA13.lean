/- Texts of this claim. -/
import Derived.Test.YtaleikoeklemmaaGreatDoorA12
namespace Go.Proofs.YtaleikoeklemmaaGreatDoor
open Go.RowKit
theorem to_step (n : Int) (m j : Nat) (hj : j < 18) {l : Int} (hl : l = ((n.natAbs / B18 ^ m % B18 / 10 ^ (j + 1) : Nat) : Int)) :
 l * 10 + nth (tens n) (18 * m + j) = ((n.natAbs / B18 ^ m % B18 / 10 ^ j : Nat) : Int) ∧ 0 ≤ l ∧ l < 100000000000000000 := by
 have h1 := limb_step (n.natAbs / B18 ^ m) j hj;have h2 : nth (tens n) (18 * m + j) = ((n.natAbs / B18 ^ m / 10 ^ j % 10 : Nat) : Int) := by rw [nth_tens, chunk_div]
 have h3 : n.natAbs / B18 ^ m % B18 / 10 ^ (j + 1) < 100000000000000000 := by
  have h4 : n.natAbs / B18 ^ m % B18 < B18 := Nat.mod_lt _ (by unfold B18; omega);have h5 : n.natAbs / B18 ^ m % B18 / 10 ^ (j + 1) ≤ n.natAbs / B18 ^ m % B18 / 10 := by
   rw [Nat.pow_succ, Nat.mul_comm, ← Nat.div_div_eq_div_mul]; exact Nat.div_le_self _ _
  unfold B18 at h4 h5 ⊢;omega
 subst hl;rw [h2];refine ⟨?_, by omega, by omega⟩;rw [h1];omega
theorem Blk.app {w w3 : World} {g : Nat} {t : TypeId} {cs : Array Value} {base : Nat} {A : Option Addr} {c : Nat} {xs : List Nat} (h : Blk w g t cs) (hown : Own w base A c xs) (hg : w.grownBy w3 (Value.slice A xs.length c).ownBlock) (ht : 25 ≠ t) : Blk w3 g t cs :=
 h.grown hg (fun e => zcq hown.1 h ht e.symm)
theorem ne_big : (25 : TypeId) ≠ 24 := by decide
theorem to_top (n : Int) (m : Nat) : (0 : Int) = ((n.natAbs / B18 ^ m % B18 / 10 ^ 18 : Nat) : Int) := by
 have h4 : n.natAbs / B18 ^ m % B18 < 10 ^ 18 := Nat.mod_lt _ (by unfold B18; omega);rw [Nat.div_eq_of_lt h4]; rfl
theorem to_peel (n : Int) (m : Nat) (h : ¬ (tens n).length ≤ 18 * m) {zs : List Nat} (hz : zs ++ vt B18 (n.natAbs / B18 ^ m) = limbs n) {l : Int} (hl : l = ((n.natAbs / B18 ^ m % B18 / 10 ^ 0 : Nat) : Int)) :
 (zs ++ [l.toNat]) ++ vt B18 (n.natAbs / B18 ^ (m + 1)) = limbs n ∧ l.toNat < 1000000000000000000 := by
 rw [digs_peel qm _ _ (fun e => h ((tens_le n m).2 e))] at hz;subst hl;refine ⟨?_, ?_⟩
 · rw [List.append_assoc, ← hz, Nat.pow_zero, Nat.div_one, Int.toNat_natCast, List.singleton_append]
 · have h4 : n.natAbs / B18 ^ m % B18 < B18 := Nat.mod_lt _ (by unfold B18; omega);unfold B18 at h4 ⊢;simp only [Nat.pow_zero, Nat.div_one]
   omega
theorem to_end (n : Int) (m : Nat) (h : (tens n).length ≤ 18 * m) {zs : List Nat} (hz : zs ++ vt B18 (n.natAbs / B18 ^ m) = limbs n) : zs = limbs n := by
 rw [(tens_le n m).1 h, zbz, List.append_nil] at hz;exact hz
theorem tens_pos {n : Int} (h : n < 0) : 0 < (tens n).length := by
 rw [zjq]; exact zbq (by decide) (by omega)
set_option maxRecDepth 100000
set_option maxHeartbeats 1000000 in
theorem rto_any (A : Option Addr) (c : Nat) (n : Int) (w : World) (hx : Nums8 w A (tens n)) (hl : (tens n).length ≤ 1048576) :
 Calls Tryz.prog 42 #[.agg #[.bool (decide (n < 0)), .slice A (tens n).length c]] w (RetBig w n) := by
 obtain ⟨bn, hbn⟩ : ∃ bn, bn = decide (n < 0) := ⟨_, rfl⟩;rw [← hbn];have HB := Lib.hid hbn;have hpos : bn = true → 0 < (tens n).length := fun e => tens_pos (by rw [e] at hbn; simpa using hbn.symm);have HP := Lib.hid hpos;clear hbn hpos;have hsm := tens_small n;have HS := Lib.hid hsm;clear hsm;go_enter Tryz.func42, Tryz.ntmps42
 go_wp2_with fail
 go_loopw [4, 5, 6] (fun iv _ _ wr => ∃ (I : Int) (m : Nat) (A' : Option Addr) (c' : Nat) (zs : List Nat), iv = .int .i64 I ∧ 0 ≤ I ∧ I ≤ 2000000 ∧ zs.length ≤ m ∧ Hid (I = 18 * (m : Int)) ∧ Blk wr (w.heap.size + 2) 24 #[.bool false, .slice A' zs.length c'] ∧ Own wr (w.heap.size + 3) A' c' zs ∧
  Hid (zs ++ vt B18 (n.natAbs / B18 ^ m) = limbs n) ∧ Below (w.heap.size + 2) ((w.alloc (.cells #[.bool bn, .slice A (tens n).length c] 45)).alloc (.cells #[.bool false, .slice none 0 0] 24)) wr) (fun iv _ _ _ => 2000000 - (intOf iv).toNat)
 case atStart => exact ⟨0, 0, none, 0, [], rfl, by omega, by omega, by simp, by show _ = _; rfl, Blk.newAt (by simp), Own.nil _ _, by show _ = _; rw [qq]; simp, (Below.refl _ _).alloc (by simp) _⟩
 case round =>
  obtain ⟨I, m, A', c', zs, rfl, hI0, hI1, hzm, HI, RX, hown, HZ, hbel⟩ := hrel;have R0 := (Blk.first w 45 #[.bool bn, .slice A (tens n).length c] (.cells #[.bool false, .slice none 0 0] 24)).below hbel (by omega);have R1 := (Blk.new1 w (.cells #[.bool bn, .slice A (tens n).length c] 45) 24 #[.bool false, .slice none 0 0]).below hbel (by omega)
  have hxr : Nums8 wr A (tens n) := hx.below (w := w) (B := w.heap.size) ((((Below.refl _ _).alloc (Nat.le_refl _) _).alloc (by simp) _).trans (hbel.mono (by omega))) (Nat.le_refl _);obtain ⟨r0, r1, r2, r3⟩ := R0.two;obtain ⟨q0, q1, q2, q3⟩ := R1.two;obtain ⟨x0, x1, x2, x3⟩ := RX.two;have hsz := RX.lt;by_cases hkn : I < ((tens n).length : Int)
  · have HN1 : Hid (¬ (tens n).length ≤ 18 * m) := by have := HI.out; show ¬ _; omega
    obtain ⟨b, o, rfl, hb, hc⟩ := hxr.2 (by omega);have HC := Lib.hid hc;clear hc;go_wp2_with fail
    go_loop [5, 6] (fun lv kv => ∃ (j : Nat) (l K : Int), lv = .int .u64 l ∧ kv = .int .i64 K ∧ j ≤ 18 ∧ Hid (K = I + (j : Int) - 1) ∧ Hid (l = ((n.natAbs / B18 ^ m % B18 / 10 ^ j : Nat) : Int)) ∧ 0 ≤ l ∧ l < 1000000000000000000 ∧ I - 1 ≤ K ∧ K ≤ I + 17) (fun _ kv => (intOf kv + 1).toNat)
    case atStart => exact ⟨18, 0, I + 17, rfl, rfl, by omega, by show _ = _; omega, to_top n m, by omega, by omega, by omega, by omega⟩
    case round =>
     obtain ⟨j, l, K, rfl, rfl, hj, HK, HL, hl0, hl1, hK0, hK1⟩ := hrel;by_cases hj0 : j = 0
     · subst hj0;have hKI : K < I := by have := HK.out; omega
       have hpeel := to_peel n m HN1.out HZ.out HL.out;have HPL := Lib.hid hpeel;have e1 : l = ((l.toNat : Nat) : Int) := by omega
       have hC1 := zyz wr _ _ e1;have H64 : Hid (∀ x ∈ [l.toNat], x < 18446744073709551616) := by intro x hx'; simp only [List.mem_cons, List.not_mem_nil, or_false] at hx'; omega
       have HN : Hid (zs.length + [l.toNat].length ≤ 17592186044416) := by have := HI.out; show zs.length + 1 ≤ _; omega
       have HC1 := Lib.hid hC1;have hmI : Hid (I + 18 = 18 * ((m + 1 : Nat) : Int)) := by have := HI.out; show _ = _; omega
       have hIl : I < 1048576 := by omega
       have HB0 : Hid (w.heap.size + 3 ≤ (wr.alloc (.cells #[.int .u64 l] 25)).heap.size) := by show _ ≤ _; simp; omega
       clear e1 hC1 hpeel hl;go_wp2_with (at_builtin; (refine zbk rfl (.tmp 37) (.tmp 39) rfl (w.heap.size + 3) A' c' zs rfl (hown.alloc _) [l.toNat] ⟨wr.heap.size, 0, none⟩ 1 1 rfl rfl (by exact HC1.out) H64.out HN.out HB0.out (fun A3 c3 w3 hown3 hg3 => ?_)); (have RX3 := (RX.alloc _).app (hown.alloc _) hg3 ne_big); obtain ⟨y0, y1, y2, y3⟩ := RX3.two)
       go_roundw
       case rel => exact ⟨I + 18, m + 1, A3, c3, zs ++ [l.toNat], rfl, by omega, by omega, by simp; omega, hmI, by simpa using RX3.set_ 1 (.slice A3 (zs ++ [l.toNat]).length c3), hown3.setBelow (by show w.heap.size + 2 < w.heap.size + 3; omega) _, HPL.out.1,
        (Below.own (hbel.alloc (by omega) _) ((hown.alloc _).mono (by omega)) (by simp; omega) hg3).setCell (by show w.heap.size + 2 ≤ w.heap.size + 2; omega) _⟩
       case measure => simp [intOf]; omega
     · obtain ⟨j, rfl⟩ : ∃ j', j = j' + 1 := ⟨j - 1, by omega⟩;have hKI : I ≤ K := by have := HK.out; omega
       obtain ⟨hs1, _, hs3⟩ := to_step n m j (by omega) HL.out;have hKj : K.toNat = 18 * m + j := by have := HK.out; have := HI.out; omega
       have hKj2 : K - 1 = I + (j : Int) - 1 := by have := HK.out; omega
       rw [← hKj] at hs1;have hnn := yn (tens n) K.toNat;have hn10 := qu (by omega) HS.out K.toNat;have hKp : 0 ≤ K := by omega
       have hw10 : IntKind.u64.wrap (l * 10) = l * 10 := by simp [IntKind.wrap, IntKind.signed, IntKind.bits]; omega
       have HS1 := Lib.hid hs1; have HKJ2 := Lib.hid hKj2;clear hKj hs1 hKj2;by_cases hKl : K < ((tens n).length : Int)
       · have hcell := HC.out K.toNat (by omega);go_wp2
         go_round
         case rel => exact ⟨j, _, K - 1, rfl, rfl, by omega, HKJ2, HS1, by omega, by omega, by omega, by omega⟩
         case measure => simp [intOf]; omega
       · have hz0 : nth (tens n) K.toNat = 0 := kj _ _ (by omega);have HS2 : Hid (l * 10 = ((n.natAbs / B18 ^ m % B18 / 10 ^ j : Nat) : Int)) := by have := HS1.out; rw [hz0] at this; show _ = _; omega
         clear hz0;go_wp2
         go_round
         case rel => exact ⟨j, _, K - 1, rfl, rfl, by omega, HKJ2, HS2, by omega, by omega, by omega, by omega⟩
         case measure => simp [intOf]; omega
  · have hze := to_end n m (by have := HI.out; omega) HZ.out;subst hze;clear HZ;cases bn
    · go_wp2_with fail
      refine bodyPost_ret (v := .agg #[.bool false, .slice A' (limbs n).length c']) (by simp [results, Tryz.results42, go_sem, q0, q1]) rfl ?_;exact ⟨A', c', by rw [← HB.out], (((hown.setBelow (by show w.heap.size + 2 < w.heap.size + 3; omega) _).setBelow (by show w.heap.size + 1 < w.heap.size + 3; omega) _).setBelow (by show w.heap.size + 1 < w.heap.size + 3; omega) _).mono (by omega),
       ((((((Below.refl _ _).alloc (Nat.le_refl _) _).alloc (by simp) _).trans (hbel.mono (by omega))).setCell (by show w.heap.size ≤ w.heap.size + 2; omega) _).setCell (by show w.heap.size ≤ w.heap.size + 1; omega) _).setCell (by show w.heap.size ≤ w.heap.size + 1; omega) _⟩
    · have hp0 : 0 < (tens n).length := HP.out rfl;go_wp2_with fail
      refine bodyPost_ret (v := .agg #[.bool true, .slice A' (limbs n).length c']) (by simp [results, Tryz.results42, go_sem, q0, q1]) rfl ?_;exact ⟨A', c', by rw [← HB.out], (((hown.setBelow (by show w.heap.size + 2 < w.heap.size + 3; omega) _).setBelow (by show w.heap.size + 1 < w.heap.size + 3; omega) _).setBelow (by show w.heap.size + 1 < w.heap.size + 3; omega) _).mono (by omega),
       ((((((Below.refl _ _).alloc (Nat.le_refl _) _).alloc (by simp) _).trans (hbel.mono (by omega))).setCell (by show w.heap.size ≤ w.heap.size + 2; omega) _).setCell (by show w.heap.size ≤ w.heap.size + 1; omega) _).setCell (by show w.heap.size ≤ w.heap.size + 1; omega) _⟩
end Go.Proofs.YtaleikoeklemmaaGreatDoor
namespace Go.Proofs.YtaleikoeklemmaaGreatDoor
open Go.RowKit
def zfv (n1 : Bool) (xs : List Nat) (n2 : Bool) (ys : List Nat) : Bool := (n1 == n2) && (xs == ys)
theorem list_eq_of_nth {xs ys : List Nat} (hl : xs.length = ys.length) (h : ∀ j, j < xs.length → nth xs j = nth ys j) : xs = ys := by
 apply List.ext_getElem hl
 intro j h1 h2;have := (zoz xs ys j j).1 (h j h1);simpa [List.getD, List.getElem?_eq_getElem h1, List.getElem?_eq_getElem h2] using this
theorem sameB_neg {n1 n2 : Bool} {xs ys : List Nat} (h : n1 ≠ n2) : zfv n1 xs n2 ys = false := by unfold zfv; simp [h]
theorem sameB_len {n1 n2 : Bool} {xs ys : List Nat} (h : xs.length ≠ ys.length) : zfv n1 xs n2 ys = false := by
 unfold zfv;have : (xs == ys) = false := beq_eq_false_iff_ne.2 fun e => h (by rw [e]);rw [this, Bool.and_false]
theorem sameB_digit {n1 n2 : Bool} {xs ys : List Nat} {k : Nat} (h : nth xs k ≠ nth ys k) : zfv n1 xs n2 ys = false := by
 unfold zfv;have : (xs == ys) = false := beq_eq_false_iff_ne.2 fun e => h (by rw [e]);rw [this, Bool.and_false]
theorem sameB_yes {n : Bool} {xs ys : List Nat} (hl : xs.length = ys.length) (h : ∀ j, j < xs.length → nth xs j = nth ys j) : zfv n xs n ys = true := by
 rw [list_eq_of_nth hl h]; unfold zfv; simp
section
variable (A B : Option Addr) (c d : Nat) (xs ys : List Nat) (w : World)
set_option maxRecDepth 100000
set_option maxHeartbeats 1000000 in
theorem rsame_any (n1 n2 : Bool) (hx : Nums w A xs) (hy : Nums w B ys) (hl : xs.length ≤ 1048576) (hl' : ys.length ≤ 1048576) :
 Calls Tryz.prog 34 #[.agg #[.bool n1, .slice A xs.length c], .agg #[.bool n2, .slice B ys.length d]] w fun e w' => e = .returned (.bool (zfv n1 xs n2 ys)) ∧ Below w.heap.size w w' := by
 have L0 : Below w.heap.size w ((w.alloc (.cells #[.bool n1, .slice A xs.length c] 24)).alloc (.cells #[.bool n2, .slice B ys.length d] 24)) := ((Below.refl _ _).alloc (Nat.le_refl _) _).alloc (by simp) _;by_cases hn : n1 = n2
 · subst hn;by_cases hlen : xs.length = ys.length
   · have hne : ((xs.length : Int) != (ys.length : Int)) = false := by simp [hlen]
     have hnn : (n1 != n1) = false := by simp
     have HL := Lib.hid hlen; clear hlen;go_enter Tryz.func34, Tryz.ntmps34
     go_wp2
     go_loopw [5] (fun v wr => ∃ k : Nat, k ≤ xs.length ∧ v = .int .i64 k ∧ (∀ j, j < k → nth xs j = nth ys j) ∧ ∃ n, wr = ((w.alloc (.cells #[.bool n1, .slice A xs.length c] 24)).alloc (.cells #[.bool n1, .slice B ys.length d] 24)).drewN n) (fun v _ => xs.length - (intOf v).toNat)
     case atStart => exact ⟨0, Nat.zero_le _, rfl, fun j hj => absurd hj (by omega), 0, rfl⟩
     case round =>
      obtain ⟨k, hk, rfl, hz, n, rfl⟩ := hrel;have HZ := Lib.hid hz; clear hz;rcases Nat.lt_or_ge k xs.length with hk' | hk'
      · obtain ⟨b, o, rfl, hb, hc⟩ := hx.2 (by omega);obtain ⟨b', o', rfl, hb', hc'⟩ := hy.2 (by rw [← HL.out]; omega);have hcell := hc k (by omega);have hcell' := hc' k (by rw [← HL.out]; omega);have hm1 : (k : Int) < (xs.length : Int) := by omega
        have hm2 : (k : Int) < (ys.length : Int) := by have := HL.out; omega
        have hm0 : (0 : Int) ≤ (k : Int) := by omega
        clear hc hc';by_cases h : nth xs k = nth ys k
        · have hne' : (nth xs k != nth ys k) = false := by simp [h]
          have H := Lib.hid h;clear h;go_wp2
          go_quiet (fail)
          go_wp2
          go_roundw
          case rel => exact ⟨k + 1, by omega, by go_num, fun j hj => by
           by_cases e : j = k
           · rw [e]; exact H.out
           · exact HZ.out j (by omega), _, by first | rfl | (simp only [World.drewN_drewN]; rfl)⟩
          case measure => simp [intOf]; omega
        · have hne' : (nth xs k != nth ys k) = true := by simpa using h
          have H := Lib.hid h;clear h;go_wp2
          go_quiet (fail)
          go_wp2
          go_ret
          exact ⟨ks (sameB_digit H.out).symm, by first | exact L0.drewN _ | exact ⟨L0.os, L0.tape, L0.output, L0.size, L0.block⟩⟩
      · obtain rfl : k = xs.length := by omega
        go_wp2
        go_ret
        exact ⟨ks (sameB_yes HL.out HZ.out).symm, by exact ⟨L0.os, L0.tape, L0.output, L0.size, L0.block⟩⟩
   · have hne : ((xs.length : Int) != (ys.length : Int)) = true := by simp; omega
     have hnn : (n1 != n1) = false := by simp
     have H := Lib.hid hlen;clear hlen;go_enter Tryz.func34, Tryz.ntmps34
     go_wp2
     go_ret
     exact ⟨ks (sameB_len H.out).symm, L0⟩
 · have hnn : (n1 != n2) = true := by simpa using hn
   have H := Lib.hid hn;clear hn;go_enter Tryz.func34, Tryz.ntmps34
   go_wp2
   go_ret
   exact ⟨ks (sameB_neg H.out).symm, L0⟩
end
theorem kz {a b w' : World} (h : Below a.heap.size a b) (k : Below b.heap.size b w') : Below a.heap.size a w' := h.trans (k.mono h.size)
theorem Nums.since {a b : World} {A : Option Addr} {xs : List Nat} (h : Nums a A xs) (k : Below a.heap.size a b) : Nums b A xs := h.below k (Nat.le_refl _)
theorem Nums8.since {a b : World} {A : Option Addr} {xs : List Nat} (h : Nums8 a A xs) (k : Below a.heap.size a b) : Nums8 b A xs := h.below k (Nat.le_refl _)
@[irreducible] def outV (ok : Bool) (s : Int) : Int := if ok then (if s.natAbs < B18 ^ 30 then s else 0) else 0
@[irreducible] def outE (ok : Bool) (s : Int) : Int := if ok then (if s.natAbs < B18 ^ 30 then 0 else 7) else 3
theorem oc {s : Int} (h : s.natAbs < B18 ^ 30) : outV true s = s := by unfold outV; rw [if_pos rfl, if_pos h]
theorem od {s : Int} (h : s.natAbs < B18 ^ 30) : outE true s = 0 := by unfold outE; rw [if_pos rfl, if_pos h]
theorem outV_big {s : Int} (h : B18 ^ 30 ≤ s.natAbs) : outV true s = 0 := by unfold outV; rw [if_pos rfl, if_neg (by omega)]
theorem zqk {s : Int} (h : B18 ^ 30 ≤ s.natAbs) : outE true s = 7 := by unfold outE; rw [if_pos rfl, if_neg (by omega)]
theorem outV_bad (s : Int) : outV false s = 0 := by unfold outV; rfl
theorem outE_bad (s : Int) : outE false s = 3 := by unfold outE; rfl
section
variable (A B : Option Addr) (c d : Nat) (xs ys : List Nat) (w : World)
set_option maxRecDepth 100000
theorem add_any (n1 n2 : Bool) (hx : Nums w A xs) (hy : Nums w B ys) (hl : xs.length ≤ 9223372036854775807) (hl' : ys.length ≤ 9223372036854775807) :
 Calls Tryz.prog 95 #[.agg #[.bool n1, .slice A xs.length c], .agg #[.bool n2, .slice B ys.length d]] w
  (yw w (outV (yb n1 xs && yb n2 ys) (num n1 xs + num n2 ys)) (outE (yb n1 xs && yb n2 ys) (num n1 xs + num n2 ys))) := by
 cases h : (yb n1 xs && yb n2 ys)
 · rw [outV_bad, outE_bad]; exact add_form A B c d xs ys w n1 n2 hx hy hl hl' h
 · obtain ⟨hg, hk⟩ := Bool.and_eq_true_iff.1 h;rcases Nat.lt_or_ge (num n1 xs + num n2 ys).natAbs (B18 ^ 30) with hf | hf
   · rw [oc hf, od hf]; exact add_ok A B c d xs ys w n1 n2 hx hy hg hk hf
   · rw [outV_big hf, zqk hf]; exact add_range A B c d xs ys w n1 n2 hx hy hg hk hf
end
theorem Below.drewN {B : Nat} {a w : World} (h : Below B a w) (n : Nat) : Below B a (w.drewN n) := ⟨h.os, h.tape, h.output, h.size, h.block⟩
@[irreducible] def cmpO (ok : Bool) (i j : Int) : Int := if ok then ky i j else 0
theorem cmp_pos {xs ys : List Nat} : zez (val B18 xs) (val B18 ys) = ky (num false xs) (num false ys) := by
 rw [vw, vw]; unfold ky zez sgn;by_cases h1 : val B18 xs < val B18 ys
 · simp [h1]
 · by_cases h2 : val B18 ys < val B18 xs <;> simp [h1, h2]
theorem cmp_neg {xs ys : List Nat} : zez (val B18 ys) (val B18 xs) = ky (num true xs) (num true ys) := by
 rw [vw, vw]; unfold ky zez sgn;by_cases h1 : val B18 ys < val B18 xs
 · simp [h1]
 · by_cases h2 : val B18 xs < val B18 ys <;> simp [h1, h2]
theorem cmp_lt {xs ys : List Nat} (hg : yb true xs = true) : ky (num true xs) (num false ys) = -1 := by
 have h := neg_num hg;have h1 : num true xs < 0 := by simpa using h
 have h2 : (0 : Int) ≤ num false ys := by rw [vw]; unfold sgn; simp
 unfold ky; rw [if_pos (by omega)]
theorem cmp_gt {xs ys : List Nat} (hk : yb true ys = true) : ky (num false xs) (num true ys) = 1 := by
 have h := neg_num hk;have h1 : num true ys < 0 := by simpa using h
 have h2 : (0 : Int) ≤ num false xs := by rw [vw]; unfold sgn; simp
 unfold ky; rw [if_neg (by omega), if_pos (by omega)]
section
variable (A B : Option Addr) (c d : Nat) (xs ys : List Nat) (w : World)
set_option maxRecDepth 100000
set_option maxHeartbeats 1000000 in
theorem cmp_bad_x (n1 n2 : Bool) (hx : Nums w A xs) (hl : xs.length ≤ 9223372036854775807) (hg : yb n1 xs = false) :
 Calls Tryz.prog 29 #[.agg #[.bool n1, .slice A xs.length c], .agg #[.bool n2, .slice B ys.length d]] w fun e w' => e = .returned (.int .i64 0) ∧ Below w.heap.size w w' := by
 go_enter Tryz.func29, Tryz.ntmps29
 go_wp2_with fail
 refine (yv n1 c _ A xs hl ((hx.alloc _).alloc _)).mono ?_;rintro e w1 ⟨rfl, hb1⟩;have L1 : Below w.heap.size w w1 := (((Below.refl _ _).alloc (Nat.le_refl _) _).alloc (by simp) _).trans (hb1.mono (by simp; omega));go_wp2_with fail
 go_ret
 exact ⟨rfl, L1⟩
set_option maxHeartbeats 1000000 in
theorem cmp_bad_y (n1 n2 : Bool) (hx : Nums w A xs) (hy : Nums w B ys) (hl : ys.length ≤ 9223372036854775807) (hg : yb n1 xs = true) (hk : yb n2 ys = false) :
 Calls Tryz.prog 29 #[.agg #[.bool n1, .slice A xs.length c], .agg #[.bool n2, .slice B ys.length d]] w fun e w' => e = .returned (.int .i64 0) ∧ Below w.heap.size w w' := by
 obtain ⟨_, _, hlx, _⟩ := qe hg;go_enter Tryz.func29, Tryz.ntmps29
 go_wp2_with fail
 refine (yv n1 c _ A xs (by omega) ((hx.alloc _).alloc _)).mono ?_;rintro e w1 ⟨rfl, hb1⟩;have Y1 := (Blk.new (w.alloc (.cells #[.bool n1, .slice A xs.length c] 24)) 24 #[.bool n2, .slice B ys.length d]).below hb1 (by simp);have L1 : Below w.heap.size w w1 := (((Below.refl _ _).alloc (Nat.le_refl _) _).alloc (by simp) _).trans (hb1.mono (by simp; omega));simp only [World.size_alloc] at Y1
 obtain ⟨y0, y1, y2, y3⟩ := Y1.two;go_wp2_with fail
 refine (yv n2 d _ B ys hl (hy.below L1 (Nat.le_refl _))).mono ?_;rintro e w2 ⟨rfl, hb2⟩;have L2 := L1.trans (hb2.mono L1.size);go_wp2_with fail
 go_ret
 exact ⟨rfl, L2⟩
set_option maxHeartbeats 1000000 in
theorem cmp_good (n1 n2 : Bool) (hx : Nums w A xs) (hy : Nums w B ys) (hg : yb n1 xs = true) (hk : yb n2 ys = true) :
 Calls Tryz.prog 29 #[.agg #[.bool n1, .slice A xs.length c], .agg #[.bool n2, .slice B ys.length d]] w fun e w' => e = .returned (.int .i64 (ky (num n1 xs) (num n2 ys))) ∧ Below w.heap.size w w' := by
 obtain ⟨hs, hn, hlx, _⟩ := qe hg;obtain ⟨ht, hm, hly, _⟩ := qe hk;cases n1 <;> cases n2
 case false.false =>
  have HV := Lib.hid (cmp_pos (xs := xs) (ys := ys));go_enter Tryz.func29, Tryz.ntmps29
  go_wp2_with fail
  refine (yv false c _ A xs (by omega) ((hx.alloc _).alloc _)).mono ?_;rintro e w1 ⟨rfl, hb1⟩;have X1 := (Blk.first w 24 #[.bool false, .slice A xs.length c] (.cells #[.bool false, .slice B ys.length d] 24)).below hb1 (by simp; omega);have Y1 := (Blk.new (w.alloc (.cells #[.bool false, .slice A xs.length c] 24)) 24 #[.bool false, .slice B ys.length d]).below hb1 (by simp)
  have L1 : Below w.heap.size w w1 := (((Below.refl _ _).alloc (Nat.le_refl _) _).alloc (by simp) _).trans (hb1.mono (by simp; omega));simp only [World.size_alloc] at X1 Y1
  clear hb1;obtain ⟨y0, y1, y2, y3⟩ := Y1.two;go_wp2_with fail
  refine (yv false d _ B ys (by omega) (hy.below L1 (Nat.le_refl _))).mono ?_;rintro e w2 ⟨rfl, hb2⟩;have X2 := X1.below hb2 X1.lt; have Y2 := Y1.below hb2 Y1.lt;have L2 := L1.trans (hb2.mono L1.size);clear y0 y1 y2 y3 X1 Y1 L1 hb2;obtain ⟨x0, x1, x2, x3⟩ := X2.two;obtain ⟨y0, y1, y2, y3⟩ := Y2.two;go_wp2_with fail
  refine (zpv A B c d xs ys _ (hx.below L2 (Nat.le_refl _)) (hy.below L2 (Nat.le_refl _)) hs ht hn hm (by omega) (by omega)).mono ?_;rintro e w3 ⟨rfl, n, rfl⟩;rw [HV.out];go_wp2_with fail
  go_ret
  exact ⟨rfl, Below.drewN L2 n⟩
 case true.true =>
  have HV := Lib.hid (cmp_neg (xs := xs) (ys := ys));go_enter Tryz.func29, Tryz.ntmps29
  go_wp2_with fail
  refine (yv true c _ A xs (by omega) ((hx.alloc _).alloc _)).mono ?_;rintro e w1 ⟨rfl, hb1⟩;have X1 := (Blk.first w 24 #[.bool true, .slice A xs.length c] (.cells #[.bool true, .slice B ys.length d] 24)).below hb1 (by simp; omega);have Y1 := (Blk.new (w.alloc (.cells #[.bool true, .slice A xs.length c] 24)) 24 #[.bool true, .slice B ys.length d]).below hb1 (by simp)
  have L1 : Below w.heap.size w w1 := (((Below.refl _ _).alloc (Nat.le_refl _) _).alloc (by simp) _).trans (hb1.mono (by simp; omega));simp only [World.size_alloc] at X1 Y1
  clear hb1;obtain ⟨y0, y1, y2, y3⟩ := Y1.two;go_wp2_with fail
  refine (yv true d _ B ys (by omega) (hy.below L1 (Nat.le_refl _))).mono ?_;rintro e w2 ⟨rfl, hb2⟩;have X2 := X1.below hb2 X1.lt; have Y2 := Y1.below hb2 Y1.lt;have L2 := L1.trans (hb2.mono L1.size);clear y0 y1 y2 y3 X1 Y1 L1 hb2;obtain ⟨x0, x1, x2, x3⟩ := X2.two;obtain ⟨y0, y1, y2, y3⟩ := Y2.two;go_wp2_with fail
  refine (zpv B A d c ys xs _ (hy.below L2 (Nat.le_refl _)) (hx.below L2 (Nat.le_refl _)) ht hs hm hn (by omega) (by omega)).mono ?_;rintro e w3 ⟨rfl, n, rfl⟩;rw [HV.out];go_wp2_with fail
  go_ret
  exact ⟨rfl, Below.drewN L2 n⟩
 case true.false =>
  have HV := Lib.hid (cmp_lt (xs := xs) (ys := ys) hg);go_enter Tryz.func29, Tryz.ntmps29
  go_wp2_with fail
  refine (yv true c _ A xs (by omega) ((hx.alloc _).alloc _)).mono ?_;rintro e w1 ⟨rfl, hb1⟩;have X1 := (Blk.first w 24 #[.bool true, .slice A xs.length c] (.cells #[.bool false, .slice B ys.length d] 24)).below hb1 (by simp; omega);have Y1 := (Blk.new (w.alloc (.cells #[.bool true, .slice A xs.length c] 24)) 24 #[.bool false, .slice B ys.length d]).below hb1 (by simp)
  have L1 : Below w.heap.size w w1 := (((Below.refl _ _).alloc (Nat.le_refl _) _).alloc (by simp) _).trans (hb1.mono (by simp; omega));simp only [World.size_alloc] at X1 Y1
  clear hb1;obtain ⟨y0, y1, y2, y3⟩ := Y1.two;go_wp2_with fail
  refine (yv false d _ B ys (by omega) (hy.below L1 (Nat.le_refl _))).mono ?_;rintro e w2 ⟨rfl, hb2⟩;have X2 := X1.below hb2 X1.lt; have Y2 := Y1.below hb2 Y1.lt;have L2 := L1.trans (hb2.mono L1.size);clear y0 y1 y2 y3 X1 Y1 L1 hb2;obtain ⟨x0, x1, x2, x3⟩ := X2.two;obtain ⟨y0, y1, y2, y3⟩ := Y2.two;go_wp2_with fail
  go_ret
  exact ⟨xq HV.out.symm, L2⟩
 case false.true =>
  have HV := Lib.hid (cmp_gt (xs := xs) (ys := ys) hk);go_enter Tryz.func29, Tryz.ntmps29
  go_wp2_with fail
  refine (yv false c _ A xs (by omega) ((hx.alloc _).alloc _)).mono ?_;rintro e w1 ⟨rfl, hb1⟩;have X1 := (Blk.first w 24 #[.bool false, .slice A xs.length c] (.cells #[.bool true, .slice B ys.length d] 24)).below hb1 (by simp; omega);have Y1 := (Blk.new (w.alloc (.cells #[.bool false, .slice A xs.length c] 24)) 24 #[.bool true, .slice B ys.length d]).below hb1 (by simp)
  have L1 : Below w.heap.size w w1 := (((Below.refl _ _).alloc (Nat.le_refl _) _).alloc (by simp) _).trans (hb1.mono (by simp; omega));simp only [World.size_alloc] at X1 Y1
  clear hb1;obtain ⟨y0, y1, y2, y3⟩ := Y1.two;go_wp2_with fail
  refine (yv true d _ B ys (by omega) (hy.below L1 (Nat.le_refl _))).mono ?_;rintro e w2 ⟨rfl, hb2⟩;have X2 := X1.below hb2 X1.lt; have Y2 := Y1.below hb2 Y1.lt;have L2 := L1.trans (hb2.mono L1.size);clear y0 y1 y2 y3 X1 Y1 L1 hb2;obtain ⟨x0, x1, x2, x3⟩ := X2.two;obtain ⟨y0, y1, y2, y3⟩ := Y2.two;go_wp2_with fail
  go_ret
  exact ⟨xq HV.out.symm, L2⟩
theorem cmp_any (n1 n2 : Bool) (hx : Nums w A xs) (hy : Nums w B ys) (hl : xs.length ≤ 9223372036854775807) (hl' : ys.length ≤ 9223372036854775807) :
 Calls Tryz.prog 29 #[.agg #[.bool n1, .slice A xs.length c], .agg #[.bool n2, .slice B ys.length d]] w fun e w' => e = .returned (.int .i64 (cmpO (yb n1 xs && yb n2 ys) (num n1 xs) (num n2 ys))) ∧ Below w.heap.size w w' := by
 unfold cmpO;cases hg : yb n1 xs
 · exact cmp_bad_x A B c d xs ys w n1 n2 hx hl hg
 cases hk : yb n2 ys
 · exact cmp_bad_y A B c d xs ys w n1 n2 hx hy hl' hg hk
 exact cmp_good A B c d xs ys w n1 n2 hx hy hg hk
end
set_option maxRecDepth 100000
theorem Per.nums8N {X : Nat → Prop} {w : World} {A : Option Addr} {xs : List Nat} (h : Nums8 w A xs) (hx : ∀ q, A = some q → ¬ X q.block) : Per X w (fun b => Nums8 b A xs) := fun b hb =>
 ⟨h.1, fun h0 => by
  obtain ⟨g, o, rfl, hg, hc⟩ := h.2 h0;exact ⟨g, o, rfl, Nat.lt_of_lt_of_le hg hb.size, fun k hk => (hb.cell (p := ⟨g, o + k, none⟩) hg (hx ⟨g, o, none⟩ rfl)).trans (hc k hk)⟩⟩
theorem Per.nums80 {w : World} {A : Option Addr} {xs : List Nat} (h : Nums8 w A xs) : Per No w (fun b => Nums8 b A xs) := Per.nums8N h (fun _ _ => id)
theorem Per.own8X {X : Nat → Prop} {w : World} {base c : Nat} {A : Option Addr} {xs : List Nat} (h : Own8 w base A c xs) (hx : ∀ k, X k → k < base) : Per X w (fun b => Nums8 b A xs) := Per.nums8N h.nums (fun q hq e => by have := hx _ e; have := (h.ge q hq).1; omega)
theorem nth_nat (xs : List Nat) (k : Nat) : nth xs k = ((xs.getD k 0 : Nat) : Int) := by unfold nth; rfl
end Go.Proofs.YtaleikoeklemmaaGreatDoor
namespace Go.Proofs.YtaleikoeklemmaaGreatDoor
open Go.RowKit
def bor (m n k : Nat) : Nat := if m % 10 ^ k < n % 10 ^ k then 1 else 0
def RetTens (W : World) (i : Int) (e : Ending) (w' : World) : Prop := ∃ A c, e = .returned (.slice A (tens i).length c) ∧ Own8 w' W.heap.size A c (tens i) ∧ Below W.heap.size W w'
set_option maxRecDepth 100000
end Go.Proofs.YtaleikoeklemmaaGreatDoor
namespace Go.Proofs.YtaleikoeklemmaaGreatDoor
open Go.RowKit
end Go.Proofs.YtaleikoeklemmaaGreatDoor

/- The walk of the reference's To: digits to limbs. -/
import Derived.Test.YteggjfmcpodepaaDoorROf
import Derived.Test.YteggjfmcpodepaaDoorWDoubles
namespace Go.Proofs.YteggjfmcpodepaaDoor
open Go.RowKit

theorem to_step (n : Int) (m j : Nat) (hj : j < 18) {l : Int} (hl : l = ((n.natAbs / B18 ^ m % B18 / 10 ^ (j + 1) : Nat) : Int)) :
    l * 10 + nth (tens n) (18 * m + j) = ((n.natAbs / B18 ^ m % B18 / 10 ^ j : Nat) : Int) ∧ 0 ≤ l ∧ l < 100000000000000000 := by
  have h1 := limb_step (n.natAbs / B18 ^ m) j hj
  have h2 : nth (tens n) (18 * m + j) = ((n.natAbs / B18 ^ m / 10 ^ j % 10 : Nat) : Int) := by rw [nth_tens, chunk_div]
  have h3 : n.natAbs / B18 ^ m % B18 / 10 ^ (j + 1) < 100000000000000000 := by
    have h4 : n.natAbs / B18 ^ m % B18 < B18 := Nat.mod_lt _ (by unfold B18; omega)
    have h5 : n.natAbs / B18 ^ m % B18 / 10 ^ (j + 1) ≤ n.natAbs / B18 ^ m % B18 / 10 := by
      rw [Nat.pow_succ, Nat.mul_comm, ← Nat.div_div_eq_div_mul]; exact Nat.div_le_self _ _
    unfold B18 at h4 h5 ⊢
    omega
  subst hl
  rw [h2]
  refine ⟨?_, by omega, by omega⟩
  rw [h1]
  omega
theorem Blk.app {w w3 : World} {g : Nat} {t : TypeId} {cs : Array Value} {base : Nat} {A : Option Addr} {c : Nat} {xs : List Nat} (h : Blk w g t cs) (hown : Own w base A c xs) (hg : w.grownBy w3 (Value.slice A xs.length c).ownBlock) (ht : 63 ≠ t) : Blk w3 g t cs :=
  h.grown hg (fun e => own_blk_ne hown.1 h ht e.symm)
theorem ne_big : (63 : TypeId) ≠ 24 := by decide
theorem to_top (n : Int) (m : Nat) : (0 : Int) = ((n.natAbs / B18 ^ m % B18 / 10 ^ 18 : Nat) : Int) := by
  have h4 : n.natAbs / B18 ^ m % B18 < 10 ^ 18 := Nat.mod_lt _ (by unfold B18; omega)
  rw [Nat.div_eq_of_lt h4]; rfl
theorem to_peel (n : Int) (m : Nat) (h : ¬ (tens n).length ≤ 18 * m) {zs : List Nat} (hz : zs ++ digs B18 (n.natAbs / B18 ^ m) = limbs n) {l : Int} (hl : l = ((n.natAbs / B18 ^ m % B18 / 10 ^ 0 : Nat) : Int)) :
    (zs ++ [l.toNat]) ++ digs B18 (n.natAbs / B18 ^ (m + 1)) = limbs n ∧ l.toNat < 1000000000000000000 := by
  rw [digs_peel B18_two _ _ (fun e => h ((tens_le n m).2 e))] at hz
  subst hl
  refine ⟨?_, ?_⟩
  · rw [List.append_assoc, ← hz, Nat.pow_zero, Nat.div_one, Int.toNat_natCast, List.singleton_append]
  · have h4 : n.natAbs / B18 ^ m % B18 < B18 := Nat.mod_lt _ (by unfold B18; omega)
    unfold B18 at h4 ⊢
    simp only [Nat.pow_zero, Nat.div_one]
    omega
theorem to_end (n : Int) (m : Nat) (h : (tens n).length ≤ 18 * m) {zs : List Nat} (hz : zs ++ digs B18 (n.natAbs / B18 ^ m) = limbs n) : zs = limbs n := by
  rw [(tens_le n m).1 h, digs_zero, List.append_nil] at hz
  exact hz
theorem tens_pos {n : Int} (h : n < 0) : 0 < (tens n).length := by
  rw [tens_eq]; exact digs_pos (by decide) (by omega)

set_option maxRecDepth 100000
set_option maxHeartbeats 1000000 in
theorem rto_any (A : Option Addr) (c : Nat) (n : Int) (w : World) (hx : Nums8 w A (tens n)) (hl : (tens n).length ≤ 1048576) :
    Calls Tryd.prog 23 #[.agg #[.bool (decide (n < 0)), .slice A (tens n).length c]] w (RetBig w n) := by
  obtain ⟨bn, hbn⟩ : ∃ bn, bn = decide (n < 0) := ⟨_, rfl⟩
  rw [← hbn]
  have HB := Lib.hid hbn
  have hpos : bn = true → 0 < (tens n).length := fun e => tens_pos (by rw [e] at hbn; simpa using hbn.symm)
  have HP := Lib.hid hpos
  clear hbn hpos
  have hsm := tens_small n
  have HS := Lib.hid hsm
  clear hsm
  go_enter Tryd.func23, Tryd.ntmps23
  go_wp2_with fail
  go_loopw [4, 5, 6] (fun iv _ _ wr => ∃ (I : Int) (m : Nat) (A' : Option Addr) (c' : Nat) (zs : List Nat), iv = .int .i64 I ∧ 0 ≤ I ∧ I ≤ 2000000 ∧ zs.length ≤ m ∧ Hid (I = 18 * (m : Int)) ∧ Blk wr (w.heap.size + 2) 24 #[.bool false, .slice A' zs.length c'] ∧ Own wr (w.heap.size + 3) A' c' zs ∧
      Hid (zs ++ digs B18 (n.natAbs / B18 ^ m) = limbs n) ∧ Below (w.heap.size + 2) ((w.alloc (.cells #[.bool bn, .slice A (tens n).length c] 33)).alloc (.cells #[.bool false, .slice none 0 0] 24)) wr) (fun iv _ _ _ => 2000000 - (intOf iv).toNat)
  case atStart => exact ⟨0, 0, none, 0, [], rfl, by omega, by omega, by simp, by show _ = _; rfl, Blk.newAt (by simp), Own.nil _ _, by show _ = _; rw [limbs_eq]; simp, (Below.refl _ _).alloc (by simp) _⟩
  case round =>
    obtain ⟨I, m, A', c', zs, rfl, hI0, hI1, hzm, HI, RX, hown, HZ, hbel⟩ := hrel
    have R0 := (Blk.first w 33 #[.bool bn, .slice A (tens n).length c] (.cells #[.bool false, .slice none 0 0] 24)).below hbel (by omega)
    have R1 := (Blk.new1 w (.cells #[.bool bn, .slice A (tens n).length c] 33) 24 #[.bool false, .slice none 0 0]).below hbel (by omega)
    have hxr : Nums8 wr A (tens n) := hx.below (w := w) (B := w.heap.size) ((((Below.refl _ _).alloc (Nat.le_refl _) _).alloc (by simp) _).trans (hbel.mono (by omega))) (Nat.le_refl _)
    obtain ⟨r0, r1, r2, r3⟩ := R0.two
    obtain ⟨q0, q1, q2, q3⟩ := R1.two
    obtain ⟨x0, x1, x2, x3⟩ := RX.two
    have hsz := RX.lt
    by_cases hkn : I < ((tens n).length : Int)
    · have HN1 : Hid (¬ (tens n).length ≤ 18 * m) := by have := HI.out; show ¬ _; omega
      obtain ⟨b, o, rfl, hb, hc⟩ := hxr.2 (by omega)
      have HC := Lib.hid hc
      clear hc
      go_wp2_with fail
      go_loop [5, 6] (fun lv kv => ∃ (j : Nat) (l K : Int), lv = .int .u64 l ∧ kv = .int .i64 K ∧ j ≤ 18 ∧ Hid (K = I + (j : Int) - 1) ∧ Hid (l = ((n.natAbs / B18 ^ m % B18 / 10 ^ j : Nat) : Int)) ∧ 0 ≤ l ∧ l < 1000000000000000000 ∧ I - 1 ≤ K ∧ K ≤ I + 17) (fun _ kv => (intOf kv + 1).toNat)
      case atStart => exact ⟨18, 0, I + 17, rfl, rfl, by omega, by show _ = _; omega, to_top n m, by omega, by omega, by omega, by omega⟩
      case round =>
        obtain ⟨j, l, K, rfl, rfl, hj, HK, HL, hl0, hl1, hK0, hK1⟩ := hrel
        by_cases hj0 : j = 0
        · subst hj0
          have hKI : K < I := by have := HK.out; omega
          have hpeel := to_peel n m HN1.out HZ.out HL.out
          have HPL := Lib.hid hpeel
          have e1 : l = ((l.toNat : Nat) : Int) := by omega
          have hC1 := cells_one wr _ _ e1
          have H64 : Hid (∀ x ∈ [l.toNat], x < 18446744073709551616) := by intro x hx'; simp only [List.mem_cons, List.not_mem_nil, or_false] at hx'; omega
          have HN : Hid (zs.length + [l.toNat].length ≤ 17592186044416) := by have := HI.out; show zs.length + 1 ≤ _; omega
          have HC1 := Lib.hid hC1
          have hmI : Hid (I + 18 = 18 * ((m + 1 : Nat) : Int)) := by have := HI.out; show _ = _; omega
          have hIl : I < 1048576 := by omega
          have HB0 : Hid (w.heap.size + 3 ≤ (wr.alloc (.cells #[.int .u64 l] 63)).heap.size) := by show _ ≤ _; simp; omega
          clear e1 hC1 hpeel hl
          go_wp2_with (at_builtin; (refine wpList_app rfl (.tmp 37) (.tmp 39) rfl (w.heap.size + 3) A' c' zs rfl (hown.alloc _) [l.toNat] ⟨wr.heap.size, 0, none⟩ 1 1 rfl rfl (by exact HC1.out) H64.out HN.out HB0.out (fun A3 c3 w3 hown3 hg3 => ?_)); (have RX3 := (RX.alloc _).app (hown.alloc _) hg3 ne_big); obtain ⟨y0, y1, y2, y3⟩ := RX3.two)
          go_roundw
          case rel => exact ⟨I + 18, m + 1, A3, c3, zs ++ [l.toNat], rfl, by omega, by omega, by simp; omega, hmI, by simpa using RX3.set_ 1 (.slice A3 (zs ++ [l.toNat]).length c3), hown3.setBelow (by show w.heap.size + 2 < w.heap.size + 3; omega) _, HPL.out.1,
            (Below.own (hbel.alloc (by omega) _) ((hown.alloc _).mono (by omega)) (by simp; omega) hg3).setCell (by show w.heap.size + 2 ≤ w.heap.size + 2; omega) _⟩
          case measure => simp [intOf]; omega
        · obtain ⟨j, rfl⟩ : ∃ j', j = j' + 1 := ⟨j - 1, by omega⟩
          have hKI : I ≤ K := by have := HK.out; omega
          obtain ⟨hs1, _, hs3⟩ := to_step n m j (by omega) HL.out
          have hKj : K.toNat = 18 * m + j := by have := HK.out; have := HI.out; omega
          have hKj2 : K - 1 = I + (j : Int) - 1 := by have := HK.out; omega
          rw [← hKj] at hs1
          have hnn := nth_nonneg (tens n) K.toNat
          have hn10 := nth_lt (by omega) HS.out K.toNat
          have hKp : 0 ≤ K := by omega
          have hw10 : IntKind.u64.wrap (l * 10) = l * 10 := by simp [IntKind.wrap, IntKind.signed, IntKind.bits]; omega
          have HS1 := Lib.hid hs1; have HKJ2 := Lib.hid hKj2
          clear hKj hs1 hKj2
          by_cases hKl : K < ((tens n).length : Int)
          · have hcell := HC.out K.toNat (by omega)
            go_wp2
            go_round
            case rel => exact ⟨j, _, K - 1, rfl, rfl, by omega, HKJ2, HS1, by omega, by omega, by omega, by omega⟩
            case measure => simp [intOf]; omega
          · have hz0 : nth (tens n) K.toNat = 0 := nth_past _ _ (by omega)
            have HS2 : Hid (l * 10 = ((n.natAbs / B18 ^ m % B18 / 10 ^ j : Nat) : Int)) := by have := HS1.out; rw [hz0] at this; show _ = _; omega
            clear hz0
            go_wp2
            go_round
            case rel => exact ⟨j, _, K - 1, rfl, rfl, by omega, HKJ2, HS2, by omega, by omega, by omega, by omega⟩
            case measure => simp [intOf]; omega
    · have hze := to_end n m (by have := HI.out; omega) HZ.out
      subst hze
      clear HZ
      cases bn
      · go_wp2_with fail
        refine bodyPost_ret (v := .agg #[.bool false, .slice A' (limbs n).length c']) (by simp [results, Tryd.results23, go_sem, q0, q1]) rfl ?_
        exact ⟨A', c', by rw [← HB.out], (((hown.setBelow (by show w.heap.size + 2 < w.heap.size + 3; omega) _).setBelow (by show w.heap.size + 1 < w.heap.size + 3; omega) _).setBelow (by show w.heap.size + 1 < w.heap.size + 3; omega) _).mono (by omega),
          ((((((Below.refl _ _).alloc (Nat.le_refl _) _).alloc (by simp) _).trans (hbel.mono (by omega))).setCell (by show w.heap.size ≤ w.heap.size + 2; omega) _).setCell (by show w.heap.size ≤ w.heap.size + 1; omega) _).setCell (by show w.heap.size ≤ w.heap.size + 1; omega) _⟩
      · have hp0 : 0 < (tens n).length := HP.out rfl
        go_wp2_with fail
        refine bodyPost_ret (v := .agg #[.bool true, .slice A' (limbs n).length c']) (by simp [results, Tryd.results23, go_sem, q0, q1]) rfl ?_
        exact ⟨A', c', by rw [← HB.out], (((hown.setBelow (by show w.heap.size + 2 < w.heap.size + 3; omega) _).setBelow (by show w.heap.size + 1 < w.heap.size + 3; omega) _).setBelow (by show w.heap.size + 1 < w.heap.size + 3; omega) _).mono (by omega),
          ((((((Below.refl _ _).alloc (Nat.le_refl _) _).alloc (by simp) _).trans (hbel.mono (by omega))).setCell (by show w.heap.size ≤ w.heap.size + 2; omega) _).setCell (by show w.heap.size ≤ w.heap.size + 1; omega) _).setCell (by show w.heap.size ≤ w.heap.size + 1; omega) _⟩
end Go.Proofs.YteggjfmcpodepaaDoor

/- The walk of whole.divide, where the divisor has one half, and where it has more halves than the number. -/
import Derived.Test.YteggjfmcpodepaaDoorDivMath
namespace Go.Proofs.YteggjfmcpodepaaDoor
open Go.RowKit

theorem Own.at_ {w : World} {base c : Nat} {A : Option Addr} {xs : List Nat} (h : Own w base A c xs) (h0 : 0 < xs.length) :
    ∃ g, A = some ⟨g, 0, none⟩ ∧ base ≤ g ∧ g < w.heap.size ∧ xs.length ≤ c ∧ ∀ k, k < xs.length → w.cell? ⟨g, k, none⟩ = some (.int .u64 (nth xs k)) := by
  obtain ⟨b, o, rfl, hb, hc⟩ := h.nums.2 h0
  rcases h.1.2 with ⟨_, hn⟩ | ⟨g, cap, cur, hv, hg, hh, hnc, _⟩
  · omega
  · injection hv with hA _ hcc
    injection hA with hA
    injection hA with e1 e2
    subst e1; subst e2; subst hcc
    exact ⟨b, rfl, hg, hb, hnc, fun k hk => by have := hc k hk; rwa [Nat.zero_add] at this⟩

/-- What divide leaves. -/
def DivPost (w : World) (X Y : Nat) (e : Ending) (w' : World) : Prop :=
  ∃ A1 c1 qs A2 c2 rs, e = .returned (.tuple #[.slice A1 qs.length c1, .slice A2 rs.length c2]) ∧ Nums w' A1 qs ∧ Nums w' A2 rs ∧ small B18 qs ∧ small B18 rs ∧ qs.length ≤ 1048576 ∧ rs.length ≤ 1048576 ∧
    val B18 qs = X / Y ∧ val B18 rs = X % Y ∧ Below w.heap.size w w'
theorem halves_len {xs : List Nat} (hs : small B18 xs) : (digs B9 (val B18 xs)).length ≤ 2 * xs.length := by
  rw [digs_length_le B9_two, B9_sq]; exact val_lt hs
theorem nums_one (w : World) (x : Int) (a : Nat) (hx : x = (a : Int)) (h : a < 18446744073709551616) : Nums (w.alloc (.cells #[.int .u64 x] 63)) (some ⟨w.heap.size, 0, none⟩) [a] := by
  subst hx
  refine ⟨nth_bound (by simpa using h), fun _ => ⟨w.heap.size, 0, rfl, by simp, fun k hk => ?_⟩⟩
  obtain rfl : k = 0 := by simpa using hk
  rw [Nat.zero_add, cell_of_row _ w.heap.size 0 _ _ _ (heap_alloc_new w _)]
  simp [nth]
theorem div_of {X Q V R : Nat} (h : X = Q * V + R) (hlt : R < V) : Q = X / V ∧ R = X % V := by
  subst h
  have hV : 0 < V := by omega
  rw [Nat.add_comm (Q * V) R, Nat.add_mul_div_right _ _ hV, Nat.add_mul_mod_self_right, Nat.div_eq_of_lt hlt, Nat.mod_eq_of_lt hlt]
  simp

set_option maxRecDepth 100000 in
set_option maxHeartbeats 400000 in
theorem divide_one (A B : Option Addr) (c d : Nat) (xs ys : List Nat) (w : World) (hx : Nums w A xs) (hy : Nums w B ys) (hs : small B18 xs) (ht : small B18 ys) (hl : xs.length ≤ 1000) (hl' : ys.length ≤ 1000)
    (h1 : (digs B9 (val B18 ys)).length = 1) :
    Calls Tryd.prog 48 #[.slice A xs.length c, .slice B ys.length d] w (DivPost w (val B18 xs) (val B18 ys)) := by
  have hu := halves_len hs
  go_enter Tryd.func48, Tryd.ntmps48
  go_wp2_with fail
  refine (halves_any B d ys _ hy ht (by omega)).mono ?_
  rintro e w1 ⟨A1, c1, vs, rfl, hv, hvd, hb1⟩
  have HVD := Lib.hid hvd; clear hvd
  go_wp2_with fail
  refine (halves_any A c xs _ (hx.below hb1 (Nat.le_refl _)) hs (by omega)).mono ?_
  rintro e w2 ⟨A2, c2, us, rfl, hus, hud, hb2⟩
  have hvd := HVD.out
  have L2 := hb1.trans (hb2.mono hb1.size)
  have hv2 := hv.below hb2 (Nat.le_refl _)
  rw [← hvd] at h1
  obtain ⟨g, rfl, hg0, hg1, _, hc⟩ := hv2.at_ (by omega)
  have hc0 := hc 0 (by omega)
  have hv1 : ((vs.length : Int) == 1) = true := beq_iff_eq.2 (by omega)
  have hvl : 0 < vs.length := by omega
  have hvals : val B18 ys = (nth vs 0).toNat := by
    have e := val_digs B9_two (val B18 ys)
    rw [← hvd] at e
    rw [← e]
    match vs, h1 with
    | [v], _ => simp [val, nth]
  have hpos : nth vs 0 ≠ 0 := by
    have h2 := noLead_digs B9_two (val B18 ys)
    rw [← hvd] at h2
    rcases h2 with h2 | h2
    · omega
    · rw [h1] at h2; unfold nth; simp at h2 ⊢; omega
  have hsv : small B9 vs := by rw [hvd]; exact small_digs B9_two _
  have hsu : small B9 us := by rw [hud]; exact small_digs B9_two _
  have hv90 := nth_nonneg vs 0
  have hv91 : nth vs 0 < 1000000000 := nth_lt (by unfold B9; omega) hsv 0
  have hvx : val B9 us = val B18 xs := by rw [hud]; exact val_digs B9_two _
  have hul : us.length ≤ 2000 := by rw [hud]; omega
  have HV := Lib.hid hvals; have HX := Lib.hid hvx
  clear hvals hvx hvd hud h1 hc hu
  go_wp2_with fail
  refine (short_any A2 c2 us (nth vs 0) _ hus.nums hsu (by omega) (by omega) hv91).mono ?_
  rintro e w3 ⟨g3, zs, r, rfl, hrow, hzl, hzs, hr0, hr1, hzv, hg3, hb3⟩
  have HZ := Lib.hid hzl; have HZV := Lib.hid hzv
  clear hzl hzv
  go_wp2_with fail
  refine (doubles_any _ _ zs _ (by exact hrow.nums rfl (fun x hx => by have := hzs x hx; unfold B9 at this; omega)) hzs (by have := HZ.out; omega)).mono ?_
  rintro e w4 ⟨A4, c4, qs, rfl, hq, hqs, hqv, hql, hb4⟩
  have HQ := Lib.hid hqv
  clear hqv
  go_wp2
  go_ret2
  have er : r = ((r.toNat : Nat) : Int) := by omega
  have hdm := div_of (X := val B18 xs) (Q := val B18 qs) (V := val B18 ys) (R := r.toNat) (by rw [HQ.out, HV.out, ← HX.out]; exact HZV.out) (by rw [HV.out]; omega)
  exact ⟨A4, c4, qs, _, 1, [r.toNat], rfl, hq.nums.alloc _, nums_one _ _ _ er (by omega), hqs, fun x hx => by simp at hx; subst hx; unfold B18; omega, by have := HZ.out; omega, by simp, hdm.1, by simp only [val, Nat.mul_zero, Nat.add_zero]; exact hdm.2,
    ((L2.trans (hb3.mono L2.size)).trans (hb4.mono (L2.trans (hb3.mono L2.size)).size)).alloc (((L2.trans (hb3.mono L2.size)).trans (hb4.mono (L2.trans (hb3.mono L2.size)).size)).size) _⟩

set_option maxRecDepth 100000 in
set_option maxHeartbeats 400000 in
theorem divide_less (A B : Option Addr) (c d : Nat) (xs ys : List Nat) (w : World) (hx : Nums w A xs) (hy : Nums w B ys) (hs : small B18 xs) (ht : small B18 ys) (hl : xs.length ≤ 1000) (hl' : ys.length ≤ 1000)
    (h1 : (digs B9 (val B18 ys)).length ≠ 1) (h2 : (digs B9 (val B18 xs)).length < (digs B9 (val B18 ys)).length) :
    Calls Tryd.prog 48 #[.slice A xs.length c, .slice B ys.length d] w (DivPost w (val B18 xs) (val B18 ys)) := by
  have hlt : val B18 xs < val B18 ys := by
    have := val_lt_of_length B9_two (small_digs B9_two (val B18 xs)) (noLead_digs B9_two (val B18 ys)) h2
    rwa [val_digs B9_two, val_digs B9_two] at this
  have HLT := Lib.hid hlt
  clear hlt
  go_enter Tryd.func48, Tryd.ntmps48
  go_wp2_with fail
  refine (halves_any B d ys _ hy ht (by omega)).mono ?_
  rintro e w1 ⟨A1, c1, vs, rfl, hv, hvd, hb1⟩
  have HVD := Lib.hid hvd; clear hvd
  go_wp2_with fail
  refine (halves_any A c xs _ (hx.below hb1 (Nat.le_refl _)) hs (by omega)).mono ?_
  rintro e w2 ⟨A2, c2, us, rfl, hus, hud, hb2⟩
  have hvd := HVD.out
  have L2 := hb1.trans (hb2.mono hb1.size)
  rw [← hvd] at h1
  rw [← hvd, ← hud] at h2
  have hv1 : ((vs.length : Int) == 1) = false := beq_eq_false_iff_ne.2 (by omega)
  have h3 : (us.length : Int) < (vs.length : Int) := by omega
  clear hvd hud
  go_wp2
  go_ret2
  exact ⟨none, 0, [], A, c, xs, rfl, ⟨fun k => by rw [nth_nil]; omega, fun h => by simp at h⟩, hx.below L2 (Nat.le_refl _), small_nil, hs, by simp, by omega, by rw [Nat.div_eq_of_lt HLT.out]; rfl, (Nat.mod_eq_of_lt HLT.out).symm, L2⟩
end Go.Proofs.YteggjfmcpodepaaDoor

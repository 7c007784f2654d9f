/- The walk of whole.short. -/
import Derived.Test.YteggjfmcpodepaaDoorWHalves
namespace Go.Proofs.YteggjfmcpodepaaDoor
open Go.RowKit

theorem val_drop {b : Nat} (l : List Nat) (m : Nat) (h : m < l.length) : val b (l.drop m) = l.getD m 0 + b * val b (l.drop (m + 1)) := by
  rw [List.drop_eq_getElem_cons h]
  simp [val, List.getD, List.getElem?_eq_getElem h]
theorem drop_set (l : List Nat) (m q : Nat) (h : m < l.length) : (l.set m q).drop m = q :: l.drop (m + 1) := by
  rw [List.drop_eq_getElem_cons (by simpa using h)]
  simp [List.drop_set_of_lt]
theorem small_set {b : Nat} {l : List Nat} (h : small b l) (m q : Nat) (hq : q < b) : small b (l.set m q) := by
  intro x hx
  rcases List.mem_or_eq_of_mem_set hx with h1 | h1
  · exact h x h1
  · subst h1; exact hq
theorem short_step {us ys : List Nat} {m : Nat} {rest d : Int} (hm : m < us.length) (hy : ys.length = us.length) (hd : 0 < d) (h0 : 0 ≤ rest)
    (h : val B9 (us.drop (m + 1)) = val B9 (ys.drop (m + 1)) * d.toNat + rest.toNat) :
    val B9 (us.drop m) = val B9 ((ys.set m ((rest * 1000000000 + nth us m) / d).toNat).drop m) * d.toNat + ((rest * 1000000000 + nth us m) % d).toNat := by
  rw [drop_set _ _ _ (by omega), val_drop us m hm, h]
  obtain ⟨r, rfl⟩ := Int.eq_ofNat_of_zero_le h0
  obtain ⟨e, rfl⟩ := Int.eq_ofNat_of_zero_le (Int.le_of_lt hd)
  have e1 : nth us m = ((us.getD m 0 : Nat) : Int) := by unfold nth; rfl
  rw [e1]
  generalize us.getD m 0 = x
  have e2 : (((r : Int) * 1000000000 + (x : Int)) / (e : Int)).toNat = (r * B9 + x) / e := by
    have : ((r : Int) * 1000000000 + (x : Int)) = ((r * B9 + x : Nat) : Int) := by unfold B9; omega
    rw [this, ← Int.natCast_ediv, Int.toNat_natCast]
  have e3 : (((r : Int) * 1000000000 + (x : Int)) % (e : Int)).toNat = (r * B9 + x) % e := by
    have : ((r : Int) * 1000000000 + (x : Int)) = ((r * B9 + x : Nat) : Int) := by unfold B9; omega
    rw [this, ← Int.natCast_emod, Int.toNat_natCast]
  rw [e2, e3]
  simp only [Int.toNat_natCast, val]
  have e4 := Nat.div_add_mod (r * B9 + x) e
  generalize (r * B9 + x) / e = q at *
  generalize (r * B9 + x) % e = s at *
  generalize val B9 (ys.drop (m + 1)) = V
  rw [Nat.add_mul, Nat.mul_add, ← Nat.mul_assoc, Nat.mul_comm q e, Nat.mul_comm B9 r]
  omega
theorem short_bound {T d : Int} (hd : 0 < d) (h0 : 0 ≤ T) (hT : T < d * 1000000000) : 0 ≤ T / d ∧ T / d < 1000000000 ∧ 0 ≤ T % d ∧ T % d < d :=
  ⟨Int.ediv_nonneg h0 (by omega), Int.ediv_lt_of_lt_mul hd (by rw [Int.mul_comm]; exact hT), Int.emod_nonneg _ (by omega), Int.emod_lt_of_pos _ hd⟩

set_option maxRecDepth 100000 in
set_option maxHeartbeats 400000 in
theorem short_any (A : Option Addr) (c : Nat) (us : List Nat) (d : Int) (w : World) (hx : Nums w A us) (hs : small B9 us) (hl : us.length ≤ 1048576) (hd : 0 < d) (hd9 : d < 1000000000) :
    Calls Tryd.prog 66 #[.slice A us.length c, .int .u64 d] w fun e w' => ∃ g zs r, e = .returned (.tuple #[.slice (some ⟨g, 0, none⟩) zs.length zs.length, .int .u64 r]) ∧ Row w' g zs.length zs ∧
      zs.length = us.length ∧ small B9 zs ∧ 0 ≤ r ∧ r < d ∧ val B9 us = val B9 zs * d.toNat + r.toNat ∧ w.heap.size ≤ g ∧ Below w.heap.size w w' := by
  have hmk := make64 us.length (by omega)
  have hd0 : (d == 0) = false := beq_eq_false_iff_ne.2 (by omega)
  go_enter Tryd.func66, Tryd.ntmps66
  go_wp2
  go_loopw [7, 8] (fun rv v wr => ∃ (k : Nat) (ys : List Nat) (rest : Int), k ≤ us.length ∧ v = .int .i64 ((k : Int) - 1) ∧ rv = .int .u64 rest ∧ 0 ≤ rest ∧ rest < d ∧ ys.length = us.length ∧ small B9 ys ∧
      val B9 (us.drop k) = val B9 (ys.drop k) * d.toNat + rest.toNat ∧ Row wr w.heap.size us.length ys ∧ Below w.heap.size w wr) (fun _ v _ => (intOf v + 1).toNat)
  case atStart =>
    have h1 := (Row.made w us.length).fill
    simp only [List.nil_append, List.length_nil, Nat.sub_zero] at h1
    exact ⟨us.length, List.replicate us.length 0, 0, Nat.le_refl _, rfl, rfl, by omega, hd, by simp, fun x hx => by rw [List.mem_replicate] at hx; rw [hx.2]; unfold B9; omega, by simp [val], h1, (Below.refl _ _).alloc (Nat.le_refl _) _⟩
  case round =>
    obtain ⟨k, ys, rest, hk, rfl, rfl, hr0, hr1, hyl, hys, hval, hrow, hbel⟩ := hrel
    have HV := Lib.hid hval; have HY := Lib.hid hyl; clear hval hyl
    by_cases hk0 : k = 0
    · subst hk0
      go_wp2
      go_ret2
      have hv := HV.out
      simp only [List.drop_zero] at hv
      exact ⟨w.heap.size, ys, rest, by rw [HY.out]; rfl, by rw [HY.out]; exact hrow, HY.out, hys, hr0, hr1, hv, Nat.le_refl _, hbel⟩
    · obtain ⟨m, rfl⟩ : ∃ m, k = m + 1 := ⟨k - 1, by omega⟩
      obtain ⟨b, o, rfl, hb, hc⟩ := hx.2 (by omega)
      have hca : wr.cell? ⟨b, o + m, none⟩ = some (.int .u64 (nth us m)) := (hbel.cell (p := ⟨b, o + m, none⟩) hb).trans (hc m (by omega))
      have hx0 := nth_nonneg us m
      have hx1 : nth us m < 1000000000 := nth_lt (by unfold B9; omega) hs m
      have hbd := short_bound (T := rest * 1000000000 + nth us m) hd (by omega) (by omega)
      obtain ⟨q0, q1, q2, q3⟩ := hbd
      have hcell := hrow.cell (j := m) (by omega)
      have hfro := hrow.frozen m
      have hlt := hrow.lt
      have hm1 : (m : Int) < (us.length : Int) := by omega
      have hm0 : (0 : Int) ≤ (m : Int) := by omega
      clear hc
      go_wp2
      go_region
      go_wp2
      go_roundw
      case rel => exact ⟨m, ys.set m ((rest * 1000000000 + nth us m) / d).toNat, (rest * 1000000000 + nth us m) % d, by omega, by go_num, rfl, q2, q3, by rw [List.length_set]; exact HY.out, small_set hys _ _ (by unfold B9; omega),
        short_step (by omega) HY.out hd hr0 HV.out, (hrow.setInt _ q0 (by have := HY.out; omega)).drew, (hbel.setCell (Nat.le_refl _) _).drew⟩
      case measure => simp [intOf]
end Go.Proofs.YteggjfmcpodepaaDoor

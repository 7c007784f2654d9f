/- The walk of the reference's shares: long division, digit by digit. -/
import Derived.Test.YteggjfmcpodepaaDoorRPlus
import Derived.Test.YteggjfmcpodepaaDoorWTake
namespace Go.Proofs.YteggjfmcpodepaaDoor
open Go.RowKit

theorem add_flat (b o k : Nat) : ((⟨b, o, none⟩ : Addr).add k) = ⟨b, o + k, none⟩ := by unfold Addr.add; split <;> simp_all
theorem Nums8.reads {w : World} {A : Option Addr} {xs : List Nat} (h : Nums8 w A xs) : Reads w w.heap.size 1 A xs.length (xs.map fun x : Nat => Value.int .u8 (x : Int)) := by
  refine ⟨by simp, fun hn => ?_⟩
  obtain ⟨b, o, rfl, hb, hc⟩ := h.2 hn
  refine ⟨⟨b, o, none⟩, rfl, hb, fun j u hu => ?_⟩
  rw [List.getElem?_map] at hu
  by_cases hj : j < xs.length
  · rw [List.getElem?_eq_getElem hj] at hu
    simp only [Option.map_some, Option.some.injEq] at hu
    rw [add_flat, hc j hj, ← hu]
    simp [nth, hj]
  · rw [List.getElem?_eq_none (by omega)] at hu; simp at hu
/-- append of the bytes of any slice to a slice of the call's own. -/
theorem wpList_cat8 {w : World} {ops : Array Oper} {rest : List Oper} {o : Oper} {a : Act} {Q : Exit → Act → World → Prop} (hgd : o.guard = none) (s x : Operand)
    (ho : o.op = .call { callee := .builtin .append, args := #[s, x], argTypes := #[31, 31] }) (base : Nat) (A : Option Addr) (c : Nat) (xs : List Nat) (hs : a.eval s = .slice A xs.length c)
    (hown : Own8 w base A c xs) (B : Option Addr) (cc : Nat) (ys : List Nat) (hx : a.eval x = .slice B ys.length cc) (hy : Nums8 w B ys) (h64 : ∀ x ∈ ys, x < 256) (hl : xs.length + ys.length ≤ 17592186044416) (hbase : base ≤ w.heap.size)
    (h : ∀ A' c' w', Own8 w' base A' c' (xs ++ ys) → w.grownBy w' (Value.slice A xs.length c).ownBlock → wpList Tryd.prog ops Q rest (a.put o.dst (.slice A' (xs ++ ys).length c')) w') : wpList Tryd.prog ops Q (o :: rest) a w := by
  obtain ⟨i, hi, hz, hsz, hby⟩ := infoParts8
  refine wpList_append_any w hgd s x _ ho base 5 i _ 1 1 Tryd.underlying31 hi hz hsz hby rfl (by decide) _ _ _ hs hown.1 w.heap.size B ys.length cc (ys.map fun x : Nat => Value.int .u8 (x : Int)) hx hy.reads
    (fun u hu => by rw [List.mem_map] at hu; obtain ⟨y, _, rfl⟩ := hu; rfl) (by unfold maxLen; omega) (by omega) hbase ?_
  intro v' w' hown' hg' _
  rw [← List.map_append] at hown'
  obtain ⟨A', c', hv, ho'⟩ := Own8.of_owns hown' (fun y hy => by
    rcases List.mem_append.1 hy with h1 | h1
    · exact hown.2 y h1
    · exact h64 y h1)
  rw [hv]
  exact h A' c' w' ho' hg'
theorem Own8.one (w : World) (v : Int) (x : Nat) (hv : v = (x : Int)) (hx : x < 256) : Own8 (w.alloc (.cells #[.int .u8 v] 5)) w.heap.size (some ⟨w.heap.size, 0, none⟩) 1 [x] := by
  subst hv
  have h : Row8 (w.alloc (.cells #[.int .u8 (x : Int)] 5)) w.heap.size 1 [x] := by
    refine ⟨⟨#[.int .u8 (x : Int)], heap_alloc_new w _, rfl, fun i hi => ?_⟩, by simp⟩
    obtain rfl : i = 0 := by omega
    simp [rowOf8, nth]
  exact Own8.of_row h (Nat.le_refl _) (by decide) (by simp) (fun j _ => rfl) (by simp; omega)

theorem val_rep10' (n : Nat) : val 10 (List.replicate n 0) = 0 := by
  induction n with
  | zero => rfl
  | succ n ih => rw [List.replicate_succ, val, ih]
/-- A number in a cell: for a loop's measure. -/
def cellN (w : World) (g m : Nat) : Nat := match w.cell? ⟨g, m, none⟩ with | some (.int _ n) => n.toNat | _ => 0
theorem cellN_row {w : World} {g n m : Nat} {qs : List Nat} (h : Row8 w g n qs) (hm : m < n) : cellN w g m = qs.getD m 0 := by
  unfold cellN; rw [h.cell hm]; unfold nth; simp
/-- One digit of the dividend is taken down. -/
theorem share_head (V Y m : Nat) : V / 10 ^ m = 10 * (V / 10 ^ (m + 1)) + V / 10 ^ m % 10 := by
  rw [Nat.pow_succ, ← Nat.div_div_eq_div_mul]; omega
theorem share_end {V Y m R1 T : Nat} (hY : 0 < Y) (h : R1 + T * Y = V / 10 ^ m % 10 + 10 * (V / 10 ^ (m + 1) % Y)) (hR : R1 < Y) :
    R1 = V / 10 ^ m % Y ∧ 10 * (V / 10 ^ (m + 1) / Y) + T = V / 10 ^ m / Y := by
  have e := share_head V Y m
  have d := Nat.div_add_mod (V / 10 ^ (m + 1)) Y
  generalize V / 10 ^ (m + 1) = D at *
  generalize V / 10 ^ m % 10 = a at *
  generalize D / Y = Qk at *
  generalize D % Y = R at *
  have e2 : V / 10 ^ m = R1 + Y * (10 * Qk + T) := by
    rw [e, ← d, Nat.mul_add, Nat.mul_add, Nat.mul_comm Y T, Nat.mul_left_comm Y 10]
    omega
  rw [e2]
  constructor
  · rw [Nat.add_mul_mod_self_left, Nat.mod_eq_of_lt hR]
  · rw [Nat.add_mul_div_left _ _ hY, Nat.div_eq_of_lt hR]; omega
theorem share_nine {V Y m R1 T : Nat} (hY : 0 < Y) (h : R1 + T * Y = V / 10 ^ m % 10 + 10 * (V / 10 ^ (m + 1) % Y)) (hR : Y ≤ R1) : T + 1 ≤ 9 := by
  have h1 : V / 10 ^ m % 10 < 10 := Nat.mod_lt _ (by decide)
  have h2 := Nat.mod_lt (V / 10 ^ (m + 1)) hY
  rcases Nat.lt_or_ge (T + 1) 10 with h3 | h3
  · omega
  · have := Nat.mul_le_mul_right Y h3
    rw [Nat.add_mul, Nat.one_mul] at this
    omega
theorem tens_congr {i j : Int} (h : i.natAbs = j.natAbs) : tens i = tens j := by rw [tens_eq, tens_eq, h]
/-- What a call leaves that answers quotient and rest. -/
def RetShares (W : World) (q r : Int) (e : Ending) (w' : World) : Prop :=
  ∃ A1 c1 A2 c2, e = .returned (.tuple #[.slice A1 (tens q).length c1, .slice A2 (tens r).length c2]) ∧ Own8 w' W.heap.size A1 c1 (tens q) ∧ Own8 w' W.heap.size A2 c2 (tens r) ∧ Below W.heap.size W w'
set_option maxRecDepth 100000
set_option maxHeartbeats 2000000 in
theorem rshares_any (A B : Option Addr) (c d : Nat) (i j q r : Int) (w : World) (hx : Nums8 w A (tens i)) (hy : Nums8 w B (tens j)) (hl : (tens i).length ≤ 600) (hl' : (tens j).length ≤ 600) (hj0 : j ≠ 0) (hq : i.natAbs / j.natAbs = q.natAbs) (hr : i.natAbs % j.natAbs = r.natAbs) :
    Calls Tryd.prog 52 #[.slice A (tens i).length c, .slice B (tens j).length d] w (RetShares w q r) := by
  have HQ := Lib.hid hq; have HR := Lib.hid hr
  have hY : 0 < j.natAbs := by omega
  have HSX := Lib.hid (tens_small i)
  obtain ⟨la, hla⟩ : ∃ la, la = (tens i).length := ⟨_, rfl⟩
  have hmk := make8 la (by omega)
  have hp0 := natAbs_past (i := i) (k := la) (by omega)
  have HP0 := Lib.hid hp0
  have hlb : la ≤ 600 := by omega
  have HLA := Lib.hid hla
  rw [← hla]
  clear hq hr hp0 hla hl
  go_enter Tryd.func52, Tryd.ntmps52
  go_upto_region 2 with fail
  obtain ⟨W1, hW1⟩ : ∃ W1, W1 = w.alloc (.cells (madeCells #[.int .u8 0] la) 5) := ⟨_, rfl⟩
  have L1 : Below w.heap.size w W1 := by rw [hW1]; exact (Below.refl _ _).alloc (Nat.le_refl _) _
  have hrow : Row8 W1 w.heap.size la (List.replicate la 0) := by
    have h := (Row8.made w la).fill
    rw [← hW1] at h
    simpa using h
  rw [← hW1]
  clear hmk hW1
  go_wp2_with fail
  go_loopw [7, 8] (fun rv iv wr => ∃ (k R : Nat) (A' : Option Addr) (c' : Nat) (rs qs : List Nat), k ≤ la ∧ iv = .int .i64 ((k : Int) - 1) ∧ rv = .slice A' rs.length c' ∧ Own8 wr (w.heap.size + 1) A' c' rs ∧ Hid (rs = tens ((R : Nat) : Int)) ∧ Hid (R = i.natAbs / 10 ^ k % j.natAbs) ∧
      Row8 wr w.heap.size la qs ∧ qs.length = la ∧ small 10 qs ∧ Hid (val 10 qs = 10 ^ k * (i.natAbs / 10 ^ k / j.natAbs)) ∧ Hid (∀ p, p < k → nth qs p = 0) ∧ Below w.heap.size w wr) (fun _ iv _ => (intOf iv + 1).toNat)
  case atStart =>
    refine ⟨la, 0, none, 0, [], List.replicate la 0, Nat.le_refl _, rfl, rfl, Own8.nil _ _, ?_, ?_, hrow, by simp, ?_, ?_, fun p _ => nth_replicate _ _, L1⟩
    · show _ = _; exact tens_zero.symm
    · show _ = _; rw [HP0.out, Nat.zero_mod]
    · intro x hx; rw [List.eq_of_mem_replicate hx]; decide
    · show _ = _; rw [HP0.out, Nat.zero_div, Nat.mul_zero]; exact val_rep10' la
  case round =>
    obtain ⟨k, R, A', c', rs, qs, hk, rfl, rfl, hown, HRS, HRR, hrw, hql, hqs, HV, HZ, hbel⟩ := hrel
    have hxr : Nums8 wr A (tens i) := hx.since hbel
    have hsz : w.heap.size < wr.heap.size := hrw.lt
    by_cases hk0 : k = 0
    · subst hk0
      have hoq : Own8 wr w.heap.size (some ⟨w.heap.size, 0, none⟩) la qs := Own8.of_row hrw (Nat.le_refl _) (by unfold maxLen; omega) (by omega) (fun _ _ => rfl) (fun x hx => by have := hqs x hx; omega)
      have hvq : val 10 qs = q.natAbs := by rw [HV.out, ← HQ.out]; simp
      have hcut := fun w h => rcut_tens w.heap.size (some ⟨w.heap.size, 0, none⟩) la qs q w h hqs hvq (by omega)
      have hrt : rs = tens r := by rw [HRS.out]; exact tens_congr (by rw [← HR.out]; have := HRR.out; simpa using this)
      subst hrt
      have hcut2 := rcut_tens w.heap.size (some ⟨w.heap.size, 0, none⟩) la qs q wr hoq hqs hvq (by omega)
      rw [hql] at hcut2
      clear hvq hcut HRS HRR HV HZ
      go_wp2_with (go_at_call 55; refine hcut2.mono ?_; rintro e w4 ⟨rfl, hown4, rfl⟩)
      go_ret2
      exact ⟨_, la, A', c', rfl, hown4, hown.mono (by omega), hbel⟩
    · obtain ⟨m, rfl⟩ : ∃ m, k = m + 1 := ⟨k - 1, by omega⟩
      obtain ⟨wo, rfl⟩ : ∃ wo : World, wo = wr := ⟨_, rfl⟩
      have ht1 : ((m + 1 : Nat) : Int) - 1 = (m : Int) := by omega
      rw [ht1]
      have hlx := nth_lt (by omega) HSX.out m
      have hnx := nth_nonneg (tens i) m
      obtain ⟨b, o, hAe, hb, hc⟩ := hxr.2 (by have := HLA.out; omega)
      subst hAe
      have hcx := hc m (by have := HLA.out; omega)
      have hm1 : (m : Int) < (la : Int) := by omega
      obtain ⟨a, ha⟩ : ∃ a, a = (tens i).getD m 0 := ⟨_, rfl⟩
      have hae : nth (tens i) m = (a : Int) := by rw [ha]; unfold nth; rfl
      have hav : a = i.natAbs / 10 ^ m % 10 := by have := nth_tens i m; omega
      have hone := Own8.one wo (nth (tens i) m) a hae (by omega)
      have hbase : wo.heap.size ≤ (wo.alloc (.cells #[.int .u8 (nth (tens i) m)] 5)).heap.size := by simp
      have hn8 := (hown.alloc (.cells #[.int .u8 (nth (tens i) m)] 5)).nums
      have h256 : ∀ x ∈ rs, x < 256 := hown.2
      obtain ⟨KK, hKK⟩ : ∃ KK : Nat, KK = 600 := ⟨_, rfl⟩
      have hrl : rs.length ≤ KK := by
        rw [HRS.out]
        have h1 := Nat.mod_lt (i.natAbs / 10 ^ (m + 1)) hY
        have h2 := HRR.out
        rw [tens_eq]
        refine (digs_length_le (by decide) _ _).2 ?_
        have h3 : j.natAbs < 10 ^ (tens j).length := (digs_length_le (by decide) _ _).1 (by rw [tens_eq]; exact Nat.le_refl _)
        have h4 : 10 ^ (tens j).length ≤ 10 ^ KK := Nat.pow_le_pow_right (by decide) (by omega)
        simp only [Int.natAbs_natCast]
        omega
      have hrl : rs.length ≤ 600 := by omega
      have HH := Lib.hid h256
      have HAV := Lib.hid hav
      have HLEN : Hid ([a].length + rs.length ≤ 17592186044416) := by show 1 + _ ≤ _; omega
      have H256 : Hid (∀ x ∈ rs, x < 256) := HH.out
      clear ht1 hc ha hae hav h256 hKK
      go_wp2_with (at_builtin; go_loud (refine wpList_cat8 rfl (.tmp 23) (.tmp 24) rfl wo.heap.size (some ⟨wo.heap.size, 0, none⟩) 1 [a] rfl hone A' c' rs rfl hn8 H256.out HLEN.out hbase (fun A3 c3 w3 hown3 hg3 => ?_)); refine Hid.out ?_)
      refine Lib.hid ?_
      have hb3 : Below wo.heap.size wo w3 := Below.own8 ((Below.refl _ _).alloc (Nat.le_refl _) _) hone (by simp) hg3
      obtain ⟨ds, hds⟩ : ∃ ds, ds = [a] ++ rs := ⟨_, rfl⟩
      rw [← hds] at hown3
      have hll : rs.length + 1 = ds.length := by rw [hds]; simp
      rw [hll]
      have hlen3 : ds.length ≤ 1048576 := by omega
      obtain ⟨R', hR'⟩ : ∃ R' : Nat, R' = i.natAbs / 10 ^ m % 10 + 10 * (i.natAbs / 10 ^ (m + 1) % j.natAbs) := ⟨_, rfl⟩
      have hvd : val 10 ds = ((R' : Nat) : Int).natAbs := by
        have h1 : val 10 rs = R := by rw [HRS.out, val_tens]; simp
        have h2 := HRR.out
        rw [hds, List.singleton_append, val, h1, hR', HAV.out, ← h2, Int.natAbs_natCast]
      have hsm : small 10 ds := by
        rw [hds, List.singleton_append]
        exact small_cons.2 ⟨by rw [HAV.out]; exact Nat.mod_lt _ (by decide), by rw [HRS.out]; exact tens_small _⟩
      have HV3 := Lib.hid hvd; have HSM := Lib.hid hsm; have HL3 := Lib.hid hlen3; have HR' := Lib.hid hR'
      clear hvd hsm hlen3 hds hll HH HAV HLEN H256 hone hbase hn8 hg3 hR'
      go_wp2_with (go_at_call 55; refine (rcut_tens wo.heap.size A3 c3 ds ((R' : Nat) : Int) _ hown3 HSM.out HV3.out HL3.out).mono ?_; rintro e w4 ⟨rfl, hown4, rfl⟩; refine Hid.out ?_)
      refine Lib.hid ?_
      have hbel3 : Below w.heap.size w w3 := hbel.trans (hb3.mono (by omega))
      have hrw3 := hrw.below hb3 hsz
      have hs3 := hb3.size
      have hown5 : Own8 w3 (w.heap.size + 1) A3 c3 (tens ((R' : Nat) : Int)) := hown4.mono (by omega)
      have HZ3 : Hid (nth qs m = ((0 : Nat) : Int)) := HZ.out m (by omega)
      have HV0 : Hid (val 10 qs = 10 ^ (m + 1) * (i.natAbs / 10 ^ (m + 1) / j.natAbs) + 10 ^ m * 0) := by show _ = _; rw [HV.out]; simp
      have HT0 : Hid (R' + 0 * j.natAbs = i.natAbs / 10 ^ m % 10 + 10 * (i.natAbs / 10 ^ (m + 1) % j.natAbs)) := by show _ = _; rw [HR'.out]; simp
      have HZm : Hid (∀ p, p < m → nth qs p = 0) := fun p hp => HZ.out p (by omega)
      clear hown3 HSM HV3 HL3 HRS HRR HV HZ hown hb3 hrw hbel hxr hcx hb hnx hlx hown4
      go_wp2_with fail
      go_loopw [7] (fun rv wi => ∃ (T R1 : Nat) (A' : Option Addr) (c' : Nat) (rs qs : List Nat), rv = .slice A' rs.length c' ∧ Own8 wi (w.heap.size + 1) A' c' rs ∧ Hid (rs = tens ((R1 : Nat) : Int)) ∧ Hid (R1 + T * j.natAbs = i.natAbs / 10 ^ m % 10 + 10 * (i.natAbs / 10 ^ (m + 1) % j.natAbs)) ∧ T ≤ 9 ∧
          Row8 wi w.heap.size la qs ∧ qs.length = la ∧ small 10 qs ∧ Hid (val 10 qs = 10 ^ (m + 1) * (i.natAbs / 10 ^ (m + 1) / j.natAbs) + 10 ^ m * T) ∧ Hid (nth qs m = (T : Int)) ∧ Hid (∀ p, p < m → nth qs p = 0) ∧ Below w.heap.size w wi) (fun _ wi => 10 - cellN wi w.heap.size m)
      case atStart => exact ⟨0, R', A3, c3, tens ((R' : Nat) : Int), qs, rfl, hown5, rfl, HT0, by omega, hrw3, hql, hqs, HV0, HZ3, HZm, hbel3⟩
      case round =>
        obtain ⟨T, R1, A4, c4, rs1, qs1, rfl, ho4, HRS, HT, hT9, hrw, hql1, hqs1, HV, HNT, HZ, hbel⟩ := hrel
        have hyr : Nums8 wr B (tens j) := hy.since hbel
        have hsz1 : w.heap.size < wr.heap.size := hrw.lt
        have hrl1 : (tens ((R1 : Nat) : Int)).length ≤ 1048576 := by
          obtain ⟨KK, hKK⟩ : ∃ KK : Nat, KK = 601 := ⟨_, rfl⟩
          have h0 : (tens ((R1 : Nat) : Int)).length ≤ KK := by
            rw [tens_eq]
            refine (digs_length_le (by decide) _ _).2 ?_
            have h3 : j.natAbs < 10 ^ (tens j).length := (digs_length_le (by decide) _ _).1 (by rw [tens_eq]; exact Nat.le_refl _)
            have h4 : 10 ^ ((tens j).length + 1) ≤ 10 ^ KK := Nat.pow_le_pow_right (by decide) (by omega)
            have h1 := Nat.mod_lt (i.natAbs / 10 ^ (m + 1)) hY
            have h2 : i.natAbs / 10 ^ m % 10 < 10 := Nat.mod_lt _ (by decide)
            have h5 := HT.out
            rw [Nat.pow_succ] at h4
            simp only [Int.natAbs_natCast]
            omega
          omega
        have hsz2 := rsizes_b A4 B c4 d ((R1 : Nat) : Int) j wr (by rw [← HRS.out]; exact ho4.nums) hyr hrl1 (by omega)
        rw [Int.natAbs_natCast, ← HRS.out] at hsz2
        by_cases hge : j.natAbs ≤ R1
        · have hcmp : ¬ cmpN R1 j.natAbs < 0 := by unfold cmpN; rw [if_neg (by omega)]; split <;> omega
          have hcmp' : 0 ≤ cmpN R1 j.natAbs := by omega
          have h9 := share_nine hY HT.out hge
          have hmin := fun w hx hy => rminusrow_any A4 B c4 d ((R1 : Nat) : Int) j ((R1 - j.natAbs : Nat) : Int) w hx hy hrl1 (by omega) (by simpa using hge) (by simp)
          rw [← HRS.out] at hmin
          have hc4 : Own8 wr (w.heap.size + 1) A4 c4 rs1 := ho4
          have HN4 := Lib.hid ho4.nums
          have HGE := Lib.hid hge
          clear hcmp hge hrl1
          go_wp2_with (go_at_call 58; refine hsz2.mono ?_; rintro e w5 ⟨rfl, hb5⟩; refine Hid.out ?_)
          refine Lib.hid ?_
          have hn5 := HN4.out.since hb5
          have hy5 := hyr.since hb5
          have hrw5 := hrw.below hb5 hsz1
          have hs5 := hb5.size
          have hbel5 := hbel.trans (hb5.mono (by omega))
          clear hsz2
          go_wp2_with (go_at_call 54; refine (hmin _ hn5 hy5).mono ?_; rintro e w6 ⟨A6, c6, rfl, ho6, hb6⟩; refine Hid.out ?_)
          refine Lib.hid ?_
          have hrw6 := hrw5.below hb6 (by omega)
          have hs6 := hb6.size
          have hbel6 := hbel5.trans (hb6.mono (by omega))
          have ho6' := ho6.mono (show w.heap.size + 1 ≤ _ by omega)
          have hcz := hrw6.cell (j := m) (by omega)
          have hfz := hrw6.frozen m
          have hnt := HNT.out
          rw [hnt] at hcz
          have hm0 : (0 : Int) ≤ (m : Int) := by omega
          have hT8 : (T : Int) + 1 < 256 := by omega
          have hlq : m < qs1.length := by omega
          have hw8 : IntKind.u8.wrap ((T : Int) + 1) = (T : Int) + 1 := wrap8 _ (by omega) hT8
          clear hnt hmin hn5 hy5 hrw5 hb5 hb6
          go_wp2_with fail
          go_roundw
          case rel => exact ⟨T + 1, R1 - j.natAbs, A6, c6, _, qs1.set m ((T : Int) + 1).toNat, rfl, ho6'.setBelow (by show w.heap.size < w.heap.size + 1; omega) _, rfl, by
              have := HT.out; have := HGE.out; show _ = _; rw [Nat.add_mul, Nat.one_mul]; omega, h9, hrw6.setInt _ (by omega) hlq, by rw [List.length_set]; exact hql1, small_set hqs1 _ _ (by omega), by
              have h1 := val_set (b := 10) qs1 m ((T : Int) + 1).toNat hlq
              have h2 : qs1.getD m 0 = T := by have := HNT.out; unfold nth at this; omega
              rw [h2, HV.out, show ((T : Int) + 1).toNat = T + 1 by omega] at h1
              show _ = _; rw [show ((T : Int) + 1).toNat = T + 1 by omega]; omega, by
              show _ = _; rw [nth_set _ _ _ hlq, if_pos rfl]; omega, fun p hp => by rw [nth_set _ _ _ hlq, if_neg (by omega)]; exact HZ.out p hp, hbel6.setCell (Nat.le_refl _) _⟩
          case measure =>
            have k1 := cellN_row (hrw6.setInt ((T : Int) + 1) (by omega) hlq) (m := m) (by omega)
            have k2 := cellN_row hrw (m := m) (by omega)
            have h2 : qs1.getD m 0 = T := by have := HNT.out; unfold nth at this; omega
            have h3 : (qs1.set m ((T : Int) + 1).toNat).getD m 0 = T + 1 := by simp [hlq]
            rw [k1, k2, h2, h3]; omega
        · have hcmp : cmpN R1 j.natAbs = -1 := by unfold cmpN; rw [if_pos (by omega)]
          rw [hcmp] at hsz2
          obtain ⟨e1, e2⟩ := share_end hY HT.out (by omega)
          have HE1 := Lib.hid e1; have HE2 := Lib.hid e2
          clear hcmp hge e1 e2 hrl1
          go_wp2_with (go_at_call 58; refine hsz2.mono ?_; rintro e w5 ⟨rfl, hb5⟩)
          go_roundw
          case rel => exact ⟨m, R1, A4, c4, rs1, qs1, by omega, rfl, rfl, ho4.below hb5 (Nat.le_refl _), HRS, HE1.out, hrw.below hb5 hsz1, hql1, hqs1, by
              show _ = _; rw [HV.out, ← HE2.out, Nat.pow_succ, Nat.mul_assoc, ← Nat.mul_add], HZ, hbel.trans (hb5.mono (by omega))⟩
          case measure => simp [intOf]
end Go.Proofs.YteggjfmcpodepaaDoor

/- The walk of the reference's DivMod. -/
import Derived.Test.YteggjfmcpodepaaDoorRShares
import Derived.Test.YteggjfmcpodepaaDoorWDivMod
namespace Go.Proofs.YteggjfmcpodepaaDoor
open Go.RowKit

/-- What a call leaves that answers two numbers in digits. -/
def RetTwoNum (W : World) (q r : Int) (e : Ending) (w' : World) : Prop :=
  ∃ A5 c5 A6 c6, e = .returned (.tuple #[.agg #[.bool (decide (q < 0)), .slice A5 (tens q).length c5], .agg #[.bool (decide (r < 0)), .slice A6 (tens r).length c6]]) ∧ Own8 w' W.heap.size A5 c5 (tens q) ∧ Own8 w' W.heap.size A6 c6 (tens r) ∧ Below W.heap.size W w'
theorem fin_twonum {w wz : World} {q r : Int} {A5 A6 : Option Addr} {c5 c6 base g0 g1 : Nat} (h5 : Own8 wz base A5 c5 (tens q)) (h6 : Own8 wz base A6 c6 (tens r)) (L : Below w.heap.size w wz) (k0 : w.heap.size ≤ g0) (k1 : w.heap.size ≤ g1) (b0 : g0 < base) (b1 : g1 < base) (u v x y : Value) :
    RetTwoNum w q r (.returned (.tuple #[.agg #[.bool (decide (q < 0)), .slice A5 (tens q).length c5], .agg #[.bool (decide (r < 0)), .slice A6 (tens r).length c6]])) ((((wz.setCell ⟨g0, 0, none⟩ u).setCell ⟨g0, 1, none⟩ v).setCell ⟨g1, 0, none⟩ x).setCell ⟨g1, 1, none⟩ y) :=
  ⟨A5, c5, A6, c6, rfl, ((((h5.setBelow b0 _).setBelow b0 _).setBelow b1 _).setBelow b1 _).mono (by omega), ((((h6.setBelow b0 _).setBelow b0 _).setBelow b1 _).setBelow b1 _).mono (by omega),
    (((L.setCell k0 _).setCell k0 _).setCell k1 _).setCell k1 _⟩
def Four (w : World) (bi bj : Bool) (A B : Option Addr) (c d : Nat) (i j : Int) (b : World) : Prop :=
  Three w bi bj A B c d i j b ∧ (b.cell? ⟨w.heap.size + 1 + 1 + 1, 0, none⟩ = some (.bool false) ∧ b.cell? ⟨w.heap.size + 1 + 1 + 1, 1, none⟩ = some (.slice none 0 0) ∧ b.frozen? ⟨w.heap.size + 1 + 1 + 1, 0, none⟩ = false ∧ b.frozen? ⟨w.heap.size + 1 + 1 + 1, 1, none⟩ = false)
def four (w : World) (bi bj : Bool) (A B : Option Addr) (c d : Nat) (i j : Int) : World := (three w bi bj A B c d i j).alloc (.cells #[.bool false, .slice none 0 0] 33)
theorem four_below (w : World) (bi bj : Bool) (A B : Option Addr) (c d : Nat) (i j : Int) : Below w.heap.size w (four w bi bj A B c d i j) := (three_below w bi bj A B c d i j).alloc (three_below w bi bj A B c d i j).size _
theorem four_size (w : World) (bi bj : Bool) (A B : Option Addr) (c d : Nat) (i j : Int) : (four w bi bj A B c d i j).heap.size = w.heap.size + 4 := by simp [four, three]
theorem four_since {w b : World} {bi bj : Bool} {A B : Option Addr} {c d : Nat} {i j : Int} (hx : Nums8 w A (tens i)) (hy : Nums8 w B (tens j)) (hb : Below (four w bi bj A B c d i j).heap.size (four w bi bj A B c d i j) b) : Four w bi bj A B c d i j b := by
  have k : Below (three w bi bj A B c d i j).heap.size (three w bi bj A B c d i j) (four w bi bj A B c d i j) := (Below.refl _ _).alloc (Nat.le_refl _) _
  have Z : Blk (four w bi bj A B c d i j) (w.heap.size + 1 + 1 + 1) 33 #[.bool false, .slice none 0 0] := Blk.newAt (by simp [three])
  exact ⟨three_since hx hy (below_on k hb), (Z.below hb Z.lt).two⟩
theorem tens_one : tens 1 = [1] := by rw [tens_eq]; rfl
theorem tens_pos_iff (n : Int) : 0 < (tens n).length ↔ n ≠ 0 := by
  constructor
  · rintro h rfl; rw [tens_zero] at h; simp at h
  · intro h; rw [tens_eq]; exact digs_pos (by decide) (by omega)
theorem rplus_one (A B : Option Addr) (c : Nat) (q0 q1 : Int) (w : World) (hx : Nums8 w A (tens q0)) (hy : Nums8 w B [1]) (hl : (tens q0).length ≤ 600) (hq : q0.natAbs + 1 = q1.natAbs) :
    Calls Tryd.prog 53 #[.slice A (tens q0).length c, .slice B 1 1] w (RetTens w q1) := by
  have h := rplusrow_any A B c 1 q0 1 q1 w hx (by rw [tens_one]; exact hy) (by omega) (by rw [tens_one]; decide) hq
  rw [tens_one] at h
  exact h
section
variable (A B : Option Addr) (c d : Nat) (i j : Int) (w : World)
set_option maxRecDepth 100000
set_option maxHeartbeats 2000000 in
theorem rdiv_same (bi bj : Bool) (hbb : bi = bj) (hi : decide (i < 0) = bi) (hj : decide (j < 0) = bj) (hx : Nums8 w A (tens i)) (hy : Nums8 w B (tens j)) (hl : (tens i).length ≤ 600) (hl' : (tens j).length ≤ 600) (hj0 : j ≠ 0) :
    Calls Tryd.prog 17 #[.agg #[.bool bi, .slice A (tens i).length c], .agg #[.bool bj, .slice B (tens j).length d]] w (RetTwoNum w (dq bi bj i.natAbs j.natAbs) (dr bi bj i.natAbs j.natAbs)) := by
  obtain ⟨QN, hQN⟩ : ∃ QN : Nat, QN = i.natAbs / j.natAbs := ⟨_, rfl⟩
  obtain ⟨RN, hRN⟩ : ∃ RN : Nat, RN = i.natAbs % j.natAbs := ⟨_, rfl⟩
  obtain ⟨q0, hq0⟩ : ∃ q0 : Int, q0 = (QN : Int) := ⟨_, rfl⟩
  obtain ⟨r0, hr0⟩ : ∃ r0 : Int, r0 = (RN : Int) := ⟨_, rfl⟩
  have hY : 0 < j.natAbs := by omega
  have hrY : RN < j.natAbs := by rw [hRN]; exact Nat.mod_lt _ hY
  have hQX : QN ≤ i.natAbs := by rw [hQN]; exact Nat.div_le_self _ _
  have hsh := fun w hx hy => rshares_any A B c d i j q0 r0 w hx hy hl hl' hj0 (by rw [hq0, Int.natAbs_natCast, hQN]) (by rw [hr0, Int.natAbs_natCast, hRN])
  have hqn : 0 ≤ q0 := by omega
  have hrn : 0 ≤ r0 := by omega
  have hdq : dq bi bj i.natAbs j.natAbs = q0 := by unfold dq; rw [if_pos hbb, ← hQN, hq0]
  have hdr : dr bi bj i.natAbs j.natAbs = sgn bi RN := by unfold dr; rw [if_pos hbb, hRN]
  have HTQ : Hid (tens (dq bi bj i.natAbs j.natAbs) = tens q0) := by show _ = _; rw [hdq]
  have HTR : Hid (tens (dr bi bj i.natAbs j.natAbs) = tens r0) := by show _ = _; rw [hdr]; exact tens_congr (by rw [sgn_natAbs, hr0, Int.natAbs_natCast])
  have HQB : Hid (decide (dq bi bj i.natAbs j.natAbs < 0) = false) := by show _ = _; rw [hdq]; simp; omega
  have hrb : decide (dr bi bj i.natAbs j.natAbs < 0) = (bi && decide (0 < (tens r0).length)) := by
    rw [hdr, sgn_neg]
    congr 1
    by_cases h0 : RN = 0
    · rw [decide_eq_false (by omega), decide_eq_false]; rw [tens_pos_iff]; omega
    · rw [decide_eq_true h0, decide_eq_true]; rw [tens_pos_iff]; omega
  have HRB0 := Lib.hid hrb
  have hbb2 : (bi == bj) = true := by simpa using hbb
  clear hdq hdr hrb hq0 hr0 hi hj hrY hbb hQN hRN hQX
  obtain ⟨W0, hW0⟩ : ∃ W0, W0 = four w bi bj A B c d i j := ⟨_, rfl⟩
  have LW : Below w.heap.size w W0 := by rw [hW0]; exact four_below ..
  have HWs : Hid (W0.heap.size = w.heap.size + 4) := by rw [hW0]; exact four_size ..
  have HF : Hid (∀ b1, Below W0.heap.size W0 b1 → Four w bi bj A B c d i j b1) := fun b1 hb => by rw [hW0] at hb; exact four_since hx hy hb
  clear hx hy
  unfold four three at hW0
  have L : Below W0.heap.size W0 W0 := Below.refl _ _
  obtain ⟨⟨⟨x0, x1⟩, ⟨y0, y1⟩, ⟨z0, z1, z2, z3⟩, hx, hy⟩, t0, t1, t2, t3⟩ := HF.out _ L
  go_enter Tryd.func17, Tryd.ntmps17
  go_upto_region 1 with fail
  rw [← hW0]
  clear hW0
  go_wp2_with (go_at_call 52; refine (hsh _ hx hy).mono ?_; rintro e w1 ⟨A1, c1, A2, c2, rfl, ho1, ho2, hb⟩; have ho1 := ho1.mono (show W0.heap.size ≤ _ from L.size); have ho2 := ho2.mono (show W0.heap.size ≤ _ from L.size); have L := below_on L hb; clear x0 x1 y0 y1 z0 z1 z2 z3 hx hy t0 t1 t2 t3 hb; obtain ⟨⟨⟨x0, x1⟩, ⟨y0, y1⟩, ⟨z0, z1, z2, z3⟩, hx, hy⟩, t0, t1, t2, t3⟩ := HF.out _ L; refine Hid.out ?_)
  refine Lib.hid ?_
  clear hsh
  cases bj
  · have HRB : Hid (decide (dr bi false i.natAbs j.natAbs < 0) = false) := by have h1 := HRB0.out; have h2 : bi = false := (by simpa using hbb2); show _ = _; rw [h1, h2, Bool.false_and]
    go_wp2_with fail
    refine bodyPost_ret (v := .tuple #[.agg #[.bool false, .slice A1 (tens q0).length c1], .agg #[.bool false, .slice A2 (tens r0).length c2]]) (by simp [results, Tryd.results17, go_sem, z0, z1, t0, t1]) rfl ?_
    have h2 := HWs.out
    have h3 := fin_twonum (w := w) (q := dq bi false i.natAbs j.natAbs) (r := dr bi false i.natAbs j.natAbs) (g0 := w.heap.size + 1 + 1) (g1 := w.heap.size + 1 + 1 + 1) (by rw [HTQ.out]; exact ho1) (by rw [HTR.out]; exact ho2) (LW.trans (L.mono LW.size)) (by omega) (by omega) (by omega) (by omega) (.bool false) (.slice A1 (tens q0).length c1) (.bool false) (.slice A2 (tens r0).length c2)
    rw [HTQ.out, HTR.out, HQB.out, HRB.out] at h3
    exact h3
  · by_cases h0 : 0 < (tens r0).length
    · have HRB : Hid (decide (dr bi true i.natAbs j.natAbs < 0) = true) := by have h1 := HRB0.out; have h2 : bi = true := (by simpa using hbb2); show _ = _; rw [h1, h2, Bool.true_and]; simpa using h0
      go_wp2_with fail
      refine bodyPost_ret (v := .tuple #[.agg #[.bool false, .slice A1 (tens q0).length c1], .agg #[.bool true, .slice A2 (tens r0).length c2]]) (by simp [results, Tryd.results17, go_sem, z0, z1, t0, t1]) rfl ?_
      have h2 := HWs.out
      have h3 := fin_twonum (w := w) (q := dq bi true i.natAbs j.natAbs) (r := dr bi true i.natAbs j.natAbs) (g0 := w.heap.size + 1 + 1) (g1 := w.heap.size + 1 + 1 + 1) (by rw [HTQ.out]; exact ho1) (by rw [HTR.out]; exact ho2) (LW.trans (L.mono LW.size)) (by omega) (by omega) (by omega) (by omega) (.bool false) (.slice A1 (tens q0).length c1) (.bool true) (.slice A2 (tens r0).length c2)
      rw [HTQ.out, HTR.out, HQB.out, HRB.out] at h3
      exact h3
    · have HRB : Hid (decide (dr bi true i.natAbs j.natAbs < 0) = false) := by have h1 := HRB0.out; have h2 : bi = true := (by simpa using hbb2); show _ = _; rw [h1, h2, Bool.true_and]; simpa using h0
      go_wp2_with fail
      refine bodyPost_ret (v := .tuple #[.agg #[.bool false, .slice A1 (tens q0).length c1], .agg #[.bool false, .slice A2 (tens r0).length c2]]) (by simp [results, Tryd.results17, go_sem, z0, z1, t0, t1]) rfl ?_
      have h2 := HWs.out
      have h3 := fin_twonum (w := w) (q := dq bi true i.natAbs j.natAbs) (r := dr bi true i.natAbs j.natAbs) (g0 := w.heap.size + 1 + 1) (g1 := w.heap.size + 1 + 1 + 1) (by rw [HTQ.out]; exact ho1) (by rw [HTR.out]; exact ho2) (LW.trans (L.mono LW.size)) (by omega) (by omega) (by omega) (by omega) (.bool false) (.slice A1 (tens q0).length c1) (.bool false) (.slice A2 (tens r0).length c2)
      rw [HTQ.out, HTR.out, HQB.out, HRB.out] at h3
      exact h3
set_option maxHeartbeats 2000000 in
theorem rdiv_exact (bi bj : Bool) (hbb : bi ≠ bj) (hz : i.natAbs % j.natAbs = 0) (hi : decide (i < 0) = bi) (hj : decide (j < 0) = bj) (hx : Nums8 w A (tens i)) (hy : Nums8 w B (tens j)) (hl : (tens i).length ≤ 600) (hl' : (tens j).length ≤ 600) (hj0 : j ≠ 0) :
    Calls Tryd.prog 17 #[.agg #[.bool bi, .slice A (tens i).length c], .agg #[.bool bj, .slice B (tens j).length d]] w (RetTwoNum w (dq bi bj i.natAbs j.natAbs) (dr bi bj i.natAbs j.natAbs)) := by
  obtain ⟨QN, hQN⟩ : ∃ QN : Nat, QN = i.natAbs / j.natAbs := ⟨_, rfl⟩
  obtain ⟨RN, hRN⟩ : ∃ RN : Nat, RN = i.natAbs % j.natAbs := ⟨_, rfl⟩
  obtain ⟨q0, hq0⟩ : ∃ q0 : Int, q0 = (QN : Int) := ⟨_, rfl⟩
  obtain ⟨r0, hr0⟩ : ∃ r0 : Int, r0 = (RN : Int) := ⟨_, rfl⟩
  have hY : 0 < j.natAbs := by omega
  have hrY : RN < j.natAbs := by rw [hRN]; exact Nat.mod_lt _ hY
  have hQX : QN ≤ i.natAbs := by rw [hQN]; exact Nat.div_le_self _ _
  have hsh := fun w hx hy => rshares_any A B c d i j q0 r0 w hx hy hl hl' hj0 (by rw [hq0, Int.natAbs_natCast, hQN]) (by rw [hr0, Int.natAbs_natCast, hRN])
  have hqn : 0 ≤ q0 := by omega
  have hrn : 0 ≤ r0 := by omega
  have hdq : dq bi bj i.natAbs j.natAbs = -q0 := by unfold dq; rw [if_neg hbb, if_pos hz, ← hQN, hq0]
  have hdr : dr bi bj i.natAbs j.natAbs = 0 := by unfold dr; rw [if_neg hbb, if_pos hz]
  have hr00 : r0 = 0 := by rw [hr0, hRN, hz]; rfl
  have HTQ : Hid (tens (dq bi bj i.natAbs j.natAbs) = tens q0) := by show _ = _; rw [hdq]; exact tens_congr (by omega)
  have HTR : Hid (tens (dr bi bj i.natAbs j.natAbs) = tens r0) := by show _ = _; rw [hdr, hr00]
  have hqb : decide (dq bi bj i.natAbs j.natAbs < 0) = decide (0 < (tens q0).length) := by
    rw [hdq]
    by_cases h0 : q0 = 0
    · rw [decide_eq_false (by omega), decide_eq_false]; rw [tens_pos_iff]; omega
    · rw [decide_eq_true (by omega), decide_eq_true]; rw [tens_pos_iff]; omega
  have HQB0 := Lib.hid hqb
  have HRB : Hid (decide (dr bi bj i.natAbs j.natAbs < 0) = false) := by show _ = _; rw [hdr]; rfl
  have hbb2 : (bi == bj) = false := by simpa using hbb
  have hlen0 : ¬ 0 < (tens r0).length := by rw [tens_pos_iff]; omega
  clear hdq hdr hqb hq0 hr0 hi hj hrY hbb hr00 hz hQN hRN hQX
  obtain ⟨W0, hW0⟩ : ∃ W0, W0 = four w bi bj A B c d i j := ⟨_, rfl⟩
  have LW : Below w.heap.size w W0 := by rw [hW0]; exact four_below ..
  have HWs : Hid (W0.heap.size = w.heap.size + 4) := by rw [hW0]; exact four_size ..
  have HF : Hid (∀ b1, Below W0.heap.size W0 b1 → Four w bi bj A B c d i j b1) := fun b1 hb => by rw [hW0] at hb; exact four_since hx hy hb
  clear hx hy
  unfold four three at hW0
  have L : Below W0.heap.size W0 W0 := Below.refl _ _
  obtain ⟨⟨⟨x0, x1⟩, ⟨y0, y1⟩, ⟨z0, z1, z2, z3⟩, hx, hy⟩, t0, t1, t2, t3⟩ := HF.out _ L
  go_enter Tryd.func17, Tryd.ntmps17
  go_upto_region 1 with fail
  rw [← hW0]
  clear hW0
  go_wp2_with (go_at_call 52; refine (hsh _ hx hy).mono ?_; rintro e w1 ⟨A1, c1, A2, c2, rfl, ho1, ho2, hb⟩; have ho1 := ho1.mono (show W0.heap.size ≤ _ from L.size); have ho2 := ho2.mono (show W0.heap.size ≤ _ from L.size); have L := below_on L hb; clear x0 x1 y0 y1 z0 z1 z2 z3 hx hy t0 t1 t2 t3 hb; obtain ⟨⟨⟨x0, x1⟩, ⟨y0, y1⟩, ⟨z0, z1, z2, z3⟩, hx, hy⟩, t0, t1, t2, t3⟩ := HF.out _ L; refine Hid.out ?_)
  refine Lib.hid ?_
  clear hsh
  by_cases h0 : 0 < (tens q0).length
  · have HQB : Hid (decide (dq bi bj i.natAbs j.natAbs < 0) = true) := by have h1 := HQB0.out; show _ = _; rw [h1]; simpa using h0
    cases bj
    · go_wp2_with fail
      refine bodyPost_ret (v := .tuple #[.agg #[.bool true, .slice A1 (tens q0).length c1], .agg #[.bool false, .slice A2 (tens r0).length c2]]) (by simp [results, Tryd.results17, go_sem, z0, z1, t0, t1]) rfl ?_
      have h2 := HWs.out
      have h3 := fin_twonum (w := w) (q := dq bi false i.natAbs j.natAbs) (r := dr bi false i.natAbs j.natAbs) (g0 := w.heap.size + 1 + 1) (g1 := w.heap.size + 1 + 1 + 1) (by rw [HTQ.out]; exact ho1) (by rw [HTR.out]; exact ho2) (LW.trans (L.mono LW.size)) (by omega) (by omega) (by omega) (by omega) (.bool true) (.slice A1 (tens q0).length c1) (.bool false) (.slice A2 (tens r0).length c2)
      rw [HTQ.out, HTR.out, HQB.out, HRB.out] at h3
      exact h3
    · go_wp2_with fail
      refine bodyPost_ret (v := .tuple #[.agg #[.bool true, .slice A1 (tens q0).length c1], .agg #[.bool false, .slice A2 (tens r0).length c2]]) (by simp [results, Tryd.results17, go_sem, z0, z1, t0, t1]) rfl ?_
      have h2 := HWs.out
      have h3 := fin_twonum (w := w) (q := dq bi true i.natAbs j.natAbs) (r := dr bi true i.natAbs j.natAbs) (g0 := w.heap.size + 1 + 1) (g1 := w.heap.size + 1 + 1 + 1) (by rw [HTQ.out]; exact ho1) (by rw [HTR.out]; exact ho2) (LW.trans (L.mono LW.size)) (by omega) (by omega) (by omega) (by omega) (.bool true) (.slice A1 (tens q0).length c1) (.bool false) (.slice A2 (tens r0).length c2)
      rw [HTQ.out, HTR.out, HQB.out, HRB.out] at h3
      exact h3
  · have HQB : Hid (decide (dq bi bj i.natAbs j.natAbs < 0) = false) := by have h1 := HQB0.out; show _ = _; rw [h1]; simpa using h0
    cases bj
    · go_wp2_with fail
      refine bodyPost_ret (v := .tuple #[.agg #[.bool false, .slice A1 (tens q0).length c1], .agg #[.bool false, .slice A2 (tens r0).length c2]]) (by simp [results, Tryd.results17, go_sem, z0, z1, t0, t1]) rfl ?_
      have h2 := HWs.out
      have h3 := fin_twonum (w := w) (q := dq bi false i.natAbs j.natAbs) (r := dr bi false i.natAbs j.natAbs) (g0 := w.heap.size + 1 + 1) (g1 := w.heap.size + 1 + 1 + 1) (by rw [HTQ.out]; exact ho1) (by rw [HTR.out]; exact ho2) (LW.trans (L.mono LW.size)) (by omega) (by omega) (by omega) (by omega) (.bool false) (.slice A1 (tens q0).length c1) (.bool false) (.slice A2 (tens r0).length c2)
      rw [HTQ.out, HTR.out, HQB.out, HRB.out] at h3
      exact h3
    · go_wp2_with fail
      refine bodyPost_ret (v := .tuple #[.agg #[.bool false, .slice A1 (tens q0).length c1], .agg #[.bool false, .slice A2 (tens r0).length c2]]) (by simp [results, Tryd.results17, go_sem, z0, z1, t0, t1]) rfl ?_
      have h2 := HWs.out
      have h3 := fin_twonum (w := w) (q := dq bi true i.natAbs j.natAbs) (r := dr bi true i.natAbs j.natAbs) (g0 := w.heap.size + 1 + 1) (g1 := w.heap.size + 1 + 1 + 1) (by rw [HTQ.out]; exact ho1) (by rw [HTR.out]; exact ho2) (LW.trans (L.mono LW.size)) (by omega) (by omega) (by omega) (by omega) (.bool false) (.slice A1 (tens q0).length c1) (.bool false) (.slice A2 (tens r0).length c2)
      rw [HTQ.out, HTR.out, HQB.out, HRB.out] at h3
      exact h3
set_option maxHeartbeats 2000000 in
theorem rdiv_rest (bi bj : Bool) (hbb : bi ≠ bj) (hz : i.natAbs % j.natAbs ≠ 0) (hi : decide (i < 0) = bi) (hj : decide (j < 0) = bj) (hx : Nums8 w A (tens i)) (hy : Nums8 w B (tens j)) (hl : (tens i).length ≤ 600) (hl' : (tens j).length ≤ 600) (hj0 : j ≠ 0) :
    Calls Tryd.prog 17 #[.agg #[.bool bi, .slice A (tens i).length c], .agg #[.bool bj, .slice B (tens j).length d]] w (RetTwoNum w (dq bi bj i.natAbs j.natAbs) (dr bi bj i.natAbs j.natAbs)) := by
  obtain ⟨QN, hQN⟩ : ∃ QN : Nat, QN = i.natAbs / j.natAbs := ⟨_, rfl⟩
  obtain ⟨RN, hRN⟩ : ∃ RN : Nat, RN = i.natAbs % j.natAbs := ⟨_, rfl⟩
  obtain ⟨q0, hq0⟩ : ∃ q0 : Int, q0 = (QN : Int) := ⟨_, rfl⟩
  obtain ⟨r0, hr0⟩ : ∃ r0 : Int, r0 = (RN : Int) := ⟨_, rfl⟩
  have hY : 0 < j.natAbs := by omega
  have hrY : RN < j.natAbs := by rw [hRN]; exact Nat.mod_lt _ hY
  have hQX : QN ≤ i.natAbs := by rw [hQN]; exact Nat.div_le_self _ _
  have hsh := fun w hx hy => rshares_any A B c d i j q0 r0 w hx hy hl hl' hj0 (by rw [hq0, Int.natAbs_natCast, hQN]) (by rw [hr0, Int.natAbs_natCast, hRN])
  have hqn : 0 ≤ q0 := by omega
  have hrn : 0 ≤ r0 := by omega
  have hdq : dq bi bj i.natAbs j.natAbs = -(q0 + 1) := by unfold dq; rw [if_neg hbb, if_neg hz, ← hQN, hq0]; omega
  have hdr : dr bi bj i.natAbs j.natAbs = sgn bj (j.natAbs - RN) := by unfold dr; rw [if_neg hbb, if_neg hz, hRN]
  obtain ⟨q1, hq1⟩ : ∃ q1 : Int, q1 = q0 + 1 := ⟨_, rfl⟩
  obtain ⟨r1, hr1⟩ : ∃ r1 : Int, r1 = ((j.natAbs - RN : Nat) : Int) := ⟨_, rfl⟩
  have HTQ : Hid (tens (dq bi bj i.natAbs j.natAbs) = tens q1) := by show _ = _; rw [hdq, hq1]; exact tens_congr (by omega)
  have HTR : Hid (tens (dr bi bj i.natAbs j.natAbs) = tens r1) := by show _ = _; rw [hdr, hr1]; exact tens_congr (by rw [sgn_natAbs, Int.natAbs_natCast])
  have HQB : Hid (decide (dq bi bj i.natAbs j.natAbs < 0) = true) := by show _ = _; rw [hdq]; simp; omega
  have HRB : Hid (decide (dr bi bj i.natAbs j.natAbs < 0) = bj) := by
    show _ = _
    rw [hdr, sgn_neg, decide_eq_true (by omega), Bool.and_true]
  have hbb2 : (bi == bj) = false := by simpa using hbb
  have hlen0 : 0 < (tens r0).length := by rw [tens_pos_iff]; omega
  have hlen1 : 0 < (tens q1).length := by rw [tens_pos_iff]; omega
  have hlen2 : 0 < (tens r1).length := by rw [tens_pos_iff]; omega
  obtain ⟨KK, hKK⟩ : ∃ KK : Nat, KK = 600 := ⟨_, rfl⟩
  have hlq : (tens q0).length ≤ KK := by
    rw [tens_eq]
    refine (digs_length_le (by decide) _ _).2 ?_
    have h3 : i.natAbs < 10 ^ (tens i).length := (digs_length_le (by decide) _ _).1 (by rw [tens_eq]; exact Nat.le_refl _)
    have h4 : 10 ^ (tens i).length ≤ 10 ^ KK := Nat.pow_le_pow_right (by decide) (by omega)
    omega
  have hlr : (tens r0).length ≤ KK := by
    rw [tens_eq]
    refine (digs_length_le (by decide) _ _).2 ?_
    have h3 : j.natAbs < 10 ^ (tens j).length := (digs_length_le (by decide) _ _).1 (by rw [tens_eq]; exact Nat.le_refl _)
    have h4 : 10 ^ (tens j).length ≤ 10 ^ KK := Nat.pow_le_pow_right (by decide) (by omega)
    omega
  have hplus := fun A B c w hx hy => rplus_one A B c q0 q1 w hx hy (by omega) (by omega)
  have hminus := fun A c w hx hy => rminusrow_any B A d c j r0 r1 w hx hy (by omega) (by omega) (by omega) (by omega)
  clear hdq hdr hq0 hr0 hi hj hrY hbb hq1 hr1 hz hlq hlr hKK hQN hRN hQX
  obtain ⟨W0, hW0⟩ : ∃ W0, W0 = four w bi bj A B c d i j := ⟨_, rfl⟩
  have LW : Below w.heap.size w W0 := by rw [hW0]; exact four_below ..
  have HWs : Hid (W0.heap.size = w.heap.size + 4) := by rw [hW0]; exact four_size ..
  have HF : Hid (∀ b1, Below W0.heap.size W0 b1 → Four w bi bj A B c d i j b1) := fun b1 hb => by rw [hW0] at hb; exact four_since hx hy hb
  clear hx hy
  unfold four three at hW0
  have L : Below W0.heap.size W0 W0 := Below.refl _ _
  obtain ⟨⟨⟨x0, x1⟩, ⟨y0, y1⟩, ⟨z0, z1, z2, z3⟩, hx, hy⟩, t0, t1, t2, t3⟩ := HF.out _ L
  go_enter Tryd.func17, Tryd.ntmps17
  go_upto_region 1 with fail
  rw [← hW0]
  clear hW0
  go_wp2_with (go_at_call 52; refine (hsh _ hx hy).mono ?_; rintro e w1 ⟨A1, c1, A2, c2, rfl, ho1, ho2, hb⟩; have ho1 := ho1.mono (show W0.heap.size ≤ _ from L.size); have ho2 := ho2.mono (show W0.heap.size ≤ _ from L.size); have L := below_on L hb; clear x0 x1 y0 y1 z0 z1 z2 z3 hx hy t0 t1 t2 t3 hb; obtain ⟨⟨⟨x0, x1⟩, ⟨y0, y1⟩, ⟨z0, z1, z2, z3⟩, hx, hy⟩, t0, t1, t2, t3⟩ := HF.out _ L; refine Hid.out ?_)
  refine Lib.hid ?_
  clear hsh
  have hn1 : Hid (∀ w : World, Nums8 (w.alloc (.cells #[.int .u8 1] 5)) (some ⟨w.heap.size, 0, none⟩) [1]) := fun w => (Own8.one w 1 1 rfl (by decide)).nums
  go_wp2_with (go_at_call 53; refine (hplus A1 _ c1 _ (ho1.nums.alloc _) (hn1.out _)).mono ?_; rintro e w2 ⟨A3, c3, rfl, ho3, hb⟩; have k1 := L.alloc L.size (.cells #[.int .u8 1] 5); have ho3 := ho3.mono (show W0.heap.size ≤ _ from k1.size); have ho2 := (ho2.alloc (.cells #[.int .u8 1] 5)).below hb (Nat.le_refl _); have L := below_on k1 hb; clear x0 x1 y0 y1 z0 z1 z2 z3 hx hy t0 t1 t2 t3 hb k1; obtain ⟨⟨⟨x0, x1⟩, ⟨y0, y1⟩, ⟨z0, z1, z2, z3⟩, hx, hy⟩, t0, t1, t2, t3⟩ := HF.out _ L; refine Hid.out ?_)
  refine Lib.hid ?_
  go_wp2_with (go_at_call 54; refine (hminus A2 c2 _ hy ho2.nums).mono ?_; rintro e w3 ⟨A4, c4, rfl, ho4, hb⟩; have ho4 := ho4.mono (show W0.heap.size ≤ _ from L.size); have ho3 := ho3.below hb (Nat.le_refl _); have L := below_on L hb; clear x0 x1 y0 y1 z0 z1 z2 z3 hx hy t0 t1 t2 t3 hb; obtain ⟨⟨⟨x0, x1⟩, ⟨y0, y1⟩, ⟨z0, z1, z2, z3⟩, hx, hy⟩, t0, t1, t2, t3⟩ := HF.out _ L; refine Hid.out ?_)
  refine Lib.hid ?_
  clear hplus hminus
  cases bj
  · go_wp2_with fail
    refine bodyPost_ret (v := .tuple #[.agg #[.bool true, .slice A3 (tens q1).length c3], .agg #[.bool false, .slice A4 (tens r1).length c4]]) (by simp [results, Tryd.results17, go_sem, z0, z1, t0, t1]) rfl ?_
    have h2 := HWs.out
    have h3 := fin_twonum (w := w) (q := dq bi false i.natAbs j.natAbs) (r := dr bi false i.natAbs j.natAbs) (g0 := w.heap.size + 1 + 1) (g1 := w.heap.size + 1 + 1 + 1) (by rw [HTQ.out]; exact ho3) (by rw [HTR.out]; exact ho4) (LW.trans (L.mono LW.size)) (by omega) (by omega) (by omega) (by omega) (.bool true) (.slice A3 (tens q1).length c3) (.bool false) (.slice A4 (tens r1).length c4)
    rw [HTQ.out, HTR.out, HQB.out, HRB.out] at h3
    exact h3
  · go_wp2_with fail
    refine bodyPost_ret (v := .tuple #[.agg #[.bool true, .slice A3 (tens q1).length c3], .agg #[.bool true, .slice A4 (tens r1).length c4]]) (by simp [results, Tryd.results17, go_sem, z0, z1, t0, t1]) rfl ?_
    have h2 := HWs.out
    have h3 := fin_twonum (w := w) (q := dq bi true i.natAbs j.natAbs) (r := dr bi true i.natAbs j.natAbs) (g0 := w.heap.size + 1 + 1) (g1 := w.heap.size + 1 + 1 + 1) (by rw [HTQ.out]; exact ho3) (by rw [HTR.out]; exact ho4) (LW.trans (L.mono LW.size)) (by omega) (by omega) (by omega) (by omega) (.bool true) (.slice A3 (tens q1).length c3) (.bool true) (.slice A4 (tens r1).length c4)
    rw [HTQ.out, HTR.out, HQB.out, HRB.out] at h3
    exact h3
theorem rdivmod_any (hx : Nums8 w A (tens i)) (hy : Nums8 w B (tens j)) (hl : (tens i).length ≤ 600) (hl' : (tens j).length ≤ 600) (hj0 : j ≠ 0) :
    Calls Tryd.prog 17 #[.agg #[.bool (decide (i < 0)), .slice A (tens i).length c], .agg #[.bool (decide (j < 0)), .slice B (tens j).length d]] w (RetTwoNum w (dq (decide (i < 0)) (decide (j < 0)) i.natAbs j.natAbs) (dr (decide (i < 0)) (decide (j < 0)) i.natAbs j.natAbs)) := by
  by_cases h : decide (i < 0) = decide (j < 0)
  · exact rdiv_same A B c d i j w _ _ h rfl rfl hx hy hl hl' hj0
  · by_cases hz : i.natAbs % j.natAbs = 0
    · exact rdiv_exact A B c d i j w _ _ h hz rfl rfl hx hy hl hl' hj0
    · exact rdiv_rest A B c d i j w _ _ h hz rfl rfl hx hy hl hl' hj0
end
end Go.Proofs.YteggjfmcpodepaaDoor

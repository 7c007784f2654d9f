/- The walks of the reference's Turn, Plus, Cmp. -/
import Derived.Test.YteggjfmcpodepaaDoorRPlusRow
import Derived.Test.YteggjfmcpodepaaDoorRSizes
import Derived.Test.YteggjfmcpodepaaDoorSince
import Derived.Deep.RegionWith
namespace Go.Proofs.YteggjfmcpodepaaDoor
open Go.RowKit

theorem fin_num {w wz : World} {i : Int} {A : Option Addr} {c base g0 : Nat} (hown : Own8 wz base A c (tens i)) (L : Below w.heap.size w wz) (hg : w.heap.size ≤ g0) (hgb : g0 < base) (u v : Value) :
    RetNum w i (.returned (.agg #[.bool (decide (i < 0)), .slice A (tens i).length c])) ((wz.setCell ⟨g0, 0, none⟩ u).setCell ⟨g0, 1, none⟩ v) :=
  ⟨A, c, rfl, ((hown.setBelow hgb _).setBelow hgb _).mono (by omega), (L.setCell hg _).setCell hg _⟩

/-- What a call leaves that turns a number's sign: the digits are the same memory. -/
def RetTurn (W : World) (A : Option Addr) (c : Nat) (i : Int) (e : Ending) (w' : World) : Prop := e = .returned (.agg #[.bool (decide (-i < 0)), .slice A (tens i).length c]) ∧ Below W.heap.size W w'
set_option maxRecDepth 100000
set_option maxHeartbeats 1000000 in
theorem rturn_any (A : Option Addr) (c : Nat) (i : Int) (w : World) (hl : (tens i).length ≤ 1048576) :
    Calls Tryd.prog 33 #[.agg #[.bool (decide (i < 0)), .slice A (tens i).length c]] w (RetTurn w A c i) := by
  have hpos : i ≠ 0 → 0 < (tens i).length := fun h => by rw [tens_eq]; exact digs_pos (by decide) (by omega)
  have L : Below w.heap.size w ((w.alloc (.cells #[.bool (decide (i < 0)), .slice A (tens i).length c] 33)).alloc (.cells #[.bool false, .slice none 0 0] 33)) := ((Below.refl _ _).alloc (Nat.le_refl _) _).alloc (by simp) _
  rcases Int.lt_trichotomy i 0 with h | h | h
  · have e1 : decide (i < 0) = true := by simpa using h
    have e2 : decide (-i < 0) = false := by simp; omega
    unfold RetTurn
    rw [e2]
    rw [e1] at L ⊢
    clear e1 e2 h hpos
    go_enter Tryd.func33, Tryd.ntmps33
    go_wp2_with fail
    refine bodyPost_ret (v := .agg #[.bool false, .slice A (tens i).length c]) (by simp [results, Tryd.results33, go_sem]) rfl ?_
    exact ⟨rfl, by first | exact (L.setCell (by show w.heap.size ≤ w.heap.size + 1; omega) _).setCell (by show w.heap.size ≤ w.heap.size + 1; omega) _ | exact ((Below.refl _ _).alloc (Nat.le_refl _) _).alloc (by simp) _⟩
  · subst h
    have e1 : tens 0 = [] := tens_zero
    unfold RetTurn
    rw [e1] at L ⊢
    have e2 : decide ((0 : Int) < 0) = false := rfl
    have e3 : decide (-(0 : Int) < 0) = false := rfl
    rw [e3]
    rw [e2] at L ⊢
    clear e1 e2 e3 hpos hl
    go_enter Tryd.func33, Tryd.ntmps33
    go_wp2_with fail
    refine bodyPost_ret (v := .agg #[.bool false, .slice A 0 c]) (by simp [results, Tryd.results33, go_sem]) rfl ?_
    exact ⟨rfl, by first | exact (L.setCell (by show w.heap.size ≤ w.heap.size + 1; omega) _).setCell (by show w.heap.size ≤ w.heap.size + 1; omega) _ | exact ((Below.refl _ _).alloc (Nat.le_refl _) _).alloc (by simp) _⟩
  · have e1 : decide (i < 0) = false := by simp; omega
    have e2 : decide (-i < 0) = true := by simpa using h
    have h0 := hpos (by omega)
    unfold RetTurn
    rw [e2]
    rw [e1] at L ⊢
    clear e1 e2 h hpos
    go_enter Tryd.func33, Tryd.ntmps33
    go_wp2_with fail
    refine bodyPost_ret (v := .agg #[.bool true, .slice A (tens i).length c]) (by simp [results, Tryd.results33, go_sem]) rfl ?_
    exact ⟨rfl, by first | exact (L.setCell (by show w.heap.size ≤ w.heap.size + 1; omega) _).setCell (by show w.heap.size ≤ w.heap.size + 1; omega) _ | exact ((Below.refl _ _).alloc (Nat.le_refl _) _).alloc (by simp) _⟩

theorem cmpN_neg {i j : Int} (hi : i < 0) (hj : j < 0) : cmpN j.natAbs i.natAbs = cmpI i j := by
  unfold cmpN cmpI
  by_cases h : i < j
  · rw [if_pos (by omega), if_pos h]
  · rw [if_neg (by omega), if_neg h]
    by_cases h2 : j < i
    · rw [if_pos (by omega), if_pos h2]
    · rw [if_neg (by omega), if_neg h2]
theorem cmpN_pos {i j : Int} (hi : 0 ≤ i) (hj : 0 ≤ j) : cmpN i.natAbs j.natAbs = cmpI i j := by
  unfold cmpN cmpI
  by_cases h : i < j
  · rw [if_pos (by omega), if_pos h]
  · rw [if_neg (by omega), if_neg h]
    by_cases h2 : j < i
    · rw [if_pos (by omega), if_pos h2]
    · rw [if_neg (by omega), if_neg h2]
set_option maxHeartbeats 1000000 in
theorem rcmp_any (A B : Option Addr) (c d : Nat) (i j : Int) (w : World) (hx : Nums8 w A (tens i)) (hy : Nums8 w B (tens j)) (hl : (tens i).length ≤ 1048576) (hl' : (tens j).length ≤ 1048576) :
    Calls Tryd.prog 35 #[.agg #[.bool (decide (i < 0)), .slice A (tens i).length c], .agg #[.bool (decide (j < 0)), .slice B (tens j).length d]] w fun e w' => e = .returned (.int .i64 (cmpI i j)) ∧ Below w.heap.size w w' := by
  have L : Below w.heap.size w ((w.alloc (.cells #[.bool (decide (i < 0)), .slice A (tens i).length c] 33)).alloc (.cells #[.bool (decide (j < 0)), .slice B (tens j).length d] 33)) := ((Below.refl _ _).alloc (Nat.le_refl _) _).alloc (by simp) _
  have hx2 := hx.below L (Nat.le_refl _)
  have hy2 := hy.below L (Nat.le_refl _)
  by_cases hi : i < 0
  · have e1 : decide (i < 0) = true := by simpa using hi
    rw [e1] at L hx2 hy2 ⊢
    by_cases hj : j < 0
    · have e2 : decide (j < 0) = true := by simpa using hj
      rw [e2] at L hx2 hy2 ⊢
      have HC := Lib.hid (cmpN_neg hi hj)
      clear hi hj e1 e2 hx hy
      go_enter Tryd.func35, Tryd.ntmps35
      go_wp2_with (go_at_call 58; refine (rsizes_tens B A d c j i _ hy2 hx2 hl' hl).mono ?_; rintro e w' ⟨rfl, n, rfl⟩)
      go_ret
      exact ⟨ret_int' HC.out, ⟨L.os, L.tape, L.output, L.size, L.block⟩⟩
    · have e2 : decide (j < 0) = false := by simpa using hj
      rw [e2] at L hx2 hy2 ⊢
      have HC := Lib.hid (show (-1 : Int) = cmpI i j by unfold cmpI; rw [if_pos (by omega)])
      clear hi hj e1 e2 hx hy
      go_enter Tryd.func35, Tryd.ntmps35
      go_wp2_with fail
      go_ret
      exact ⟨ret_int' HC.out, L⟩
  · have e1 : decide (i < 0) = false := by simpa using hi
    rw [e1] at L hx2 hy2 ⊢
    by_cases hj : j < 0
    · have e2 : decide (j < 0) = true := by simpa using hj
      rw [e2] at L hx2 hy2 ⊢
      have HC := Lib.hid (show (1 : Int) = cmpI i j by unfold cmpI; rw [if_neg (by omega), if_pos (by omega)])
      clear hi hj e1 e2 hx hy
      go_enter Tryd.func35, Tryd.ntmps35
      go_wp2_with fail
      go_ret
      exact ⟨ret_int' HC.out, L⟩
    · have e2 : decide (j < 0) = false := by simpa using hj
      rw [e2] at L hx2 hy2 ⊢
      have HC := Lib.hid (cmpN_pos (i := i) (j := j) (by omega) (by omega))
      clear hi hj e1 e2 hx hy
      go_enter Tryd.func35, Tryd.ntmps35
      go_wp2_with (go_at_call 58; refine (rsizes_tens A B c d i j _ hx2 hy2 hl hl').mono ?_; rintro e w' ⟨rfl, n, rfl⟩)
      go_ret
      exact ⟨ret_int' HC.out, ⟨L.os, L.tape, L.output, L.size, L.block⟩⟩

theorem rsizes_b (A B : Option Addr) (c d : Nat) (i j : Int) (w : World) (hx : Nums8 w A (tens i)) (hy : Nums8 w B (tens j)) (hl : (tens i).length ≤ 1048576) (hl' : (tens j).length ≤ 1048576) :
    Calls Tryd.prog 58 #[.slice A (tens i).length c, .slice B (tens j).length d] w fun e w' => e = .returned (.int .i64 (cmpN i.natAbs j.natAbs)) ∧ Below w.heap.size w w' :=
  (rsizes_tens A B c d i j w hx hy hl hl').mono fun _ _ ⟨he, n, hw⟩ => ⟨he, by rw [hw]; exact below_drewN (Below.refl _ _) n⟩
/-- Two numbers boxed, and a third place for the answer: what stands in every later world. -/
def Three (w : World) (bi bj : Bool) (A B : Option Addr) (c d : Nat) (i j : Int) (b : World) : Prop :=
  (b.cell? ⟨w.heap.size, 0, none⟩ = some (.bool bi) ∧ b.cell? ⟨w.heap.size, 1, none⟩ = some (.slice A (tens i).length c)) ∧
  (b.cell? ⟨w.heap.size + 1, 0, none⟩ = some (.bool bj) ∧ b.cell? ⟨w.heap.size + 1, 1, none⟩ = some (.slice B (tens j).length d)) ∧
  (b.cell? ⟨w.heap.size + 1 + 1, 0, none⟩ = some (.bool false) ∧ b.cell? ⟨w.heap.size + 1 + 1, 1, none⟩ = some (.slice none 0 0) ∧ b.frozen? ⟨w.heap.size + 1 + 1, 0, none⟩ = false ∧ b.frozen? ⟨w.heap.size + 1 + 1, 1, none⟩ = false) ∧
  Nums8 b A (tens i) ∧ Nums8 b B (tens j)
def three (w : World) (bi bj : Bool) (A B : Option Addr) (c d : Nat) (i j : Int) : World :=
  ((w.alloc (.cells #[.bool bi, .slice A (tens i).length c] 33)).alloc (.cells #[.bool bj, .slice B (tens j).length d] 33)).alloc (.cells #[.bool false, .slice none 0 0] 33)
theorem three_below (w : World) (bi bj : Bool) (A B : Option Addr) (c d : Nat) (i j : Int) : Below w.heap.size w (three w bi bj A B c d i j) :=
  (((Below.refl _ _).alloc (Nat.le_refl _) _).alloc (by simp) _).alloc (by simp; omega) _
theorem three_size (w : World) (bi bj : Bool) (A B : Option Addr) (c d : Nat) (i j : Int) : (three w bi bj A B c d i j).heap.size = w.heap.size + 3 := by simp [three]
theorem three_since {w b : World} {bi bj : Bool} {A B : Option Addr} {c d : Nat} {i j : Int} (hx : Nums8 w A (tens i)) (hy : Nums8 w B (tens j)) (hb : Below (three w bi bj A B c d i j).heap.size (three w bi bj A B c d i j) b) : Three w bi bj A B c d i j b := by
  have hs := three_size w bi bj A B c d i j
  have X : Blk (three w bi bj A B c d i j) w.heap.size 33 #[.bool bi, .slice A (tens i).length c] := ((Blk.new _ _ _).alloc _).alloc _
  have Y : Blk (three w bi bj A B c d i j) (w.heap.size + 1) 33 #[.bool bj, .slice B (tens j).length d] := (Blk.new1 _ _ _ _).alloc _
  have Z : Blk (three w bi bj A B c d i j) (w.heap.size + 1 + 1) 33 #[.bool false, .slice none 0 0] := Blk.newAt (by simp)
  have x := (X.below hb X.lt).two; have y := (Y.below hb Y.lt).two; have z := (Z.below hb Z.lt).two
  exact ⟨⟨x.1, x.2.1⟩, ⟨y.1, y.2.1⟩, z, (hx.since (three_below w bi bj A B c d i j)).since hb, (hy.since (three_below w bi bj A B c d i j)).since hb⟩

section
variable (A B : Option Addr) (c d : Nat) (i j : Int) (w : World)
set_option maxHeartbeats 1000000 in
theorem rplus_same (b : Bool) (hi : decide (i < 0) = b) (hj : decide (j < 0) = b) (hx : Nums8 w A (tens i)) (hy : Nums8 w B (tens j)) (hl : (tens i).length ≤ 1000000) (hl' : (tens j).length ≤ 1000000) :
    Calls Tryd.prog 32 #[.agg #[.bool b, .slice A (tens i).length c], .agg #[.bool b, .slice B (tens j).length d]] w (RetNum w (i + j)) := by
  have hq : i.natAbs + j.natAbs = (i + j).natAbs := by cases b <;> simp at hi hj <;> omega
  have hs : b = decide (i + j < 0) := by cases b <;> simp at hi hj ⊢ <;> omega
  have HQ := Lib.hid hq; have HS := Lib.hid hs
  have hbb : (b == b) = true := by simp
  clear hq hs hi hj
  obtain ⟨W0, hW0⟩ : ∃ W0, W0 = three w b b A B c d i j := ⟨_, rfl⟩
  have LW : Below w.heap.size w W0 := by rw [hW0]; exact three_below ..
  have HWs : Hid (W0.heap.size = w.heap.size + 3) := by rw [hW0]; exact three_size ..
  have HF : Hid (∀ b1, Below W0.heap.size W0 b1 → Three w b b A B c d i j b1) := fun b1 hb => by rw [hW0] at hb; exact three_since hx hy hb
  clear hx hy
  unfold three at hW0
  go_enter Tryd.func32, Tryd.ntmps32
  go_wp2_with fail
  rw [← hW0]
  clear hW0
  have L : Below W0.heap.size W0 W0 := Below.refl _ _
  obtain ⟨⟨x0, x1⟩, ⟨y0, y1⟩, ⟨z0, z1, z2, z3⟩, hx, hy⟩ := HF.out _ L
  go_region_with (go_at_call 53; refine (rplusrow_any A B c d i j (i + j) _ (by first | exact hx | exact hx.drew) (by first | exact hy | exact hy.drew) hl hl' HQ.out).mono ?_; rintro e w1 ⟨A1, c1, rfl, ho1, hb⟩; have ho1 := ho1.mono (show W0.heap.size ≤ _ from L.size); have L := below_on L (by first | exact hb | exact below_undrew hb); clear x0 x1 y0 y1 z0 z1 z2 z3 hx hy hb; obtain ⟨⟨x0, x1⟩, ⟨y0, y1⟩, ⟨z0, z1, z2, z3⟩, hx, hy⟩ := HF.out _ L)
  all_goals
    go_wp2_with fail
    refine bodyPost_ret (v := .agg #[.bool b, .slice A1 (tens (i + j)).length c1]) (by simp [results, Tryd.results32, go_sem, z0, z1]) rfl ?_
    have h1 := HS.out
    have h2 := HWs.out
    have h3 := fin_num (w := w) (g0 := w.heap.size + 1 + 1) ho1 (LW.trans (L.mono LW.size)) (by omega) (by omega) (.bool b) (.slice A1 (tens (i + j)).length c1)
    rw [← h1] at h3
    exact h3
set_option maxHeartbeats 1000000 in
theorem rplus_diff (bi bj : Bool) (hne : bi ≠ bj) (hi : decide (i < 0) = bi) (hj : decide (j < 0) = bj) (hx : Nums8 w A (tens i)) (hy : Nums8 w B (tens j)) (hl : (tens i).length ≤ 1000000) (hl' : (tens j).length ≤ 1000000) :
    Calls Tryd.prog 32 #[.agg #[.bool bi, .slice A (tens i).length c], .agg #[.bool bj, .slice B (tens j).length d]] w (RetNum w (i + j)) := by
  have hbb : (bi == bj) = false := by simpa using hne
  obtain ⟨W0, hW0⟩ : ∃ W0, W0 = three w bi bj A B c d i j := ⟨_, rfl⟩
  have LW : Below w.heap.size w W0 := by rw [hW0]; exact three_below ..
  have HWs : Hid (W0.heap.size = w.heap.size + 3) := by rw [hW0]; exact three_size ..
  have HF : Hid (∀ b1, Below W0.heap.size W0 b1 → Three w bi bj A B c d i j b1) := fun b1 hb => by rw [hW0] at hb; exact three_since hx hy hb
  clear hx hy
  unfold three at hW0
  by_cases hle : j.natAbs ≤ i.natAbs
  · have hq : i.natAbs - j.natAbs = (i + j).natAbs := by cases bi <;> cases bj <;> simp at hi hj hne <;> omega
    have hcmp : ¬ cmpN i.natAbs j.natAbs < 0 := by unfold cmpN; rw [if_neg (by omega)]; split <;> omega
    have hcmp' : 0 ≤ cmpN i.natAbs j.natAbs := by omega
    have hs : decide (i + j < 0) = (bi && decide (0 < (tens (i + j)).length)) := by
      by_cases h0 : i + j = 0
      · rw [h0, tens_zero]; simp
      · have : 0 < (tens (i + j)).length := by rw [tens_eq]; exact digs_pos (by decide) (by omega)
        cases bi <;> cases bj <;> simp [this] at hi hj hne ⊢ <;> omega
    have HQ := Lib.hid hq; have HLE := Lib.hid hle; have HS := Lib.hid hs
    clear hq hcmp hs hi hj hne hle
    go_enter Tryd.func32, Tryd.ntmps32
    have L : Below W0.heap.size W0 W0 := Below.refl _ _
    go_upto_region 1 with fail
    rw [← hW0]
    clear hW0
    obtain ⟨⟨x0, x1⟩, ⟨y0, y1⟩, ⟨z0, z1, z2, z3⟩, hx, hy⟩ := HF.out _ L
    go_wp2_with (go_at_call 58; refine (rsizes_b A B c d i j _ hx hy (by omega) (by omega)).mono ?_; rintro e w1 ⟨rfl, hb⟩; have L := below_on L hb; clear x0 x1 y0 y1 z0 z1 z2 z3 hx hy hb; obtain ⟨⟨x0, x1⟩, ⟨y0, y1⟩, ⟨z0, z1, z2, z3⟩, hx, hy⟩ := HF.out _ L; refine Hid.out ?_)
    refine Lib.hid ?_
    go_wp2_with (go_at_call 54; refine (rminusrow_any A B c d i j (i + j) _ hx hy (by omega) (by omega) HLE.out HQ.out).mono ?_; rintro e w1 ⟨A1, c1, rfl, ho1, hb⟩; have ho1 := ho1.mono (show W0.heap.size ≤ _ from L.size); have L := below_on L hb; clear x0 x1 y0 y1 z0 z1 z2 z3 hx hy hb; obtain ⟨⟨x0, x1⟩, ⟨y0, y1⟩, ⟨z0, z1, z2, z3⟩, hx, hy⟩ := HF.out _ L; refine Hid.out ?_)
    refine Lib.hid ?_
    cases bi
    · go_wp2_with fail
      refine bodyPost_ret (v := .agg #[.bool false, .slice A1 (tens (i + j)).length c1]) (by simp [results, Tryd.results32, go_sem, z0, z1]) rfl ?_
      have h1 := HS.out
      have h2 := HWs.out
      have h3 := fin_num (w := w) (g0 := w.heap.size + 1 + 1) ho1 (LW.trans (L.mono LW.size)) (by omega) (by omega) (.bool false) (.slice A1 (tens (i + j)).length c1)
      rw [Bool.false_and] at h1
      rw [h1] at h3
      exact h3
    · by_cases h0 : 0 < (tens (i + j)).length
      · go_wp2_with fail
        refine bodyPost_ret (v := .agg #[.bool true, .slice A1 (tens (i + j)).length c1]) (by simp [results, Tryd.results32, go_sem, z0, z1]) rfl ?_
        have h1 := HS.out
        have h2 := HWs.out
        have h3 := fin_num (w := w) (g0 := w.heap.size + 1 + 1) ho1 (LW.trans (L.mono LW.size)) (by omega) (by omega) (.bool true) (.slice A1 (tens (i + j)).length c1)
        rw [Bool.true_and, decide_eq_true h0] at h1
        rw [h1] at h3
        exact h3
      · have h00 : (tens (i + j)).length = 0 := by omega
        have hd0 : decide (0 < (tens (i + j)).length) = false := by simpa using h0
        have H00 := Lib.hid h00; have HD0 := Lib.hid hd0
        clear h00 hd0
        go_wp2_with fail
        refine bodyPost_ret (v := .agg #[.bool false, .slice A1 (tens (i + j)).length c1]) (by simp [results, Tryd.results32, go_sem, z0, z1]) rfl ?_
        have h1 := HS.out
        have h2 := HWs.out
        have h3 := fin_num (w := w) (g0 := w.heap.size + 1 + 1) ho1 (LW.trans (L.mono LW.size)) (by omega) (by omega) (.bool false) (.slice A1 (tens (i + j)).length c1)
        rw [Bool.true_and, HD0.out] at h1
        rw [h1] at h3
        exact h3
  · have hq : j.natAbs - i.natAbs = (i + j).natAbs := by cases bi <;> cases bj <;> simp at hi hj hne <;> omega
    have hcmp : cmpN i.natAbs j.natAbs = -1 := by unfold cmpN; rw [if_pos (by omega)]
    have hs : decide (i + j < 0) = bj := by cases bi <;> cases bj <;> simp at hi hj hne ⊢ <;> omega
    have HQ := Lib.hid hq; have HLE := Lib.hid (show i.natAbs ≤ j.natAbs by omega); have HS := Lib.hid hs
    have HCM := Lib.hid hcmp
    clear hq hcmp hs hi hj hne hle
    go_enter Tryd.func32, Tryd.ntmps32
    have L : Below W0.heap.size W0 W0 := Below.refl _ _
    go_upto_region 1 with fail
    rw [← hW0]
    clear hW0
    obtain ⟨⟨x0, x1⟩, ⟨y0, y1⟩, ⟨z0, z1, z2, z3⟩, hx, hy⟩ := HF.out _ L
    go_wp2_with (go_at_call 58; refine (rsizes_b A B c d i j _ hx hy (by omega) (by omega)).mono ?_; rintro e w1 ⟨rfl, hb⟩; have L := below_on L hb; clear x0 x1 y0 y1 z0 z1 z2 z3 hx hy hb; obtain ⟨⟨x0, x1⟩, ⟨y0, y1⟩, ⟨z0, z1, z2, z3⟩, hx, hy⟩ := HF.out _ L; rw [HCM.out]; refine Hid.out ?_)
    refine Lib.hid ?_
    go_upto_region 6 with fail
    go_region_with (go_at_call 54; refine (rminusrow_any B A d c j i (i + j) _ (by first | exact hy | exact hy.drew) (by first | exact hx | exact hx.drew) (by omega) (by omega) HLE.out HQ.out).mono ?_; rintro e w1 ⟨A1, c1, rfl, ho1, hb⟩; have ho1 := ho1.mono (show W0.heap.size ≤ _ from L.size); have L := below_on L (by first | exact hb | exact below_undrew hb); clear x0 x1 y0 y1 z0 z1 z2 z3 hx hy hb; obtain ⟨⟨x0, x1⟩, ⟨y0, y1⟩, ⟨z0, z1, z2, z3⟩, hx, hy⟩ := HF.out _ L)
    all_goals
      go_wp2_with fail
      refine bodyPost_ret (v := .agg #[.bool bj, .slice A1 (tens (i + j)).length c1]) (by simp [results, Tryd.results32, go_sem, z0, z1]) rfl ?_
      have h1 := HS.out
      have h2 := HWs.out
      have h3 := fin_num (w := w) (g0 := w.heap.size + 1 + 1) ho1 (LW.trans (L.mono LW.size)) (by omega) (by omega) (.bool bj) (.slice A1 (tens (i + j)).length c1)
      rw [h1] at h3
      exact h3
theorem rplus_any (hx : Nums8 w A (tens i)) (hy : Nums8 w B (tens j)) (hl : (tens i).length ≤ 1000000) (hl' : (tens j).length ≤ 1000000) :
    Calls Tryd.prog 32 #[.agg #[.bool (decide (i < 0)), .slice A (tens i).length c], .agg #[.bool (decide (j < 0)), .slice B (tens j).length d]] w (RetNum w (i + j)) := by
  by_cases h : decide (i < 0) = decide (j < 0)
  · rw [← h]; exact rplus_same A B c d i j w _ rfl h.symm hx hy hl hl'
  · exact rplus_diff A B c d i j w _ _ h rfl rfl hx hy hl hl'
end
end Go.Proofs.YteggjfmcpodepaaDoor

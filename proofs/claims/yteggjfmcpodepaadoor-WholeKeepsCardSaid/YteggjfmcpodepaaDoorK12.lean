/- Words for the laws' own walks: what stands since a world; contracts in the laws' wording. The walks of the laws' own small functions: form, fits, is. Words for the laws' walks: what stands in every later world. The walks of the reference's Turn, Plus, Cmp. The walk of the reference's shares: long division, digit by digit. The walk of the reference's DivMod. The walk of the law WholeQuotients. -/
import Derived.Test.YteggjfmcpodepaaDoorK11
import Derived.Deep.RegionWith
namespace Go.Proofs.YteggjfmcpodepaaDoor
open Go.RowKit

theorem same_self (n1 : Bool) (xs : List Nat) : sameB n1 xs n1 xs = true := by unfold sameB; simp
theorem rsame_self (A B : Option Addr) (c d : Nat) (n : Bool) (xs : List Nat) (w : World) (hx : Nums w A xs) (hy : Nums w B xs) (hl : xs.length ≤ 1048576) :
    Calls Tryd.prog 21 #[.agg #[.bool n, .slice A xs.length c], .agg #[.bool n, .slice B xs.length d]] w fun e w' => e = .returned (.bool true) ∧ Below w.heap.size w w' := by
  have h := rsame_any A B c d xs xs w n n hx hy hl hl
  rwa [same_self] at h
theorem limbs_length {i : Int} (h : i.natAbs < B18 ^ 30) : (limbs i).length ≤ 30 := by
  rw [limbs_eq]; exact (digs_length_le B18_two _ _).2 h
theorem tens_len_of {i : Int} {k : Nat} (h : i.natAbs < B18 ^ k) : (tens i).length ≤ 18 * k := by
  rw [tens_eq]; exact (digs_length_le (by decide) _ _).2 (by rw [← B18_pow]; exact h)
theorem tens_length {i : Int} (h : i.natAbs < B18 ^ 30) : (tens i).length ≤ 540 := tens_len_of h
end Go.Proofs.YteggjfmcpodepaaDoor
namespace Go.Proofs.YteggjfmcpodepaaDoor
open Go.RowKit

theorem rfits_any (A : Option Addr) (c : Nat) (i : Int) (w : World) :
    Calls Tryd.prog 59 #[.agg #[.bool (decide (i < 0)), .slice A (tens i).length c]] w fun e w' => e = .returned (.bool (decide ((tens i).length ≤ 540))) ∧ Below w.heap.size w w' := by
  have hd : decide (((tens i).length : Int) ≤ 540) = decide ((tens i).length ≤ 540) := by
    by_cases h : (tens i).length ≤ 540
    · rw [decide_eq_true h, decide_eq_true (by omega)]
    · rw [decide_eq_false h, decide_eq_false (by omega)]
  go_enter Tryd.func59, Tryd.ntmps59
  go_wp2
  go_ret
  exact ⟨by first | rfl | rw [hd], (Below.refl _ _).alloc (Nat.le_refl _) _⟩
theorem tens_540 (i : Int) : (tens i).length ≤ 540 ↔ i.natAbs < B18 ^ 30 := by
  rw [tens_eq, B18_pow]
  exact digs_length_le (by decide) _ (18 * 30)
theorem outE_eq (i : Int) : outE true i = if (tens i).length ≤ 540 then 0 else 7 := by
  unfold outE
  rw [if_pos rfl]
  by_cases h : i.natAbs < B18 ^ 30
  · rw [if_pos h, if_pos ((tens_540 i).2 h)]
  · rw [if_neg h, if_neg (mt (tens_540 i).1 h)]
set_option maxHeartbeats 1000000 in
theorem lfits_any (A : Option Addr) (c : Nat) (i : Int) (w : World) :
    Calls Tryd.prog 34 #[.agg #[.bool (decide (i < 0)), .slice A (tens i).length c]] w fun e w' => e = .returned (.int .i64 (outE true i)) ∧ Below w.heap.size w w' := by
  rw [outE_eq]
  have L : Below w.heap.size w (w.alloc (.cells #[.bool (decide (i < 0)), .slice A (tens i).length c] 33)) := (Below.refl _ _).alloc (Nat.le_refl _) _
  have hfit := fun w => rfits_any A c i w
  by_cases h : (tens i).length ≤ 540
  · rw [if_pos h]
    rw [decide_eq_true h] at hfit
    clear h
    go_enter Tryd.func34, Tryd.ntmps34
    go_wp2_with (go_at_call 59; refine (hfit _).mono ?_; rintro e w1 ⟨rfl, hb⟩; have L := below_on L hb; clear hb)
    go_ret
    exact ⟨rfl, L⟩
  · rw [if_neg h]
    rw [decide_eq_false h] at hfit
    clear h
    go_enter Tryd.func34, Tryd.ntmps34
    go_wp2_with (go_at_call 59; refine (hfit _).mono ?_; rintro e w1 ⟨rfl, hb⟩; have L := below_on L hb; clear hb)
    go_ret
    exact ⟨rfl, L⟩

/-- Two words boxed: what stands in every later world. -/
def Two (w : World) (n1 n2 : Bool) (A B : Option Addr) (c d : Nat) (xs ys : List Nat) (b : World) : Prop :=
  (b.cell? ⟨w.heap.size, 0, none⟩ = some (.bool n1) ∧ b.cell? ⟨w.heap.size, 1, none⟩ = some (.slice A xs.length c) ∧
  b.cell? ⟨w.heap.size + 1, 0, none⟩ = some (.bool n2) ∧ b.cell? ⟨w.heap.size + 1, 1, none⟩ = some (.slice B ys.length d)) ∧ Nums b A xs ∧ Nums b B ys
def two (w : World) (n1 n2 : Bool) (A B : Option Addr) (c d : Nat) (xs ys : List Nat) : World :=
  (w.alloc (.cells #[.bool n1, .slice A xs.length c] 24)).alloc (.cells #[.bool n2, .slice B ys.length d] 24)
theorem two_below (w : World) (n1 n2 : Bool) (A B : Option Addr) (c d : Nat) (xs ys : List Nat) : Below w.heap.size w (two w n1 n2 A B c d xs ys) :=
  ((Below.refl _ _).alloc (Nat.le_refl _) _).alloc (by simp) _
theorem two_since {w b : World} {n1 n2 : Bool} {A B : Option Addr} {c d : Nat} {xs ys : List Nat} (hx : Nums w A xs) (hy : Nums w B ys) (hb : Below (two w n1 n2 A B c d xs ys).heap.size (two w n1 n2 A B c d xs ys) b) : Two w n1 n2 A B c d xs ys b := by
  have X : Blk (two w n1 n2 A B c d xs ys) w.heap.size 24 #[.bool n1, .slice A xs.length c] := (Blk.new _ _ _).alloc _
  have Y : Blk (two w n1 n2 A B c d xs ys) (w.heap.size + 1) 24 #[.bool n2, .slice B ys.length d] := Blk.new1 _ _ _ _
  have x := (X.below hb X.lt).two; have y := (Y.below hb Y.lt).two
  exact ⟨⟨x.1, x.2.1, y.1, y.2.1⟩, (hx.since (two_below w n1 n2 A B c d xs ys)).since hb, (hy.since (two_below w n1 n2 A B c d xs ys)).since hb⟩

/-- The number of the error that the laws expect of two numbers. -/
def formE (g1 g2 : Bool) : Int := if g1 && g2 then 0 else 3
set_option maxRecDepth 100000
set_option maxHeartbeats 1000000 in
theorem lform_any (n1 n2 : Bool) (A B : Option Addr) (c d : Nat) (xs ys : List Nat) (w : World) (hx : Nums w A xs) (hy : Nums w B ys) (hl : xs.length ≤ 9223372036854775807) (hl' : ys.length ≤ 9223372036854775807) :
    Calls Tryd.prog 15 #[.agg #[.bool n1, .slice A xs.length c], .agg #[.bool n2, .slice B ys.length d]] w fun e w' => e = .returned (.int .i64 (formE (goodB n1 xs) (goodB n2 ys))) ∧ Below w.heap.size w w' := by
  obtain ⟨W0, hW0⟩ : ∃ W0, W0 = two w n1 n2 A B c d xs ys := ⟨_, rfl⟩
  have LW : Below w.heap.size w W0 := by rw [hW0]; exact two_below ..
  have HF : Hid (∀ b1, Below W0.heap.size W0 b1 → Two w n1 n2 A B c d xs ys b1) := fun b1 hb => by rw [hW0] at hb; exact two_since hx hy hb
  have hg1 := fun w hx => rgood_any n1 c w A xs hl hx
  have hg2 := fun w hy => rgood_any n2 d w B ys hl' hy
  clear hx hy
  unfold two at hW0
  have L : Below W0.heap.size W0 W0 := Below.refl _ _
  obtain ⟨⟨x0, x1, y0, y1⟩, hx, hy⟩ := HF.out _ L
  go_enter Tryd.func15, Tryd.ntmps15
  cases h1 : goodB n1 xs
  · rw [h1] at hg1
    go_upto_region 1 with fail
    rw [← hW0]
    clear h1 hW0
    go_wp2_with (go_at_call 20; refine (hg1 _ hx).mono ?_; rintro e w1 ⟨rfl, hb⟩; have L := below_on L hb; clear hb)
    go_ret
    exact ⟨rfl, LW.trans (L.mono LW.size)⟩
  · rw [h1] at hg1
    go_upto_region 1 with fail
    rw [← hW0]
    clear h1 hW0
    go_wp2_with (go_at_call 20; refine (hg1 _ hx).mono ?_; rintro e w1 ⟨rfl, hb⟩; have L := below_on L hb; clear x0 x1 y0 y1 hx hy hb; obtain ⟨⟨x0, x1, y0, y1⟩, hx, hy⟩ := HF.out _ L; refine Hid.out ?_)
    refine Lib.hid ?_
    cases h2 : goodB n2 ys
    · rw [h2] at hg2
      have H2 := Lib.hid h2
      clear h2
      go_wp2_with (go_at_call 20; refine (hg2 _ hy).mono ?_; rintro e w1 ⟨rfl, hb⟩; have L := below_on L hb; clear hb)
      go_ret
      exact ⟨by rw [H2.out]; rfl, LW.trans (L.mono LW.size)⟩
    · rw [h2] at hg2
      have H2 := Lib.hid h2
      clear h2
      go_wp2_with (go_at_call 20; refine (hg2 _ hy).mono ?_; rintro e w1 ⟨rfl, hb⟩; have L := below_on L hb; clear hb)
      go_ret
      exact ⟨by rw [H2.out]; rfl, LW.trans (L.mono LW.size)⟩

/-- is, where the number is told: no error. -/
def isW (w : World) (b1 b2 : Bool) (A B : Option Addr) (c d n m : Nat) : World :=
  (w.alloc (.cells #[.bool b1, .slice A n c] 24)).alloc (.cells #[.bool b2, .slice B m d] 33)
set_option maxHeartbeats 1000000 in
theorem is_ok (A B : Option Addr) (c d : Nat) (i : Int) (w : World) (hx : Nums w A (limbs i)) (hy : Nums8 w B (tens i)) (hl : (limbs i).length ≤ 1048576) (hl' : (tens i).length ≤ 1048576) :
    Calls Tryd.prog 16 #[.agg #[.bool (decide (i < 0)), .slice A (limbs i).length c], .int .i64 0, .agg #[.bool (decide (i < 0)), .slice B (tens i).length d], .int .i64 0] w fun e w' => e = .returned (.bool true) ∧ Below w.heap.size w w' := by
  obtain ⟨W0, hW0⟩ : ∃ W0, W0 = isW w (decide (i < 0)) (decide (i < 0)) A B c d (limbs i).length (tens i).length := ⟨_, rfl⟩
  have LW : Below w.heap.size w W0 := by rw [hW0]; exact ((Below.refl _ _).alloc (Nat.le_refl _) _).alloc (by simp) _
  have HF : Hid (∀ b, Below W0.heap.size W0 b → (b.cell? ⟨w.heap.size, 0, none⟩ = some (.bool (decide (i < 0))) ∧ b.cell? ⟨w.heap.size, 1, none⟩ = some (.slice A (limbs i).length c) ∧
      b.cell? ⟨w.heap.size + 1, 0, none⟩ = some (.bool (decide (i < 0))) ∧ b.cell? ⟨w.heap.size + 1, 1, none⟩ = some (.slice B (tens i).length d)) ∧ Nums b A (limbs i) ∧ Nums8 b B (tens i)) := by
    intro b hb
    have X : Blk W0 w.heap.size 24 #[.bool (decide (i < 0)), .slice A (limbs i).length c] := by rw [hW0]; exact (Blk.new _ _ _).alloc _
    have Y : Blk W0 (w.heap.size + 1) 33 #[.bool (decide (i < 0)), .slice B (tens i).length d] := by rw [hW0]; exact Blk.new1 _ _ _ _
    have x := (X.below hb X.lt).two; have y := (Y.below hb Y.lt).two
    exact ⟨⟨x.1, x.2.1, y.1, y.2.1⟩, (hx.since LW).since hb, (hy.since LW).since hb⟩
  clear hx hy
  unfold isW at hW0
  have L : Below W0.heap.size W0 W0 := Below.refl _ _
  obtain ⟨⟨x0, x1, y0, y1⟩, hx, hy⟩ := HF.out _ L
  go_enter Tryd.func16, Tryd.ntmps16
  go_upto_region 1 with fail
  rw [← hW0]
  clear hW0
  go_wp2_with fail
  go_region_held3 (fun b => b.cell? ⟨w.heap.size, 0, none⟩ = some (.bool (decide (i < 0))) ∧ b.cell? ⟨w.heap.size, 1, none⟩ = some (.slice A (limbs i).length c) ∧
      b.cell? ⟨w.heap.size + 1, 0, none⟩ = some (.bool (decide (i < 0))) ∧ b.cell? ⟨w.heap.size + 1, 1, none⟩ = some (.slice B (tens i).length d))
    (first | (with_reducible exact ⟨x0, x1, y0, y1⟩) | (go_simp; done))
    (first
      | (go_at_call 23; refine (rto_any B d i _ (by first | exact hy | exact hy.drew) hl').mono ?_; rintro e w1 ⟨A1, c1, rfl, ho1, hb⟩; have ho1 := ho1.nums; have L := below_on L (by first | exact hb | exact below_undrew hb); clear x0 x1 y0 y1 hx hy hb; obtain ⟨⟨x0, x1, y0, y1⟩, hx, hy⟩ := HF.out _ L)
      | (go_at_call 21; refine (rsame_self A A1 c c1 _ (limbs i) _ hx ho1 hl).mono ?_; rintro e w1 ⟨rfl, hb⟩; have L := below_on L hb; clear x0 x1 y0 y1 hx hy hb; obtain ⟨⟨x0, x1, y0, y1⟩, hx, hy⟩ := HF.out _ L))
  all_goals
    go_wp2_with fail
    go_ret
    exact ⟨rfl, LW.trans (L.mono LW.size)⟩
/-- is, where an error is told: the number is nought. -/
theorem is_err (A B : Option Addr) (c d : Nat) (bn : Bool) (m : Nat) (f : Int) (w : World) (hf : f = 3 ∨ f = 6 ∨ f = 7 ∨ f = 1 ∨ f = 2 ∨ f = 4) :
    Calls Tryd.prog 16 #[.agg #[.bool false, .slice A 0 c], .int .i64 f, .agg #[.bool bn, .slice B m d], .int .i64 f] w fun e w' => e = .returned (.bool true) ∧ Below w.heap.size w w' := by
  have hn0 : (f != 0) = true := by rcases hf with rfl | rfl | rfl | rfl | rfl | rfl <;> rfl
  have hnf : (f != f) = false := by simp
  have hsame := fun w => rsame_self A none c 0 false [] w ⟨fun k => by rw [nth_nil]; decide, fun h => absurd h (by decide)⟩ ⟨fun k => by rw [nth_nil]; decide, fun h => absurd h (by decide)⟩ (by decide)
  have L : Below w.heap.size w ((w.alloc (.cells #[.bool false, .slice A 0 c] 24)).alloc (.cells #[.bool bn, .slice B m d] 33)) := ((Below.refl _ _).alloc (Nat.le_refl _) _).alloc (by simp) _
  clear hf
  go_enter Tryd.func16, Tryd.ntmps16
  go_wp2_with (go_at_call 21; refine (hsame _).mono ?_; rintro e w1 ⟨rfl, hb⟩; have L := below_on L hb; clear hb)
  go_ret
  exact ⟨rfl, L⟩
/-- is, at what a sum or product gives. -/
theorem is_out (A B : Option Addr) (c d : Nat) (i : Int) (w : World) (hx : Nums w A (limbs (outV true i))) (hy : Nums8 w B (tens i)) (hl' : (tens i).length ≤ 1048576) :
    Calls Tryd.prog 16 #[.agg #[.bool (decide (outV true i < 0)), .slice A (limbs (outV true i)).length c], .int .i64 (outE true i), .agg #[.bool (decide (i < 0)), .slice B (tens i).length d], .int .i64 (outE true i)] w fun e w' => e = .returned (.bool true) ∧ Below w.heap.size w w' := by
  by_cases h : i.natAbs < B18 ^ 30
  · rw [outV_ok h] at hx ⊢
    rw [outE_ok h]
    exact is_ok A B c d i w hx hy (by have := limbs_length h; omega) hl'
  · rw [outV_big (by omega)] at hx ⊢
    rw [outE_big (by omega), limbs_zero]
    exact is_err A B c d _ _ 7 w (by simp)
end Go.Proofs.YteggjfmcpodepaaDoor
namespace Go.Proofs.YteggjfmcpodepaaDoor
open Go.RowKit
/-- What stands in every later world. -/
def Pers (W : World) (F : World → Prop) : Prop := ∀ b, Below W.heap.size W b → F b
theorem Pers.here {W : World} {F : World → Prop} (h : Pers W F) : F W := h W (Below.refl _ _)
theorem Pers.on {W W' : World} {F : World → Prop} (h : Pers W F) (L : Below W.heap.size W W') : Pers W' F := fun b hb => h b (below_on L hb)
theorem Pers.and {W : World} {F G : World → Prop} (h : Pers W F) (k : Pers W G) : Pers W (fun b => F b ∧ G b) := fun b hb => ⟨h b hb, k b hb⟩
/-- A box that holds a number. -/
def Box (g : Nat) (t : TypeId) (u v : Value) (b : World) : Prop := b.cell? ⟨g, 0, none⟩ = some u ∧ b.cell? ⟨g, 1, none⟩ = some v
theorem Pers.box {W : World} {g : Nat} {t : TypeId} {u v : Value} (h : Blk W g t #[u, v]) : Pers W (Box g t u v) := fun _ hb => ⟨(h.below hb h.lt).two.1, (h.below hb h.lt).two.2.1⟩
theorem Pers.nums {W : World} {A : Option Addr} {xs : List Nat} (h : Nums W A xs) : Pers W (fun b => Nums b A xs) := fun _ hb => h.since hb
theorem Pers.nums8 {W : World} {A : Option Addr} {xs : List Nat} (h : Nums8 W A xs) : Pers W (fun b => Nums8 b A xs) := fun _ hb => h.since hb

/-- What a call leaves that answers nought. -/
def RetNought (W : World) (f : Int) (e : Ending) (w' : World) : Prop := ∃ A c, e = .returned (.tuple #[.agg #[.bool false, .slice A 0 c], .int .i64 f]) ∧ Nums w' A [] ∧ Below W.heap.size W w'
theorem retBigErr_nought {W w' : World} {f : Int} {e : Ending} (h : RetBigErr W 0 f e w') : RetNought W f e w' := by
  obtain ⟨A, c, rfl, ho, hb⟩ := h
  rw [limbs_zero] at ho ⊢
  exact ⟨A, c, rfl, ho.nums, hb⟩
def RetNought1 (W : World) (e : Ending) (w' : World) : Prop := ∃ A c, e = .returned (.agg #[.bool false, .slice A 0 c]) ∧ Nums w' A [] ∧ Below W.heap.size W w'
theorem retBig_nought {W w' : World} {e : Ending} (h : RetBig W 0 e w') : RetNought1 W e w' := by
  obtain ⟨A, c, rfl, ho, hb⟩ := h
  rw [limbs_zero] at ho ⊢
  exact ⟨A, c, rfl, ho.nums, hb⟩
/-- What a law's call leaves. -/
def LawTrue (W : World) (e : Ending) (w' : World) : Prop := e = .returned (.bool true) ∧ Below W.heap.size W w'
end Go.Proofs.YteggjfmcpodepaaDoor
namespace Go.Proofs.YteggjfmcpodepaaDoor
open Go.RowKit

theorem fin_num {w wz : World} {i : Int} {A : Option Addr} {c base g0 : Nat} (hown : Own8 wz base A c (tens i)) (L : Below w.heap.size w wz) (hg : w.heap.size ≤ g0) (hgb : g0 < base) (u v : Value) :
    RetNum w i (.returned (.agg #[.bool (decide (i < 0)), .slice A (tens i).length c])) ((wz.setCell ⟨g0, 0, none⟩ u).setCell ⟨g0, 1, none⟩ v) :=
  ⟨A, c, rfl, ((hown.setBelow hgb _).setBelow hgb _).mono (by omega), (L.setCell hg _).setCell hg _⟩

/-- What a call leaves that turns a number's sign: the digits are the same memory. -/
def RetTurn (W : World) (A : Option Addr) (c : Nat) (i : Int) (e : Ending) (w' : World) : Prop := e = .returned (.agg #[.bool (decide (-i < 0)), .slice A (tens i).length c]) ∧ Below W.heap.size W w'
set_option maxRecDepth 100000
set_option maxHeartbeats 1000000 in
theorem rturn_any (A : Option Addr) (c : Nat) (i : Int) (w : World) (hl : (tens i).length ≤ 1048576) :
    Calls Tryd.prog 33 #[.agg #[.bool (decide (i < 0)), .slice A (tens i).length c]] w (RetTurn w A c i) := by
  have hpos : i ≠ 0 → 0 < (tens i).length := fun h => by rw [tens_eq]; exact digs_pos (by decide) (by omega)
  have L : Below w.heap.size w ((w.alloc (.cells #[.bool (decide (i < 0)), .slice A (tens i).length c] 33)).alloc (.cells #[.bool false, .slice none 0 0] 33)) := ((Below.refl _ _).alloc (Nat.le_refl _) _).alloc (by simp) _
  rcases Int.lt_trichotomy i 0 with h | h | h
  · have e1 : decide (i < 0) = true := by simpa using h
    have e2 : decide (-i < 0) = false := by simp; omega
    unfold RetTurn
    rw [e2]
    rw [e1] at L ⊢
    clear e1 e2 h hpos
    go_enter Tryd.func33, Tryd.ntmps33
    go_wp2_with fail
    refine bodyPost_ret (v := .agg #[.bool false, .slice A (tens i).length c]) (by simp [results, Tryd.results33, go_sem]) rfl ?_
    exact ⟨rfl, by first | exact (L.setCell (by show w.heap.size ≤ w.heap.size + 1; omega) _).setCell (by show w.heap.size ≤ w.heap.size + 1; omega) _ | exact ((Below.refl _ _).alloc (Nat.le_refl _) _).alloc (by simp) _⟩
  · subst h
    have e1 : tens 0 = [] := tens_zero
    unfold RetTurn
    rw [e1] at L ⊢
    have e2 : decide ((0 : Int) < 0) = false := rfl
    have e3 : decide (-(0 : Int) < 0) = false := rfl
    rw [e3]
    rw [e2] at L ⊢
    clear e1 e2 e3 hpos hl
    go_enter Tryd.func33, Tryd.ntmps33
    go_wp2_with fail
    refine bodyPost_ret (v := .agg #[.bool false, .slice A 0 c]) (by simp [results, Tryd.results33, go_sem]) rfl ?_
    exact ⟨rfl, by first | exact (L.setCell (by show w.heap.size ≤ w.heap.size + 1; omega) _).setCell (by show w.heap.size ≤ w.heap.size + 1; omega) _ | exact ((Below.refl _ _).alloc (Nat.le_refl _) _).alloc (by simp) _⟩
  · have e1 : decide (i < 0) = false := by simp; omega
    have e2 : decide (-i < 0) = true := by simpa using h
    have h0 := hpos (by omega)
    unfold RetTurn
    rw [e2]
    rw [e1] at L ⊢
    clear e1 e2 h hpos
    go_enter Tryd.func33, Tryd.ntmps33
    go_wp2_with fail
    refine bodyPost_ret (v := .agg #[.bool true, .slice A (tens i).length c]) (by simp [results, Tryd.results33, go_sem]) rfl ?_
    exact ⟨rfl, by first | exact (L.setCell (by show w.heap.size ≤ w.heap.size + 1; omega) _).setCell (by show w.heap.size ≤ w.heap.size + 1; omega) _ | exact ((Below.refl _ _).alloc (Nat.le_refl _) _).alloc (by simp) _⟩

theorem cmpN_neg {i j : Int} (hi : i < 0) (hj : j < 0) : cmpN j.natAbs i.natAbs = cmpI i j := by
  unfold cmpN cmpI
  by_cases h : i < j
  · rw [if_pos (by omega), if_pos h]
  · rw [if_neg (by omega), if_neg h]
    by_cases h2 : j < i
    · rw [if_pos (by omega), if_pos h2]
    · rw [if_neg (by omega), if_neg h2]
theorem cmpN_pos {i j : Int} (hi : 0 ≤ i) (hj : 0 ≤ j) : cmpN i.natAbs j.natAbs = cmpI i j := by
  unfold cmpN cmpI
  by_cases h : i < j
  · rw [if_pos (by omega), if_pos h]
  · rw [if_neg (by omega), if_neg h]
    by_cases h2 : j < i
    · rw [if_pos (by omega), if_pos h2]
    · rw [if_neg (by omega), if_neg h2]
set_option maxHeartbeats 1000000 in
theorem rcmp_any (A B : Option Addr) (c d : Nat) (i j : Int) (w : World) (hx : Nums8 w A (tens i)) (hy : Nums8 w B (tens j)) (hl : (tens i).length ≤ 1048576) (hl' : (tens j).length ≤ 1048576) :
    Calls Tryd.prog 35 #[.agg #[.bool (decide (i < 0)), .slice A (tens i).length c], .agg #[.bool (decide (j < 0)), .slice B (tens j).length d]] w fun e w' => e = .returned (.int .i64 (cmpI i j)) ∧ Below w.heap.size w w' := by
  have L : Below w.heap.size w ((w.alloc (.cells #[.bool (decide (i < 0)), .slice A (tens i).length c] 33)).alloc (.cells #[.bool (decide (j < 0)), .slice B (tens j).length d] 33)) := ((Below.refl _ _).alloc (Nat.le_refl _) _).alloc (by simp) _
  have hx2 := hx.below L (Nat.le_refl _)
  have hy2 := hy.below L (Nat.le_refl _)
  by_cases hi : i < 0
  · have e1 : decide (i < 0) = true := by simpa using hi
    rw [e1] at L hx2 hy2 ⊢
    by_cases hj : j < 0
    · have e2 : decide (j < 0) = true := by simpa using hj
      rw [e2] at L hx2 hy2 ⊢
      have HC := Lib.hid (cmpN_neg hi hj)
      clear hi hj e1 e2 hx hy
      go_enter Tryd.func35, Tryd.ntmps35
      go_wp2_with (go_at_call 58; refine (rsizes_tens B A d c j i _ hy2 hx2 hl' hl).mono ?_; rintro e w' ⟨rfl, n, rfl⟩)
      go_ret
      exact ⟨ret_int' HC.out, ⟨L.os, L.tape, L.output, L.size, L.block⟩⟩
    · have e2 : decide (j < 0) = false := by simpa using hj
      rw [e2] at L hx2 hy2 ⊢
      have HC := Lib.hid (show (-1 : Int) = cmpI i j by unfold cmpI; rw [if_pos (by omega)])
      clear hi hj e1 e2 hx hy
      go_enter Tryd.func35, Tryd.ntmps35
      go_wp2_with fail
      go_ret
      exact ⟨ret_int' HC.out, L⟩
  · have e1 : decide (i < 0) = false := by simpa using hi
    rw [e1] at L hx2 hy2 ⊢
    by_cases hj : j < 0
    · have e2 : decide (j < 0) = true := by simpa using hj
      rw [e2] at L hx2 hy2 ⊢
      have HC := Lib.hid (show (1 : Int) = cmpI i j by unfold cmpI; rw [if_neg (by omega), if_pos (by omega)])
      clear hi hj e1 e2 hx hy
      go_enter Tryd.func35, Tryd.ntmps35
      go_wp2_with fail
      go_ret
      exact ⟨ret_int' HC.out, L⟩
    · have e2 : decide (j < 0) = false := by simpa using hj
      rw [e2] at L hx2 hy2 ⊢
      have HC := Lib.hid (cmpN_pos (i := i) (j := j) (by omega) (by omega))
      clear hi hj e1 e2 hx hy
      go_enter Tryd.func35, Tryd.ntmps35
      go_wp2_with (go_at_call 58; refine (rsizes_tens A B c d i j _ hx2 hy2 hl hl').mono ?_; rintro e w' ⟨rfl, n, rfl⟩)
      go_ret
      exact ⟨ret_int' HC.out, ⟨L.os, L.tape, L.output, L.size, L.block⟩⟩

theorem rsizes_b (A B : Option Addr) (c d : Nat) (i j : Int) (w : World) (hx : Nums8 w A (tens i)) (hy : Nums8 w B (tens j)) (hl : (tens i).length ≤ 1048576) (hl' : (tens j).length ≤ 1048576) :
    Calls Tryd.prog 58 #[.slice A (tens i).length c, .slice B (tens j).length d] w fun e w' => e = .returned (.int .i64 (cmpN i.natAbs j.natAbs)) ∧ Below w.heap.size w w' :=
  (rsizes_tens A B c d i j w hx hy hl hl').mono fun _ _ ⟨he, n, hw⟩ => ⟨he, by rw [hw]; exact below_drewN (Below.refl _ _) n⟩
/-- Two numbers boxed, and a third place for the answer: what stands in every later world. -/
def Three (w : World) (bi bj : Bool) (A B : Option Addr) (c d : Nat) (i j : Int) (b : World) : Prop :=
  (b.cell? ⟨w.heap.size, 0, none⟩ = some (.bool bi) ∧ b.cell? ⟨w.heap.size, 1, none⟩ = some (.slice A (tens i).length c)) ∧
  (b.cell? ⟨w.heap.size + 1, 0, none⟩ = some (.bool bj) ∧ b.cell? ⟨w.heap.size + 1, 1, none⟩ = some (.slice B (tens j).length d)) ∧
  (b.cell? ⟨w.heap.size + 1 + 1, 0, none⟩ = some (.bool false) ∧ b.cell? ⟨w.heap.size + 1 + 1, 1, none⟩ = some (.slice none 0 0) ∧ b.frozen? ⟨w.heap.size + 1 + 1, 0, none⟩ = false ∧ b.frozen? ⟨w.heap.size + 1 + 1, 1, none⟩ = false) ∧
  Nums8 b A (tens i) ∧ Nums8 b B (tens j)
def three (w : World) (bi bj : Bool) (A B : Option Addr) (c d : Nat) (i j : Int) : World :=
  ((w.alloc (.cells #[.bool bi, .slice A (tens i).length c] 33)).alloc (.cells #[.bool bj, .slice B (tens j).length d] 33)).alloc (.cells #[.bool false, .slice none 0 0] 33)
theorem three_below (w : World) (bi bj : Bool) (A B : Option Addr) (c d : Nat) (i j : Int) : Below w.heap.size w (three w bi bj A B c d i j) :=
  (((Below.refl _ _).alloc (Nat.le_refl _) _).alloc (by simp) _).alloc (by simp; omega) _
theorem three_size (w : World) (bi bj : Bool) (A B : Option Addr) (c d : Nat) (i j : Int) : (three w bi bj A B c d i j).heap.size = w.heap.size + 3 := by simp [three]
theorem three_since {w b : World} {bi bj : Bool} {A B : Option Addr} {c d : Nat} {i j : Int} (hx : Nums8 w A (tens i)) (hy : Nums8 w B (tens j)) (hb : Below (three w bi bj A B c d i j).heap.size (three w bi bj A B c d i j) b) : Three w bi bj A B c d i j b := by
  have hs := three_size w bi bj A B c d i j
  have X : Blk (three w bi bj A B c d i j) w.heap.size 33 #[.bool bi, .slice A (tens i).length c] := ((Blk.new _ _ _).alloc _).alloc _
  have Y : Blk (three w bi bj A B c d i j) (w.heap.size + 1) 33 #[.bool bj, .slice B (tens j).length d] := (Blk.new1 _ _ _ _).alloc _
  have Z : Blk (three w bi bj A B c d i j) (w.heap.size + 1 + 1) 33 #[.bool false, .slice none 0 0] := Blk.newAt (by simp)
  have x := (X.below hb X.lt).two; have y := (Y.below hb Y.lt).two; have z := (Z.below hb Z.lt).two
  exact ⟨⟨x.1, x.2.1⟩, ⟨y.1, y.2.1⟩, z, (hx.since (three_below w bi bj A B c d i j)).since hb, (hy.since (three_below w bi bj A B c d i j)).since hb⟩

section
variable (A B : Option Addr) (c d : Nat) (i j : Int) (w : World)
set_option maxHeartbeats 1000000 in
theorem rplus_same (b : Bool) (hi : decide (i < 0) = b) (hj : decide (j < 0) = b) (hx : Nums8 w A (tens i)) (hy : Nums8 w B (tens j)) (hl : (tens i).length ≤ 1000000) (hl' : (tens j).length ≤ 1000000) :
    Calls Tryd.prog 32 #[.agg #[.bool b, .slice A (tens i).length c], .agg #[.bool b, .slice B (tens j).length d]] w (RetNum w (i + j)) := by
  have hq : i.natAbs + j.natAbs = (i + j).natAbs := by cases b <;> simp at hi hj <;> omega
  have hs : b = decide (i + j < 0) := by cases b <;> simp at hi hj ⊢ <;> omega
  have HQ := Lib.hid hq; have HS := Lib.hid hs
  have hbb : (b == b) = true := by simp
  clear hq hs hi hj
  obtain ⟨W0, hW0⟩ : ∃ W0, W0 = three w b b A B c d i j := ⟨_, rfl⟩
  have LW : Below w.heap.size w W0 := by rw [hW0]; exact three_below ..
  have HWs : Hid (W0.heap.size = w.heap.size + 3) := by rw [hW0]; exact three_size ..
  have HF : Hid (∀ b1, Below W0.heap.size W0 b1 → Three w b b A B c d i j b1) := fun b1 hb => by rw [hW0] at hb; exact three_since hx hy hb
  clear hx hy
  unfold three at hW0
  go_enter Tryd.func32, Tryd.ntmps32
  go_wp2_with fail
  rw [← hW0]
  clear hW0
  have L : Below W0.heap.size W0 W0 := Below.refl _ _
  obtain ⟨⟨x0, x1⟩, ⟨y0, y1⟩, ⟨z0, z1, z2, z3⟩, hx, hy⟩ := HF.out _ L
  go_region_with (go_at_call 53; refine (rplusrow_any A B c d i j (i + j) _ (by first | exact hx | exact hx.drew) (by first | exact hy | exact hy.drew) hl hl' HQ.out).mono ?_; rintro e w1 ⟨A1, c1, rfl, ho1, hb⟩; have ho1 := ho1.mono (show W0.heap.size ≤ _ from L.size); have L := below_on L (by first | exact hb | exact below_undrew hb); clear x0 x1 y0 y1 z0 z1 z2 z3 hx hy hb; obtain ⟨⟨x0, x1⟩, ⟨y0, y1⟩, ⟨z0, z1, z2, z3⟩, hx, hy⟩ := HF.out _ L)
  all_goals
    go_wp2_with fail
    refine bodyPost_ret (v := .agg #[.bool b, .slice A1 (tens (i + j)).length c1]) (by simp [results, Tryd.results32, go_sem, z0, z1]) rfl ?_
    have h1 := HS.out
    have h2 := HWs.out
    have h3 := fin_num (w := w) (g0 := w.heap.size + 1 + 1) ho1 (LW.trans (L.mono LW.size)) (by omega) (by omega) (.bool b) (.slice A1 (tens (i + j)).length c1)
    rw [← h1] at h3
    exact h3
set_option maxHeartbeats 1000000 in
theorem rplus_diff (bi bj : Bool) (hne : bi ≠ bj) (hi : decide (i < 0) = bi) (hj : decide (j < 0) = bj) (hx : Nums8 w A (tens i)) (hy : Nums8 w B (tens j)) (hl : (tens i).length ≤ 1000000) (hl' : (tens j).length ≤ 1000000) :
    Calls Tryd.prog 32 #[.agg #[.bool bi, .slice A (tens i).length c], .agg #[.bool bj, .slice B (tens j).length d]] w (RetNum w (i + j)) := by
  have hbb : (bi == bj) = false := by simpa using hne
  obtain ⟨W0, hW0⟩ : ∃ W0, W0 = three w bi bj A B c d i j := ⟨_, rfl⟩
  have LW : Below w.heap.size w W0 := by rw [hW0]; exact three_below ..
  have HWs : Hid (W0.heap.size = w.heap.size + 3) := by rw [hW0]; exact three_size ..
  have HF : Hid (∀ b1, Below W0.heap.size W0 b1 → Three w bi bj A B c d i j b1) := fun b1 hb => by rw [hW0] at hb; exact three_since hx hy hb
  clear hx hy
  unfold three at hW0
  by_cases hle : j.natAbs ≤ i.natAbs
  · have hq : i.natAbs - j.natAbs = (i + j).natAbs := by cases bi <;> cases bj <;> simp at hi hj hne <;> omega
    have hcmp : ¬ cmpN i.natAbs j.natAbs < 0 := by unfold cmpN; rw [if_neg (by omega)]; split <;> omega
    have hcmp' : 0 ≤ cmpN i.natAbs j.natAbs := by omega
    have hs : decide (i + j < 0) = (bi && decide (0 < (tens (i + j)).length)) := by
      by_cases h0 : i + j = 0
      · rw [h0, tens_zero]; simp
      · have : 0 < (tens (i + j)).length := by rw [tens_eq]; exact digs_pos (by decide) (by omega)
        cases bi <;> cases bj <;> simp [this] at hi hj hne ⊢ <;> omega
    have HQ := Lib.hid hq; have HLE := Lib.hid hle; have HS := Lib.hid hs
    clear hq hcmp hs hi hj hne hle
    go_enter Tryd.func32, Tryd.ntmps32
    have L : Below W0.heap.size W0 W0 := Below.refl _ _
    go_upto_region 1 with fail
    rw [← hW0]
    clear hW0
    obtain ⟨⟨x0, x1⟩, ⟨y0, y1⟩, ⟨z0, z1, z2, z3⟩, hx, hy⟩ := HF.out _ L
    go_wp2_with (go_at_call 58; refine (rsizes_b A B c d i j _ hx hy (by omega) (by omega)).mono ?_; rintro e w1 ⟨rfl, hb⟩; have L := below_on L hb; clear x0 x1 y0 y1 z0 z1 z2 z3 hx hy hb; obtain ⟨⟨x0, x1⟩, ⟨y0, y1⟩, ⟨z0, z1, z2, z3⟩, hx, hy⟩ := HF.out _ L; refine Hid.out ?_)
    refine Lib.hid ?_
    go_wp2_with (go_at_call 54; refine (rminusrow_any A B c d i j (i + j) _ hx hy (by omega) (by omega) HLE.out HQ.out).mono ?_; rintro e w1 ⟨A1, c1, rfl, ho1, hb⟩; have ho1 := ho1.mono (show W0.heap.size ≤ _ from L.size); have L := below_on L hb; clear x0 x1 y0 y1 z0 z1 z2 z3 hx hy hb; obtain ⟨⟨x0, x1⟩, ⟨y0, y1⟩, ⟨z0, z1, z2, z3⟩, hx, hy⟩ := HF.out _ L; refine Hid.out ?_)
    refine Lib.hid ?_
    cases bi
    · go_wp2_with fail
      refine bodyPost_ret (v := .agg #[.bool false, .slice A1 (tens (i + j)).length c1]) (by simp [results, Tryd.results32, go_sem, z0, z1]) rfl ?_
      have h1 := HS.out
      have h2 := HWs.out
      have h3 := fin_num (w := w) (g0 := w.heap.size + 1 + 1) ho1 (LW.trans (L.mono LW.size)) (by omega) (by omega) (.bool false) (.slice A1 (tens (i + j)).length c1)
      rw [Bool.false_and] at h1
      rw [h1] at h3
      exact h3
    · by_cases h0 : 0 < (tens (i + j)).length
      · go_wp2_with fail
        refine bodyPost_ret (v := .agg #[.bool true, .slice A1 (tens (i + j)).length c1]) (by simp [results, Tryd.results32, go_sem, z0, z1]) rfl ?_
        have h1 := HS.out
        have h2 := HWs.out
        have h3 := fin_num (w := w) (g0 := w.heap.size + 1 + 1) ho1 (LW.trans (L.mono LW.size)) (by omega) (by omega) (.bool true) (.slice A1 (tens (i + j)).length c1)
        rw [Bool.true_and, decide_eq_true h0] at h1
        rw [h1] at h3
        exact h3
      · have h00 : (tens (i + j)).length = 0 := by omega
        have hd0 : decide (0 < (tens (i + j)).length) = false := by simpa using h0
        have H00 := Lib.hid h00; have HD0 := Lib.hid hd0
        clear h00 hd0
        go_wp2_with fail
        refine bodyPost_ret (v := .agg #[.bool false, .slice A1 (tens (i + j)).length c1]) (by simp [results, Tryd.results32, go_sem, z0, z1]) rfl ?_
        have h1 := HS.out
        have h2 := HWs.out
        have h3 := fin_num (w := w) (g0 := w.heap.size + 1 + 1) ho1 (LW.trans (L.mono LW.size)) (by omega) (by omega) (.bool false) (.slice A1 (tens (i + j)).length c1)
        rw [Bool.true_and, HD0.out] at h1
        rw [h1] at h3
        exact h3
  · have hq : j.natAbs - i.natAbs = (i + j).natAbs := by cases bi <;> cases bj <;> simp at hi hj hne <;> omega
    have hcmp : cmpN i.natAbs j.natAbs = -1 := by unfold cmpN; rw [if_pos (by omega)]
    have hs : decide (i + j < 0) = bj := by cases bi <;> cases bj <;> simp at hi hj hne ⊢ <;> omega
    have HQ := Lib.hid hq; have HLE := Lib.hid (show i.natAbs ≤ j.natAbs by omega); have HS := Lib.hid hs
    have HCM := Lib.hid hcmp
    clear hq hcmp hs hi hj hne hle
    go_enter Tryd.func32, Tryd.ntmps32
    have L : Below W0.heap.size W0 W0 := Below.refl _ _
    go_upto_region 1 with fail
    rw [← hW0]
    clear hW0
    obtain ⟨⟨x0, x1⟩, ⟨y0, y1⟩, ⟨z0, z1, z2, z3⟩, hx, hy⟩ := HF.out _ L
    go_wp2_with (go_at_call 58; refine (rsizes_b A B c d i j _ hx hy (by omega) (by omega)).mono ?_; rintro e w1 ⟨rfl, hb⟩; have L := below_on L hb; clear x0 x1 y0 y1 z0 z1 z2 z3 hx hy hb; obtain ⟨⟨x0, x1⟩, ⟨y0, y1⟩, ⟨z0, z1, z2, z3⟩, hx, hy⟩ := HF.out _ L; rw [HCM.out]; refine Hid.out ?_)
    refine Lib.hid ?_
    go_upto_region 6 with fail
    go_region_with (go_at_call 54; refine (rminusrow_any B A d c j i (i + j) _ (by first | exact hy | exact hy.drew) (by first | exact hx | exact hx.drew) (by omega) (by omega) HLE.out HQ.out).mono ?_; rintro e w1 ⟨A1, c1, rfl, ho1, hb⟩; have ho1 := ho1.mono (show W0.heap.size ≤ _ from L.size); have L := below_on L (by first | exact hb | exact below_undrew hb); clear x0 x1 y0 y1 z0 z1 z2 z3 hx hy hb; obtain ⟨⟨x0, x1⟩, ⟨y0, y1⟩, ⟨z0, z1, z2, z3⟩, hx, hy⟩ := HF.out _ L)
    all_goals
      go_wp2_with fail
      refine bodyPost_ret (v := .agg #[.bool bj, .slice A1 (tens (i + j)).length c1]) (by simp [results, Tryd.results32, go_sem, z0, z1]) rfl ?_
      have h1 := HS.out
      have h2 := HWs.out
      have h3 := fin_num (w := w) (g0 := w.heap.size + 1 + 1) ho1 (LW.trans (L.mono LW.size)) (by omega) (by omega) (.bool bj) (.slice A1 (tens (i + j)).length c1)
      rw [h1] at h3
      exact h3
theorem rplus_any (hx : Nums8 w A (tens i)) (hy : Nums8 w B (tens j)) (hl : (tens i).length ≤ 1000000) (hl' : (tens j).length ≤ 1000000) :
    Calls Tryd.prog 32 #[.agg #[.bool (decide (i < 0)), .slice A (tens i).length c], .agg #[.bool (decide (j < 0)), .slice B (tens j).length d]] w (RetNum w (i + j)) := by
  by_cases h : decide (i < 0) = decide (j < 0)
  · rw [← h]; exact rplus_same A B c d i j w _ rfl h.symm hx hy hl hl'
  · exact rplus_diff A B c d i j w _ _ h rfl rfl hx hy hl hl'
end
end Go.Proofs.YteggjfmcpodepaaDoor
namespace Go.Proofs.YteggjfmcpodepaaDoor
open Go.RowKit

theorem add_flat (b o k : Nat) : ((⟨b, o, none⟩ : Addr).add k) = ⟨b, o + k, none⟩ := by unfold Addr.add; split <;> simp_all
theorem Nums8.reads {w : World} {A : Option Addr} {xs : List Nat} (h : Nums8 w A xs) : Reads w w.heap.size 1 A xs.length (xs.map fun x : Nat => Value.int .u8 (x : Int)) := by
  refine ⟨by simp, fun hn => ?_⟩
  obtain ⟨b, o, rfl, hb, hc⟩ := h.2 hn
  refine ⟨⟨b, o, none⟩, rfl, hb, fun j u hu => ?_⟩
  rw [List.getElem?_map] at hu
  by_cases hj : j < xs.length
  · rw [List.getElem?_eq_getElem hj] at hu
    simp only [Option.map_some, Option.some.injEq] at hu
    rw [add_flat, hc j hj, ← hu]
    simp [nth, hj]
  · rw [List.getElem?_eq_none (by omega)] at hu; simp at hu
/-- append of the bytes of any slice to a slice of the call's own. -/
theorem wpList_cat8 {w : World} {ops : Array Oper} {rest : List Oper} {o : Oper} {a : Act} {Q : Exit → Act → World → Prop} (hgd : o.guard = none) (s x : Operand)
    (ho : o.op = .call { callee := .builtin .append, args := #[s, x], argTypes := #[31, 31] }) (base : Nat) (A : Option Addr) (c : Nat) (xs : List Nat) (hs : a.eval s = .slice A xs.length c)
    (hown : Own8 w base A c xs) (B : Option Addr) (cc : Nat) (ys : List Nat) (hx : a.eval x = .slice B ys.length cc) (hy : Nums8 w B ys) (h64 : ∀ x ∈ ys, x < 256) (hl : xs.length + ys.length ≤ 17592186044416) (hbase : base ≤ w.heap.size)
    (h : ∀ A' c' w', Own8 w' base A' c' (xs ++ ys) → w.grownBy w' (Value.slice A xs.length c).ownBlock → wpList Tryd.prog ops Q rest (a.put o.dst (.slice A' (xs ++ ys).length c')) w') : wpList Tryd.prog ops Q (o :: rest) a w := by
  obtain ⟨i, hi, hz, hsz, hby⟩ := infoParts8
  refine wpList_append_any w hgd s x _ ho base 5 i _ 1 1 Tryd.underlying31 hi hz hsz hby rfl (by decide) _ _ _ hs hown.1 w.heap.size B ys.length cc (ys.map fun x : Nat => Value.int .u8 (x : Int)) hx hy.reads
    (fun u hu => by rw [List.mem_map] at hu; obtain ⟨y, _, rfl⟩ := hu; rfl) (by unfold maxLen; omega) (by omega) hbase ?_
  intro v' w' hown' hg' _
  rw [← List.map_append] at hown'
  obtain ⟨A', c', hv, ho'⟩ := Own8.of_owns hown' (fun y hy => by
    rcases List.mem_append.1 hy with h1 | h1
    · exact hown.2 y h1
    · exact h64 y h1)
  rw [hv]
  exact h A' c' w' ho' hg'
theorem Own8.one (w : World) (v : Int) (x : Nat) (hv : v = (x : Int)) (hx : x < 256) : Own8 (w.alloc (.cells #[.int .u8 v] 5)) w.heap.size (some ⟨w.heap.size, 0, none⟩) 1 [x] := by
  subst hv
  have h : Row8 (w.alloc (.cells #[.int .u8 (x : Int)] 5)) w.heap.size 1 [x] := by
    refine ⟨⟨#[.int .u8 (x : Int)], heap_alloc_new w _, rfl, fun i hi => ?_⟩, by simp⟩
    obtain rfl : i = 0 := by omega
    simp [rowOf8, nth]
  exact Own8.of_row h (Nat.le_refl _) (by decide) (by simp) (fun j _ => rfl) (by simp; omega)

theorem val_rep10' (n : Nat) : val 10 (List.replicate n 0) = 0 := by
  induction n with
  | zero => rfl
  | succ n ih => rw [List.replicate_succ, val, ih]
/-- A number in a cell: for a loop's measure. -/
def cellN (w : World) (g m : Nat) : Nat := match w.cell? ⟨g, m, none⟩ with | some (.int _ n) => n.toNat | _ => 0
theorem cellN_row {w : World} {g n m : Nat} {qs : List Nat} (h : Row8 w g n qs) (hm : m < n) : cellN w g m = qs.getD m 0 := by
  unfold cellN; rw [h.cell hm]; unfold nth; simp
/-- One digit of the dividend is taken down. -/
theorem share_head (V Y m : Nat) : V / 10 ^ m = 10 * (V / 10 ^ (m + 1)) + V / 10 ^ m % 10 := by
  rw [Nat.pow_succ, ← Nat.div_div_eq_div_mul]; omega
theorem share_end {V Y m R1 T : Nat} (hY : 0 < Y) (h : R1 + T * Y = V / 10 ^ m % 10 + 10 * (V / 10 ^ (m + 1) % Y)) (hR : R1 < Y) :
    R1 = V / 10 ^ m % Y ∧ 10 * (V / 10 ^ (m + 1) / Y) + T = V / 10 ^ m / Y := by
  have e := share_head V Y m
  have d := Nat.div_add_mod (V / 10 ^ (m + 1)) Y
  generalize V / 10 ^ (m + 1) = D at *
  generalize V / 10 ^ m % 10 = a at *
  generalize D / Y = Qk at *
  generalize D % Y = R at *
  have e2 : V / 10 ^ m = R1 + Y * (10 * Qk + T) := by
    rw [e, ← d, Nat.mul_add, Nat.mul_add, Nat.mul_comm Y T, Nat.mul_left_comm Y 10]
    omega
  rw [e2]
  constructor
  · rw [Nat.add_mul_mod_self_left, Nat.mod_eq_of_lt hR]
  · rw [Nat.add_mul_div_left _ _ hY, Nat.div_eq_of_lt hR]; omega
theorem share_nine {V Y m R1 T : Nat} (hY : 0 < Y) (h : R1 + T * Y = V / 10 ^ m % 10 + 10 * (V / 10 ^ (m + 1) % Y)) (hR : Y ≤ R1) : T + 1 ≤ 9 := by
  have h1 : V / 10 ^ m % 10 < 10 := Nat.mod_lt _ (by decide)
  have h2 := Nat.mod_lt (V / 10 ^ (m + 1)) hY
  rcases Nat.lt_or_ge (T + 1) 10 with h3 | h3
  · omega
  · have := Nat.mul_le_mul_right Y h3
    rw [Nat.add_mul, Nat.one_mul] at this
    omega
theorem tens_congr {i j : Int} (h : i.natAbs = j.natAbs) : tens i = tens j := by rw [tens_eq, tens_eq, h]
/-- What a call leaves that answers quotient and rest. -/
def RetShares (W : World) (q r : Int) (e : Ending) (w' : World) : Prop :=
  ∃ A1 c1 A2 c2, e = .returned (.tuple #[.slice A1 (tens q).length c1, .slice A2 (tens r).length c2]) ∧ Own8 w' W.heap.size A1 c1 (tens q) ∧ Own8 w' W.heap.size A2 c2 (tens r) ∧ Below W.heap.size W w'
set_option maxRecDepth 100000
set_option maxHeartbeats 2000000 in
theorem rshares_any (A B : Option Addr) (c d : Nat) (i j q r : Int) (w : World) (hx : Nums8 w A (tens i)) (hy : Nums8 w B (tens j)) (hl : (tens i).length ≤ 600) (hl' : (tens j).length ≤ 600) (hj0 : j ≠ 0) (hq : i.natAbs / j.natAbs = q.natAbs) (hr : i.natAbs % j.natAbs = r.natAbs) :
    Calls Tryd.prog 52 #[.slice A (tens i).length c, .slice B (tens j).length d] w (RetShares w q r) := by
  have HQ := Lib.hid hq; have HR := Lib.hid hr
  have hY : 0 < j.natAbs := by omega
  have HSX := Lib.hid (tens_small i)
  obtain ⟨la, hla⟩ : ∃ la, la = (tens i).length := ⟨_, rfl⟩
  have hmk := make8 la (by omega)
  have hp0 := natAbs_past (i := i) (k := la) (by omega)
  have HP0 := Lib.hid hp0
  have hlb : la ≤ 600 := by omega
  have HLA := Lib.hid hla
  rw [← hla]
  clear hq hr hp0 hla hl
  go_enter Tryd.func52, Tryd.ntmps52
  go_upto_region 2 with fail
  obtain ⟨W1, hW1⟩ : ∃ W1, W1 = w.alloc (.cells (madeCells #[.int .u8 0] la) 5) := ⟨_, rfl⟩
  have L1 : Below w.heap.size w W1 := by rw [hW1]; exact (Below.refl _ _).alloc (Nat.le_refl _) _
  have hrow : Row8 W1 w.heap.size la (List.replicate la 0) := by
    have h := (Row8.made w la).fill
    rw [← hW1] at h
    simpa using h
  rw [← hW1]
  clear hmk hW1
  go_wp2_with fail
  go_loopw [7, 8] (fun rv iv wr => ∃ (k R : Nat) (A' : Option Addr) (c' : Nat) (rs qs : List Nat), k ≤ la ∧ iv = .int .i64 ((k : Int) - 1) ∧ rv = .slice A' rs.length c' ∧ Own8 wr (w.heap.size + 1) A' c' rs ∧ Hid (rs = tens ((R : Nat) : Int)) ∧ Hid (R = i.natAbs / 10 ^ k % j.natAbs) ∧
      Row8 wr w.heap.size la qs ∧ qs.length = la ∧ small 10 qs ∧ Hid (val 10 qs = 10 ^ k * (i.natAbs / 10 ^ k / j.natAbs)) ∧ Hid (∀ p, p < k → nth qs p = 0) ∧ Below w.heap.size w wr) (fun _ iv _ => (intOf iv + 1).toNat)
  case atStart =>
    refine ⟨la, 0, none, 0, [], List.replicate la 0, Nat.le_refl _, rfl, rfl, Own8.nil _ _, ?_, ?_, hrow, by simp, ?_, ?_, fun p _ => nth_replicate _ _, L1⟩
    · show _ = _; exact tens_zero.symm
    · show _ = _; rw [HP0.out, Nat.zero_mod]
    · intro x hx; rw [List.eq_of_mem_replicate hx]; decide
    · show _ = _; rw [HP0.out, Nat.zero_div, Nat.mul_zero]; exact val_rep10' la
  case round =>
    obtain ⟨k, R, A', c', rs, qs, hk, rfl, rfl, hown, HRS, HRR, hrw, hql, hqs, HV, HZ, hbel⟩ := hrel
    have hxr : Nums8 wr A (tens i) := hx.since hbel
    have hsz : w.heap.size < wr.heap.size := hrw.lt
    by_cases hk0 : k = 0
    · subst hk0
      have hoq : Own8 wr w.heap.size (some ⟨w.heap.size, 0, none⟩) la qs := Own8.of_row hrw (Nat.le_refl _) (by unfold maxLen; omega) (by omega) (fun _ _ => rfl) (fun x hx => by have := hqs x hx; omega)
      have hvq : val 10 qs = q.natAbs := by rw [HV.out, ← HQ.out]; simp
      have hcut := fun w h => rcut_tens w.heap.size (some ⟨w.heap.size, 0, none⟩) la qs q w h hqs hvq (by omega)
      have hrt : rs = tens r := by rw [HRS.out]; exact tens_congr (by rw [← HR.out]; have := HRR.out; simpa using this)
      subst hrt
      have hcut2 := rcut_tens w.heap.size (some ⟨w.heap.size, 0, none⟩) la qs q wr hoq hqs hvq (by omega)
      rw [hql] at hcut2
      clear hvq hcut HRS HRR HV HZ
      go_wp2_with (go_at_call 55; refine hcut2.mono ?_; rintro e w4 ⟨rfl, hown4, rfl⟩)
      go_ret2
      exact ⟨_, la, A', c', rfl, hown4, hown.mono (by omega), hbel⟩
    · obtain ⟨m, rfl⟩ : ∃ m, k = m + 1 := ⟨k - 1, by omega⟩
      obtain ⟨wo, rfl⟩ : ∃ wo : World, wo = wr := ⟨_, rfl⟩
      have ht1 : ((m + 1 : Nat) : Int) - 1 = (m : Int) := by omega
      rw [ht1]
      have hlx := nth_lt (by omega) HSX.out m
      have hnx := nth_nonneg (tens i) m
      obtain ⟨b, o, hAe, hb, hc⟩ := hxr.2 (by have := HLA.out; omega)
      subst hAe
      have hcx := hc m (by have := HLA.out; omega)
      have hm1 : (m : Int) < (la : Int) := by omega
      obtain ⟨a, ha⟩ : ∃ a, a = (tens i).getD m 0 := ⟨_, rfl⟩
      have hae : nth (tens i) m = (a : Int) := by rw [ha]; unfold nth; rfl
      have hav : a = i.natAbs / 10 ^ m % 10 := by have := nth_tens i m; omega
      have hone := Own8.one wo (nth (tens i) m) a hae (by omega)
      have hbase : wo.heap.size ≤ (wo.alloc (.cells #[.int .u8 (nth (tens i) m)] 5)).heap.size := by simp
      have hn8 := (hown.alloc (.cells #[.int .u8 (nth (tens i) m)] 5)).nums
      have h256 : ∀ x ∈ rs, x < 256 := hown.2
      obtain ⟨KK, hKK⟩ : ∃ KK : Nat, KK = 600 := ⟨_, rfl⟩
      have hrl : rs.length ≤ KK := by
        rw [HRS.out]
        have h1 := Nat.mod_lt (i.natAbs / 10 ^ (m + 1)) hY
        have h2 := HRR.out
        rw [tens_eq]
        refine (digs_length_le (by decide) _ _).2 ?_
        have h3 : j.natAbs < 10 ^ (tens j).length := (digs_length_le (by decide) _ _).1 (by rw [tens_eq]; exact Nat.le_refl _)
        have h4 : 10 ^ (tens j).length ≤ 10 ^ KK := Nat.pow_le_pow_right (by decide) (by omega)
        simp only [Int.natAbs_natCast]
        omega
      have hrl : rs.length ≤ 600 := by omega
      have HH := Lib.hid h256
      have HAV := Lib.hid hav
      have HLEN : Hid ([a].length + rs.length ≤ 17592186044416) := by show 1 + _ ≤ _; omega
      have H256 : Hid (∀ x ∈ rs, x < 256) := HH.out
      clear ht1 hc ha hae hav h256 hKK
      go_wp2_with (at_builtin; go_loud (refine wpList_cat8 rfl (.tmp 23) (.tmp 24) rfl wo.heap.size (some ⟨wo.heap.size, 0, none⟩) 1 [a] rfl hone A' c' rs rfl hn8 H256.out HLEN.out hbase (fun A3 c3 w3 hown3 hg3 => ?_)); refine Hid.out ?_)
      refine Lib.hid ?_
      have hb3 : Below wo.heap.size wo w3 := Below.own8 ((Below.refl _ _).alloc (Nat.le_refl _) _) hone (by simp) hg3
      obtain ⟨ds, hds⟩ : ∃ ds, ds = [a] ++ rs := ⟨_, rfl⟩
      rw [← hds] at hown3
      have hll : rs.length + 1 = ds.length := by rw [hds]; simp
      rw [hll]
      have hlen3 : ds.length ≤ 1048576 := by omega
      obtain ⟨R', hR'⟩ : ∃ R' : Nat, R' = i.natAbs / 10 ^ m % 10 + 10 * (i.natAbs / 10 ^ (m + 1) % j.natAbs) := ⟨_, rfl⟩
      have hvd : val 10 ds = ((R' : Nat) : Int).natAbs := by
        have h1 : val 10 rs = R := by rw [HRS.out, val_tens]; simp
        have h2 := HRR.out
        rw [hds, List.singleton_append, val, h1, hR', HAV.out, ← h2, Int.natAbs_natCast]
      have hsm : small 10 ds := by
        rw [hds, List.singleton_append]
        exact small_cons.2 ⟨by rw [HAV.out]; exact Nat.mod_lt _ (by decide), by rw [HRS.out]; exact tens_small _⟩
      have HV3 := Lib.hid hvd; have HSM := Lib.hid hsm; have HL3 := Lib.hid hlen3; have HR' := Lib.hid hR'
      clear hvd hsm hlen3 hds hll HH HAV HLEN H256 hone hbase hn8 hg3 hR'
      go_wp2_with (go_at_call 55; refine (rcut_tens wo.heap.size A3 c3 ds ((R' : Nat) : Int) _ hown3 HSM.out HV3.out HL3.out).mono ?_; rintro e w4 ⟨rfl, hown4, rfl⟩; refine Hid.out ?_)
      refine Lib.hid ?_
      have hbel3 : Below w.heap.size w w3 := hbel.trans (hb3.mono (by omega))
      have hrw3 := hrw.below hb3 hsz
      have hs3 := hb3.size
      have hown5 : Own8 w3 (w.heap.size + 1) A3 c3 (tens ((R' : Nat) : Int)) := hown4.mono (by omega)
      have HZ3 : Hid (nth qs m = ((0 : Nat) : Int)) := HZ.out m (by omega)
      have HV0 : Hid (val 10 qs = 10 ^ (m + 1) * (i.natAbs / 10 ^ (m + 1) / j.natAbs) + 10 ^ m * 0) := by show _ = _; rw [HV.out]; simp
      have HT0 : Hid (R' + 0 * j.natAbs = i.natAbs / 10 ^ m % 10 + 10 * (i.natAbs / 10 ^ (m + 1) % j.natAbs)) := by show _ = _; rw [HR'.out]; simp
      have HZm : Hid (∀ p, p < m → nth qs p = 0) := fun p hp => HZ.out p (by omega)
      clear hown3 HSM HV3 HL3 HRS HRR HV HZ hown hb3 hrw hbel hxr hcx hb hnx hlx hown4
      go_wp2_with fail
      go_loopw [7] (fun rv wi => ∃ (T R1 : Nat) (A' : Option Addr) (c' : Nat) (rs qs : List Nat), rv = .slice A' rs.length c' ∧ Own8 wi (w.heap.size + 1) A' c' rs ∧ Hid (rs = tens ((R1 : Nat) : Int)) ∧ Hid (R1 + T * j.natAbs = i.natAbs / 10 ^ m % 10 + 10 * (i.natAbs / 10 ^ (m + 1) % j.natAbs)) ∧ T ≤ 9 ∧
          Row8 wi w.heap.size la qs ∧ qs.length = la ∧ small 10 qs ∧ Hid (val 10 qs = 10 ^ (m + 1) * (i.natAbs / 10 ^ (m + 1) / j.natAbs) + 10 ^ m * T) ∧ Hid (nth qs m = (T : Int)) ∧ Hid (∀ p, p < m → nth qs p = 0) ∧ Below w.heap.size w wi) (fun _ wi => 10 - cellN wi w.heap.size m)
      case atStart => exact ⟨0, R', A3, c3, tens ((R' : Nat) : Int), qs, rfl, hown5, rfl, HT0, by omega, hrw3, hql, hqs, HV0, HZ3, HZm, hbel3⟩
      case round =>
        obtain ⟨T, R1, A4, c4, rs1, qs1, rfl, ho4, HRS, HT, hT9, hrw, hql1, hqs1, HV, HNT, HZ, hbel⟩ := hrel
        have hyr : Nums8 wr B (tens j) := hy.since hbel
        have hsz1 : w.heap.size < wr.heap.size := hrw.lt
        have hrl1 : (tens ((R1 : Nat) : Int)).length ≤ 1048576 := by
          obtain ⟨KK, hKK⟩ : ∃ KK : Nat, KK = 601 := ⟨_, rfl⟩
          have h0 : (tens ((R1 : Nat) : Int)).length ≤ KK := by
            rw [tens_eq]
            refine (digs_length_le (by decide) _ _).2 ?_
            have h3 : j.natAbs < 10 ^ (tens j).length := (digs_length_le (by decide) _ _).1 (by rw [tens_eq]; exact Nat.le_refl _)
            have h4 : 10 ^ ((tens j).length + 1) ≤ 10 ^ KK := Nat.pow_le_pow_right (by decide) (by omega)
            have h1 := Nat.mod_lt (i.natAbs / 10 ^ (m + 1)) hY
            have h2 : i.natAbs / 10 ^ m % 10 < 10 := Nat.mod_lt _ (by decide)
            have h5 := HT.out
            rw [Nat.pow_succ] at h4
            simp only [Int.natAbs_natCast]
            omega
          omega
        have hsz2 := rsizes_b A4 B c4 d ((R1 : Nat) : Int) j wr (by rw [← HRS.out]; exact ho4.nums) hyr hrl1 (by omega)
        rw [Int.natAbs_natCast, ← HRS.out] at hsz2
        by_cases hge : j.natAbs ≤ R1
        · have hcmp : ¬ cmpN R1 j.natAbs < 0 := by unfold cmpN; rw [if_neg (by omega)]; split <;> omega
          have hcmp' : 0 ≤ cmpN R1 j.natAbs := by omega
          have h9 := share_nine hY HT.out hge
          have hmin := fun w hx hy => rminusrow_any A4 B c4 d ((R1 : Nat) : Int) j ((R1 - j.natAbs : Nat) : Int) w hx hy hrl1 (by omega) (by simpa using hge) (by simp)
          rw [← HRS.out] at hmin
          have hc4 : Own8 wr (w.heap.size + 1) A4 c4 rs1 := ho4
          have HN4 := Lib.hid ho4.nums
          have HGE := Lib.hid hge
          clear hcmp hge hrl1
          go_wp2_with (go_at_call 58; refine hsz2.mono ?_; rintro e w5 ⟨rfl, hb5⟩; refine Hid.out ?_)
          refine Lib.hid ?_
          have hn5 := HN4.out.since hb5
          have hy5 := hyr.since hb5
          have hrw5 := hrw.below hb5 hsz1
          have hs5 := hb5.size
          have hbel5 := hbel.trans (hb5.mono (by omega))
          clear hsz2
          go_wp2_with (go_at_call 54; refine (hmin _ hn5 hy5).mono ?_; rintro e w6 ⟨A6, c6, rfl, ho6, hb6⟩; refine Hid.out ?_)
          refine Lib.hid ?_
          have hrw6 := hrw5.below hb6 (by omega)
          have hs6 := hb6.size
          have hbel6 := hbel5.trans (hb6.mono (by omega))
          have ho6' := ho6.mono (show w.heap.size + 1 ≤ _ by omega)
          have hcz := hrw6.cell (j := m) (by omega)
          have hfz := hrw6.frozen m
          have hnt := HNT.out
          rw [hnt] at hcz
          have hm0 : (0 : Int) ≤ (m : Int) := by omega
          have hT8 : (T : Int) + 1 < 256 := by omega
          have hlq : m < qs1.length := by omega
          have hw8 : IntKind.u8.wrap ((T : Int) + 1) = (T : Int) + 1 := wrap8 _ (by omega) hT8
          clear hnt hmin hn5 hy5 hrw5 hb5 hb6
          go_wp2_with fail
          go_roundw
          case rel => exact ⟨T + 1, R1 - j.natAbs, A6, c6, _, qs1.set m ((T : Int) + 1).toNat, rfl, ho6'.setBelow (by show w.heap.size < w.heap.size + 1; omega) _, rfl, by
              have := HT.out; have := HGE.out; show _ = _; rw [Nat.add_mul, Nat.one_mul]; omega, h9, hrw6.setInt _ (by omega) hlq, by rw [List.length_set]; exact hql1, small_set hqs1 _ _ (by omega), by
              have h1 := val_set (b := 10) qs1 m ((T : Int) + 1).toNat hlq
              have h2 : qs1.getD m 0 = T := by have := HNT.out; unfold nth at this; omega
              rw [h2, HV.out, show ((T : Int) + 1).toNat = T + 1 by omega] at h1
              show _ = _; rw [show ((T : Int) + 1).toNat = T + 1 by omega]; omega, by
              show _ = _; rw [nth_set _ _ _ hlq, if_pos rfl]; omega, fun p hp => by rw [nth_set _ _ _ hlq, if_neg (by omega)]; exact HZ.out p hp, hbel6.setCell (Nat.le_refl _) _⟩
          case measure =>
            have k1 := cellN_row (hrw6.setInt ((T : Int) + 1) (by omega) hlq) (m := m) (by omega)
            have k2 := cellN_row hrw (m := m) (by omega)
            have h2 : qs1.getD m 0 = T := by have := HNT.out; unfold nth at this; omega
            have h3 : (qs1.set m ((T : Int) + 1).toNat).getD m 0 = T + 1 := by simp [hlq]
            rw [k1, k2, h2, h3]; omega
        · have hcmp : cmpN R1 j.natAbs = -1 := by unfold cmpN; rw [if_pos (by omega)]
          rw [hcmp] at hsz2
          obtain ⟨e1, e2⟩ := share_end hY HT.out (by omega)
          have HE1 := Lib.hid e1; have HE2 := Lib.hid e2
          clear hcmp hge e1 e2 hrl1
          go_wp2_with (go_at_call 58; refine hsz2.mono ?_; rintro e w5 ⟨rfl, hb5⟩)
          go_roundw
          case rel => exact ⟨m, R1, A4, c4, rs1, qs1, by omega, rfl, rfl, ho4.below hb5 (Nat.le_refl _), HRS, HE1.out, hrw.below hb5 hsz1, hql1, hqs1, by
              show _ = _; rw [HV.out, ← HE2.out, Nat.pow_succ, Nat.mul_assoc, ← Nat.mul_add], HZ, hbel.trans (hb5.mono (by omega))⟩
          case measure => simp [intOf]
end Go.Proofs.YteggjfmcpodepaaDoor
namespace Go.Proofs.YteggjfmcpodepaaDoor
open Go.RowKit

/-- What a call leaves that answers two numbers in digits. -/
def RetTwoNum (W : World) (q r : Int) (e : Ending) (w' : World) : Prop :=
  ∃ A5 c5 A6 c6, e = .returned (.tuple #[.agg #[.bool (decide (q < 0)), .slice A5 (tens q).length c5], .agg #[.bool (decide (r < 0)), .slice A6 (tens r).length c6]]) ∧ Own8 w' W.heap.size A5 c5 (tens q) ∧ Own8 w' W.heap.size A6 c6 (tens r) ∧ Below W.heap.size W w'
theorem fin_twonum {w wz : World} {q r : Int} {A5 A6 : Option Addr} {c5 c6 base g0 g1 : Nat} (h5 : Own8 wz base A5 c5 (tens q)) (h6 : Own8 wz base A6 c6 (tens r)) (L : Below w.heap.size w wz) (k0 : w.heap.size ≤ g0) (k1 : w.heap.size ≤ g1) (b0 : g0 < base) (b1 : g1 < base) (u v x y : Value) :
    RetTwoNum w q r (.returned (.tuple #[.agg #[.bool (decide (q < 0)), .slice A5 (tens q).length c5], .agg #[.bool (decide (r < 0)), .slice A6 (tens r).length c6]])) ((((wz.setCell ⟨g0, 0, none⟩ u).setCell ⟨g0, 1, none⟩ v).setCell ⟨g1, 0, none⟩ x).setCell ⟨g1, 1, none⟩ y) :=
  ⟨A5, c5, A6, c6, rfl, ((((h5.setBelow b0 _).setBelow b0 _).setBelow b1 _).setBelow b1 _).mono (by omega), ((((h6.setBelow b0 _).setBelow b0 _).setBelow b1 _).setBelow b1 _).mono (by omega),
    (((L.setCell k0 _).setCell k0 _).setCell k1 _).setCell k1 _⟩
def Four (w : World) (bi bj : Bool) (A B : Option Addr) (c d : Nat) (i j : Int) (b : World) : Prop :=
  Three w bi bj A B c d i j b ∧ (b.cell? ⟨w.heap.size + 1 + 1 + 1, 0, none⟩ = some (.bool false) ∧ b.cell? ⟨w.heap.size + 1 + 1 + 1, 1, none⟩ = some (.slice none 0 0) ∧ b.frozen? ⟨w.heap.size + 1 + 1 + 1, 0, none⟩ = false ∧ b.frozen? ⟨w.heap.size + 1 + 1 + 1, 1, none⟩ = false)
def four (w : World) (bi bj : Bool) (A B : Option Addr) (c d : Nat) (i j : Int) : World := (three w bi bj A B c d i j).alloc (.cells #[.bool false, .slice none 0 0] 33)
theorem four_below (w : World) (bi bj : Bool) (A B : Option Addr) (c d : Nat) (i j : Int) : Below w.heap.size w (four w bi bj A B c d i j) := (three_below w bi bj A B c d i j).alloc (three_below w bi bj A B c d i j).size _
theorem four_size (w : World) (bi bj : Bool) (A B : Option Addr) (c d : Nat) (i j : Int) : (four w bi bj A B c d i j).heap.size = w.heap.size + 4 := by simp [four, three]
theorem four_since {w b : World} {bi bj : Bool} {A B : Option Addr} {c d : Nat} {i j : Int} (hx : Nums8 w A (tens i)) (hy : Nums8 w B (tens j)) (hb : Below (four w bi bj A B c d i j).heap.size (four w bi bj A B c d i j) b) : Four w bi bj A B c d i j b := by
  have k : Below (three w bi bj A B c d i j).heap.size (three w bi bj A B c d i j) (four w bi bj A B c d i j) := (Below.refl _ _).alloc (Nat.le_refl _) _
  have Z : Blk (four w bi bj A B c d i j) (w.heap.size + 1 + 1 + 1) 33 #[.bool false, .slice none 0 0] := Blk.newAt (by simp [three])
  exact ⟨three_since hx hy (below_on k hb), (Z.below hb Z.lt).two⟩
theorem tens_one : tens 1 = [1] := by rw [tens_eq]; rfl
theorem tens_pos_iff (n : Int) : 0 < (tens n).length ↔ n ≠ 0 := by
  constructor
  · rintro h rfl; rw [tens_zero] at h; simp at h
  · intro h; rw [tens_eq]; exact digs_pos (by decide) (by omega)
theorem rplus_one (A B : Option Addr) (c : Nat) (q0 q1 : Int) (w : World) (hx : Nums8 w A (tens q0)) (hy : Nums8 w B [1]) (hl : (tens q0).length ≤ 600) (hq : q0.natAbs + 1 = q1.natAbs) :
    Calls Tryd.prog 53 #[.slice A (tens q0).length c, .slice B 1 1] w (RetTens w q1) := by
  have h := rplusrow_any A B c 1 q0 1 q1 w hx (by rw [tens_one]; exact hy) (by omega) (by rw [tens_one]; decide) hq
  rw [tens_one] at h
  exact h
section
variable (A B : Option Addr) (c d : Nat) (i j : Int) (w : World)
set_option maxRecDepth 100000
set_option maxHeartbeats 2000000 in
theorem rdiv_same (bi bj : Bool) (hbb : bi = bj) (hi : decide (i < 0) = bi) (hj : decide (j < 0) = bj) (hx : Nums8 w A (tens i)) (hy : Nums8 w B (tens j)) (hl : (tens i).length ≤ 600) (hl' : (tens j).length ≤ 600) (hj0 : j ≠ 0) :
    Calls Tryd.prog 17 #[.agg #[.bool bi, .slice A (tens i).length c], .agg #[.bool bj, .slice B (tens j).length d]] w (RetTwoNum w (dq bi bj i.natAbs j.natAbs) (dr bi bj i.natAbs j.natAbs)) := by
  obtain ⟨QN, hQN⟩ : ∃ QN : Nat, QN = i.natAbs / j.natAbs := ⟨_, rfl⟩
  obtain ⟨RN, hRN⟩ : ∃ RN : Nat, RN = i.natAbs % j.natAbs := ⟨_, rfl⟩
  obtain ⟨q0, hq0⟩ : ∃ q0 : Int, q0 = (QN : Int) := ⟨_, rfl⟩
  obtain ⟨r0, hr0⟩ : ∃ r0 : Int, r0 = (RN : Int) := ⟨_, rfl⟩
  have hY : 0 < j.natAbs := by omega
  have hrY : RN < j.natAbs := by rw [hRN]; exact Nat.mod_lt _ hY
  have hQX : QN ≤ i.natAbs := by rw [hQN]; exact Nat.div_le_self _ _
  have hsh := fun w hx hy => rshares_any A B c d i j q0 r0 w hx hy hl hl' hj0 (by rw [hq0, Int.natAbs_natCast, hQN]) (by rw [hr0, Int.natAbs_natCast, hRN])
  have hqn : 0 ≤ q0 := by omega
  have hrn : 0 ≤ r0 := by omega
  have hdq : dq bi bj i.natAbs j.natAbs = q0 := by unfold dq; rw [if_pos hbb, ← hQN, hq0]
  have hdr : dr bi bj i.natAbs j.natAbs = sgn bi RN := by unfold dr; rw [if_pos hbb, hRN]
  have HTQ : Hid (tens (dq bi bj i.natAbs j.natAbs) = tens q0) := by show _ = _; rw [hdq]
  have HTR : Hid (tens (dr bi bj i.natAbs j.natAbs) = tens r0) := by show _ = _; rw [hdr]; exact tens_congr (by rw [sgn_natAbs, hr0, Int.natAbs_natCast])
  have HQB : Hid (decide (dq bi bj i.natAbs j.natAbs < 0) = false) := by show _ = _; rw [hdq]; simp; omega
  have hrb : decide (dr bi bj i.natAbs j.natAbs < 0) = (bi && decide (0 < (tens r0).length)) := by
    rw [hdr, sgn_neg]
    congr 1
    by_cases h0 : RN = 0
    · rw [decide_eq_false (by omega), decide_eq_false]; rw [tens_pos_iff]; omega
    · rw [decide_eq_true h0, decide_eq_true]; rw [tens_pos_iff]; omega
  have HRB0 := Lib.hid hrb
  have hbb2 : (bi == bj) = true := by simpa using hbb
  clear hdq hdr hrb hq0 hr0 hi hj hrY hbb hQN hRN hQX
  obtain ⟨W0, hW0⟩ : ∃ W0, W0 = four w bi bj A B c d i j := ⟨_, rfl⟩
  have LW : Below w.heap.size w W0 := by rw [hW0]; exact four_below ..
  have HWs : Hid (W0.heap.size = w.heap.size + 4) := by rw [hW0]; exact four_size ..
  have HF : Hid (∀ b1, Below W0.heap.size W0 b1 → Four w bi bj A B c d i j b1) := fun b1 hb => by rw [hW0] at hb; exact four_since hx hy hb
  clear hx hy
  unfold four three at hW0
  have L : Below W0.heap.size W0 W0 := Below.refl _ _
  obtain ⟨⟨⟨x0, x1⟩, ⟨y0, y1⟩, ⟨z0, z1, z2, z3⟩, hx, hy⟩, t0, t1, t2, t3⟩ := HF.out _ L
  go_enter Tryd.func17, Tryd.ntmps17
  go_upto_region 1 with fail
  rw [← hW0]
  clear hW0
  go_wp2_with (go_at_call 52; refine (hsh _ hx hy).mono ?_; rintro e w1 ⟨A1, c1, A2, c2, rfl, ho1, ho2, hb⟩; have ho1 := ho1.mono (show W0.heap.size ≤ _ from L.size); have ho2 := ho2.mono (show W0.heap.size ≤ _ from L.size); have L := below_on L hb; clear x0 x1 y0 y1 z0 z1 z2 z3 hx hy t0 t1 t2 t3 hb; obtain ⟨⟨⟨x0, x1⟩, ⟨y0, y1⟩, ⟨z0, z1, z2, z3⟩, hx, hy⟩, t0, t1, t2, t3⟩ := HF.out _ L; refine Hid.out ?_)
  refine Lib.hid ?_
  clear hsh
  cases bj
  · have HRB : Hid (decide (dr bi false i.natAbs j.natAbs < 0) = false) := by have h1 := HRB0.out; have h2 : bi = false := (by simpa using hbb2); show _ = _; rw [h1, h2, Bool.false_and]
    go_wp2_with fail
    refine bodyPost_ret (v := .tuple #[.agg #[.bool false, .slice A1 (tens q0).length c1], .agg #[.bool false, .slice A2 (tens r0).length c2]]) (by simp [results, Tryd.results17, go_sem, z0, z1, t0, t1]) rfl ?_
    have h2 := HWs.out
    have h3 := fin_twonum (w := w) (q := dq bi false i.natAbs j.natAbs) (r := dr bi false i.natAbs j.natAbs) (g0 := w.heap.size + 1 + 1) (g1 := w.heap.size + 1 + 1 + 1) (by rw [HTQ.out]; exact ho1) (by rw [HTR.out]; exact ho2) (LW.trans (L.mono LW.size)) (by omega) (by omega) (by omega) (by omega) (.bool false) (.slice A1 (tens q0).length c1) (.bool false) (.slice A2 (tens r0).length c2)
    rw [HTQ.out, HTR.out, HQB.out, HRB.out] at h3
    exact h3
  · by_cases h0 : 0 < (tens r0).length
    · have HRB : Hid (decide (dr bi true i.natAbs j.natAbs < 0) = true) := by have h1 := HRB0.out; have h2 : bi = true := (by simpa using hbb2); show _ = _; rw [h1, h2, Bool.true_and]; simpa using h0
      go_wp2_with fail
      refine bodyPost_ret (v := .tuple #[.agg #[.bool false, .slice A1 (tens q0).length c1], .agg #[.bool true, .slice A2 (tens r0).length c2]]) (by simp [results, Tryd.results17, go_sem, z0, z1, t0, t1]) rfl ?_
      have h2 := HWs.out
      have h3 := fin_twonum (w := w) (q := dq bi true i.natAbs j.natAbs) (r := dr bi true i.natAbs j.natAbs) (g0 := w.heap.size + 1 + 1) (g1 := w.heap.size + 1 + 1 + 1) (by rw [HTQ.out]; exact ho1) (by rw [HTR.out]; exact ho2) (LW.trans (L.mono LW.size)) (by omega) (by omega) (by omega) (by omega) (.bool false) (.slice A1 (tens q0).length c1) (.bool true) (.slice A2 (tens r0).length c2)
      rw [HTQ.out, HTR.out, HQB.out, HRB.out] at h3
      exact h3
    · have HRB : Hid (decide (dr bi true i.natAbs j.natAbs < 0) = false) := by have h1 := HRB0.out; have h2 : bi = true := (by simpa using hbb2); show _ = _; rw [h1, h2, Bool.true_and]; simpa using h0
      go_wp2_with fail
      refine bodyPost_ret (v := .tuple #[.agg #[.bool false, .slice A1 (tens q0).length c1], .agg #[.bool false, .slice A2 (tens r0).length c2]]) (by simp [results, Tryd.results17, go_sem, z0, z1, t0, t1]) rfl ?_
      have h2 := HWs.out
      have h3 := fin_twonum (w := w) (q := dq bi true i.natAbs j.natAbs) (r := dr bi true i.natAbs j.natAbs) (g0 := w.heap.size + 1 + 1) (g1 := w.heap.size + 1 + 1 + 1) (by rw [HTQ.out]; exact ho1) (by rw [HTR.out]; exact ho2) (LW.trans (L.mono LW.size)) (by omega) (by omega) (by omega) (by omega) (.bool false) (.slice A1 (tens q0).length c1) (.bool false) (.slice A2 (tens r0).length c2)
      rw [HTQ.out, HTR.out, HQB.out, HRB.out] at h3
      exact h3
set_option maxHeartbeats 2000000 in
theorem rdiv_exact (bi bj : Bool) (hbb : bi ≠ bj) (hz : i.natAbs % j.natAbs = 0) (hi : decide (i < 0) = bi) (hj : decide (j < 0) = bj) (hx : Nums8 w A (tens i)) (hy : Nums8 w B (tens j)) (hl : (tens i).length ≤ 600) (hl' : (tens j).length ≤ 600) (hj0 : j ≠ 0) :
    Calls Tryd.prog 17 #[.agg #[.bool bi, .slice A (tens i).length c], .agg #[.bool bj, .slice B (tens j).length d]] w (RetTwoNum w (dq bi bj i.natAbs j.natAbs) (dr bi bj i.natAbs j.natAbs)) := by
  obtain ⟨QN, hQN⟩ : ∃ QN : Nat, QN = i.natAbs / j.natAbs := ⟨_, rfl⟩
  obtain ⟨RN, hRN⟩ : ∃ RN : Nat, RN = i.natAbs % j.natAbs := ⟨_, rfl⟩
  obtain ⟨q0, hq0⟩ : ∃ q0 : Int, q0 = (QN : Int) := ⟨_, rfl⟩
  obtain ⟨r0, hr0⟩ : ∃ r0 : Int, r0 = (RN : Int) := ⟨_, rfl⟩
  have hY : 0 < j.natAbs := by omega
  have hrY : RN < j.natAbs := by rw [hRN]; exact Nat.mod_lt _ hY
  have hQX : QN ≤ i.natAbs := by rw [hQN]; exact Nat.div_le_self _ _
  have hsh := fun w hx hy => rshares_any A B c d i j q0 r0 w hx hy hl hl' hj0 (by rw [hq0, Int.natAbs_natCast, hQN]) (by rw [hr0, Int.natAbs_natCast, hRN])
  have hqn : 0 ≤ q0 := by omega
  have hrn : 0 ≤ r0 := by omega
  have hdq : dq bi bj i.natAbs j.natAbs = -q0 := by unfold dq; rw [if_neg hbb, if_pos hz, ← hQN, hq0]
  have hdr : dr bi bj i.natAbs j.natAbs = 0 := by unfold dr; rw [if_neg hbb, if_pos hz]
  have hr00 : r0 = 0 := by rw [hr0, hRN, hz]; rfl
  have HTQ : Hid (tens (dq bi bj i.natAbs j.natAbs) = tens q0) := by show _ = _; rw [hdq]; exact tens_congr (by omega)
  have HTR : Hid (tens (dr bi bj i.natAbs j.natAbs) = tens r0) := by show _ = _; rw [hdr, hr00]
  have hqb : decide (dq bi bj i.natAbs j.natAbs < 0) = decide (0 < (tens q0).length) := by
    rw [hdq]
    by_cases h0 : q0 = 0
    · rw [decide_eq_false (by omega), decide_eq_false]; rw [tens_pos_iff]; omega
    · rw [decide_eq_true (by omega), decide_eq_true]; rw [tens_pos_iff]; omega
  have HQB0 := Lib.hid hqb
  have HRB : Hid (decide (dr bi bj i.natAbs j.natAbs < 0) = false) := by show _ = _; rw [hdr]; rfl
  have hbb2 : (bi == bj) = false := by simpa using hbb
  have hlen0 : ¬ 0 < (tens r0).length := by rw [tens_pos_iff]; omega
  clear hdq hdr hqb hq0 hr0 hi hj hrY hbb hr00 hz hQN hRN hQX
  obtain ⟨W0, hW0⟩ : ∃ W0, W0 = four w bi bj A B c d i j := ⟨_, rfl⟩
  have LW : Below w.heap.size w W0 := by rw [hW0]; exact four_below ..
  have HWs : Hid (W0.heap.size = w.heap.size + 4) := by rw [hW0]; exact four_size ..
  have HF : Hid (∀ b1, Below W0.heap.size W0 b1 → Four w bi bj A B c d i j b1) := fun b1 hb => by rw [hW0] at hb; exact four_since hx hy hb
  clear hx hy
  unfold four three at hW0
  have L : Below W0.heap.size W0 W0 := Below.refl _ _
  obtain ⟨⟨⟨x0, x1⟩, ⟨y0, y1⟩, ⟨z0, z1, z2, z3⟩, hx, hy⟩, t0, t1, t2, t3⟩ := HF.out _ L
  go_enter Tryd.func17, Tryd.ntmps17
  go_upto_region 1 with fail
  rw [← hW0]
  clear hW0
  go_wp2_with (go_at_call 52; refine (hsh _ hx hy).mono ?_; rintro e w1 ⟨A1, c1, A2, c2, rfl, ho1, ho2, hb⟩; have ho1 := ho1.mono (show W0.heap.size ≤ _ from L.size); have ho2 := ho2.mono (show W0.heap.size ≤ _ from L.size); have L := below_on L hb; clear x0 x1 y0 y1 z0 z1 z2 z3 hx hy t0 t1 t2 t3 hb; obtain ⟨⟨⟨x0, x1⟩, ⟨y0, y1⟩, ⟨z0, z1, z2, z3⟩, hx, hy⟩, t0, t1, t2, t3⟩ := HF.out _ L; refine Hid.out ?_)
  refine Lib.hid ?_
  clear hsh
  by_cases h0 : 0 < (tens q0).length
  · have HQB : Hid (decide (dq bi bj i.natAbs j.natAbs < 0) = true) := by have h1 := HQB0.out; show _ = _; rw [h1]; simpa using h0
    cases bj
    · go_wp2_with fail
      refine bodyPost_ret (v := .tuple #[.agg #[.bool true, .slice A1 (tens q0).length c1], .agg #[.bool false, .slice A2 (tens r0).length c2]]) (by simp [results, Tryd.results17, go_sem, z0, z1, t0, t1]) rfl ?_
      have h2 := HWs.out
      have h3 := fin_twonum (w := w) (q := dq bi false i.natAbs j.natAbs) (r := dr bi false i.natAbs j.natAbs) (g0 := w.heap.size + 1 + 1) (g1 := w.heap.size + 1 + 1 + 1) (by rw [HTQ.out]; exact ho1) (by rw [HTR.out]; exact ho2) (LW.trans (L.mono LW.size)) (by omega) (by omega) (by omega) (by omega) (.bool true) (.slice A1 (tens q0).length c1) (.bool false) (.slice A2 (tens r0).length c2)
      rw [HTQ.out, HTR.out, HQB.out, HRB.out] at h3
      exact h3
    · go_wp2_with fail
      refine bodyPost_ret (v := .tuple #[.agg #[.bool true, .slice A1 (tens q0).length c1], .agg #[.bool false, .slice A2 (tens r0).length c2]]) (by simp [results, Tryd.results17, go_sem, z0, z1, t0, t1]) rfl ?_
      have h2 := HWs.out
      have h3 := fin_twonum (w := w) (q := dq bi true i.natAbs j.natAbs) (r := dr bi true i.natAbs j.natAbs) (g0 := w.heap.size + 1 + 1) (g1 := w.heap.size + 1 + 1 + 1) (by rw [HTQ.out]; exact ho1) (by rw [HTR.out]; exact ho2) (LW.trans (L.mono LW.size)) (by omega) (by omega) (by omega) (by omega) (.bool true) (.slice A1 (tens q0).length c1) (.bool false) (.slice A2 (tens r0).length c2)
      rw [HTQ.out, HTR.out, HQB.out, HRB.out] at h3
      exact h3
  · have HQB : Hid (decide (dq bi bj i.natAbs j.natAbs < 0) = false) := by have h1 := HQB0.out; show _ = _; rw [h1]; simpa using h0
    cases bj
    · go_wp2_with fail
      refine bodyPost_ret (v := .tuple #[.agg #[.bool false, .slice A1 (tens q0).length c1], .agg #[.bool false, .slice A2 (tens r0).length c2]]) (by simp [results, Tryd.results17, go_sem, z0, z1, t0, t1]) rfl ?_
      have h2 := HWs.out
      have h3 := fin_twonum (w := w) (q := dq bi false i.natAbs j.natAbs) (r := dr bi false i.natAbs j.natAbs) (g0 := w.heap.size + 1 + 1) (g1 := w.heap.size + 1 + 1 + 1) (by rw [HTQ.out]; exact ho1) (by rw [HTR.out]; exact ho2) (LW.trans (L.mono LW.size)) (by omega) (by omega) (by omega) (by omega) (.bool false) (.slice A1 (tens q0).length c1) (.bool false) (.slice A2 (tens r0).length c2)
      rw [HTQ.out, HTR.out, HQB.out, HRB.out] at h3
      exact h3
    · go_wp2_with fail
      refine bodyPost_ret (v := .tuple #[.agg #[.bool false, .slice A1 (tens q0).length c1], .agg #[.bool false, .slice A2 (tens r0).length c2]]) (by simp [results, Tryd.results17, go_sem, z0, z1, t0, t1]) rfl ?_
      have h2 := HWs.out
      have h3 := fin_twonum (w := w) (q := dq bi true i.natAbs j.natAbs) (r := dr bi true i.natAbs j.natAbs) (g0 := w.heap.size + 1 + 1) (g1 := w.heap.size + 1 + 1 + 1) (by rw [HTQ.out]; exact ho1) (by rw [HTR.out]; exact ho2) (LW.trans (L.mono LW.size)) (by omega) (by omega) (by omega) (by omega) (.bool false) (.slice A1 (tens q0).length c1) (.bool false) (.slice A2 (tens r0).length c2)
      rw [HTQ.out, HTR.out, HQB.out, HRB.out] at h3
      exact h3
set_option maxHeartbeats 2000000 in
theorem rdiv_rest (bi bj : Bool) (hbb : bi ≠ bj) (hz : i.natAbs % j.natAbs ≠ 0) (hi : decide (i < 0) = bi) (hj : decide (j < 0) = bj) (hx : Nums8 w A (tens i)) (hy : Nums8 w B (tens j)) (hl : (tens i).length ≤ 600) (hl' : (tens j).length ≤ 600) (hj0 : j ≠ 0) :
    Calls Tryd.prog 17 #[.agg #[.bool bi, .slice A (tens i).length c], .agg #[.bool bj, .slice B (tens j).length d]] w (RetTwoNum w (dq bi bj i.natAbs j.natAbs) (dr bi bj i.natAbs j.natAbs)) := by
  obtain ⟨QN, hQN⟩ : ∃ QN : Nat, QN = i.natAbs / j.natAbs := ⟨_, rfl⟩
  obtain ⟨RN, hRN⟩ : ∃ RN : Nat, RN = i.natAbs % j.natAbs := ⟨_, rfl⟩
  obtain ⟨q0, hq0⟩ : ∃ q0 : Int, q0 = (QN : Int) := ⟨_, rfl⟩
  obtain ⟨r0, hr0⟩ : ∃ r0 : Int, r0 = (RN : Int) := ⟨_, rfl⟩
  have hY : 0 < j.natAbs := by omega
  have hrY : RN < j.natAbs := by rw [hRN]; exact Nat.mod_lt _ hY
  have hQX : QN ≤ i.natAbs := by rw [hQN]; exact Nat.div_le_self _ _
  have hsh := fun w hx hy => rshares_any A B c d i j q0 r0 w hx hy hl hl' hj0 (by rw [hq0, Int.natAbs_natCast, hQN]) (by rw [hr0, Int.natAbs_natCast, hRN])
  have hqn : 0 ≤ q0 := by omega
  have hrn : 0 ≤ r0 := by omega
  have hdq : dq bi bj i.natAbs j.natAbs = -(q0 + 1) := by unfold dq; rw [if_neg hbb, if_neg hz, ← hQN, hq0]; omega
  have hdr : dr bi bj i.natAbs j.natAbs = sgn bj (j.natAbs - RN) := by unfold dr; rw [if_neg hbb, if_neg hz, hRN]
  obtain ⟨q1, hq1⟩ : ∃ q1 : Int, q1 = q0 + 1 := ⟨_, rfl⟩
  obtain ⟨r1, hr1⟩ : ∃ r1 : Int, r1 = ((j.natAbs - RN : Nat) : Int) := ⟨_, rfl⟩
  have HTQ : Hid (tens (dq bi bj i.natAbs j.natAbs) = tens q1) := by show _ = _; rw [hdq, hq1]; exact tens_congr (by omega)
  have HTR : Hid (tens (dr bi bj i.natAbs j.natAbs) = tens r1) := by show _ = _; rw [hdr, hr1]; exact tens_congr (by rw [sgn_natAbs, Int.natAbs_natCast])
  have HQB : Hid (decide (dq bi bj i.natAbs j.natAbs < 0) = true) := by show _ = _; rw [hdq]; simp; omega
  have HRB : Hid (decide (dr bi bj i.natAbs j.natAbs < 0) = bj) := by
    show _ = _
    rw [hdr, sgn_neg, decide_eq_true (by omega), Bool.and_true]
  have hbb2 : (bi == bj) = false := by simpa using hbb
  have hlen0 : 0 < (tens r0).length := by rw [tens_pos_iff]; omega
  have hlen1 : 0 < (tens q1).length := by rw [tens_pos_iff]; omega
  have hlen2 : 0 < (tens r1).length := by rw [tens_pos_iff]; omega
  obtain ⟨KK, hKK⟩ : ∃ KK : Nat, KK = 600 := ⟨_, rfl⟩
  have hlq : (tens q0).length ≤ KK := by
    rw [tens_eq]
    refine (digs_length_le (by decide) _ _).2 ?_
    have h3 : i.natAbs < 10 ^ (tens i).length := (digs_length_le (by decide) _ _).1 (by rw [tens_eq]; exact Nat.le_refl _)
    have h4 : 10 ^ (tens i).length ≤ 10 ^ KK := Nat.pow_le_pow_right (by decide) (by omega)
    omega
  have hlr : (tens r0).length ≤ KK := by
    rw [tens_eq]
    refine (digs_length_le (by decide) _ _).2 ?_
    have h3 : j.natAbs < 10 ^ (tens j).length := (digs_length_le (by decide) _ _).1 (by rw [tens_eq]; exact Nat.le_refl _)
    have h4 : 10 ^ (tens j).length ≤ 10 ^ KK := Nat.pow_le_pow_right (by decide) (by omega)
    omega
  have hplus := fun A B c w hx hy => rplus_one A B c q0 q1 w hx hy (by omega) (by omega)
  have hminus := fun A c w hx hy => rminusrow_any B A d c j r0 r1 w hx hy (by omega) (by omega) (by omega) (by omega)
  clear hdq hdr hq0 hr0 hi hj hrY hbb hq1 hr1 hz hlq hlr hKK hQN hRN hQX
  obtain ⟨W0, hW0⟩ : ∃ W0, W0 = four w bi bj A B c d i j := ⟨_, rfl⟩
  have LW : Below w.heap.size w W0 := by rw [hW0]; exact four_below ..
  have HWs : Hid (W0.heap.size = w.heap.size + 4) := by rw [hW0]; exact four_size ..
  have HF : Hid (∀ b1, Below W0.heap.size W0 b1 → Four w bi bj A B c d i j b1) := fun b1 hb => by rw [hW0] at hb; exact four_since hx hy hb
  clear hx hy
  unfold four three at hW0
  have L : Below W0.heap.size W0 W0 := Below.refl _ _
  obtain ⟨⟨⟨x0, x1⟩, ⟨y0, y1⟩, ⟨z0, z1, z2, z3⟩, hx, hy⟩, t0, t1, t2, t3⟩ := HF.out _ L
  go_enter Tryd.func17, Tryd.ntmps17
  go_upto_region 1 with fail
  rw [← hW0]
  clear hW0
  go_wp2_with (go_at_call 52; refine (hsh _ hx hy).mono ?_; rintro e w1 ⟨A1, c1, A2, c2, rfl, ho1, ho2, hb⟩; have ho1 := ho1.mono (show W0.heap.size ≤ _ from L.size); have ho2 := ho2.mono (show W0.heap.size ≤ _ from L.size); have L := below_on L hb; clear x0 x1 y0 y1 z0 z1 z2 z3 hx hy t0 t1 t2 t3 hb; obtain ⟨⟨⟨x0, x1⟩, ⟨y0, y1⟩, ⟨z0, z1, z2, z3⟩, hx, hy⟩, t0, t1, t2, t3⟩ := HF.out _ L; refine Hid.out ?_)
  refine Lib.hid ?_
  clear hsh
  have hn1 : Hid (∀ w : World, Nums8 (w.alloc (.cells #[.int .u8 1] 5)) (some ⟨w.heap.size, 0, none⟩) [1]) := fun w => (Own8.one w 1 1 rfl (by decide)).nums
  go_wp2_with (go_at_call 53; refine (hplus A1 _ c1 _ (ho1.nums.alloc _) (hn1.out _)).mono ?_; rintro e w2 ⟨A3, c3, rfl, ho3, hb⟩; have k1 := L.alloc L.size (.cells #[.int .u8 1] 5); have ho3 := ho3.mono (show W0.heap.size ≤ _ from k1.size); have ho2 := (ho2.alloc (.cells #[.int .u8 1] 5)).below hb (Nat.le_refl _); have L := below_on k1 hb; clear x0 x1 y0 y1 z0 z1 z2 z3 hx hy t0 t1 t2 t3 hb k1; obtain ⟨⟨⟨x0, x1⟩, ⟨y0, y1⟩, ⟨z0, z1, z2, z3⟩, hx, hy⟩, t0, t1, t2, t3⟩ := HF.out _ L; refine Hid.out ?_)
  refine Lib.hid ?_
  go_wp2_with (go_at_call 54; refine (hminus A2 c2 _ hy ho2.nums).mono ?_; rintro e w3 ⟨A4, c4, rfl, ho4, hb⟩; have ho4 := ho4.mono (show W0.heap.size ≤ _ from L.size); have ho3 := ho3.below hb (Nat.le_refl _); have L := below_on L hb; clear x0 x1 y0 y1 z0 z1 z2 z3 hx hy t0 t1 t2 t3 hb; obtain ⟨⟨⟨x0, x1⟩, ⟨y0, y1⟩, ⟨z0, z1, z2, z3⟩, hx, hy⟩, t0, t1, t2, t3⟩ := HF.out _ L; refine Hid.out ?_)
  refine Lib.hid ?_
  clear hplus hminus
  cases bj
  · go_wp2_with fail
    refine bodyPost_ret (v := .tuple #[.agg #[.bool true, .slice A3 (tens q1).length c3], .agg #[.bool false, .slice A4 (tens r1).length c4]]) (by simp [results, Tryd.results17, go_sem, z0, z1, t0, t1]) rfl ?_
    have h2 := HWs.out
    have h3 := fin_twonum (w := w) (q := dq bi false i.natAbs j.natAbs) (r := dr bi false i.natAbs j.natAbs) (g0 := w.heap.size + 1 + 1) (g1 := w.heap.size + 1 + 1 + 1) (by rw [HTQ.out]; exact ho3) (by rw [HTR.out]; exact ho4) (LW.trans (L.mono LW.size)) (by omega) (by omega) (by omega) (by omega) (.bool true) (.slice A3 (tens q1).length c3) (.bool false) (.slice A4 (tens r1).length c4)
    rw [HTQ.out, HTR.out, HQB.out, HRB.out] at h3
    exact h3
  · go_wp2_with fail
    refine bodyPost_ret (v := .tuple #[.agg #[.bool true, .slice A3 (tens q1).length c3], .agg #[.bool true, .slice A4 (tens r1).length c4]]) (by simp [results, Tryd.results17, go_sem, z0, z1, t0, t1]) rfl ?_
    have h2 := HWs.out
    have h3 := fin_twonum (w := w) (q := dq bi true i.natAbs j.natAbs) (r := dr bi true i.natAbs j.natAbs) (g0 := w.heap.size + 1 + 1) (g1 := w.heap.size + 1 + 1 + 1) (by rw [HTQ.out]; exact ho3) (by rw [HTR.out]; exact ho4) (LW.trans (L.mono LW.size)) (by omega) (by omega) (by omega) (by omega) (.bool true) (.slice A3 (tens q1).length c3) (.bool true) (.slice A4 (tens r1).length c4)
    rw [HTQ.out, HTR.out, HQB.out, HRB.out] at h3
    exact h3
theorem rdivmod_any (hx : Nums8 w A (tens i)) (hy : Nums8 w B (tens j)) (hl : (tens i).length ≤ 600) (hl' : (tens j).length ≤ 600) (hj0 : j ≠ 0) :
    Calls Tryd.prog 17 #[.agg #[.bool (decide (i < 0)), .slice A (tens i).length c], .agg #[.bool (decide (j < 0)), .slice B (tens j).length d]] w (RetTwoNum w (dq (decide (i < 0)) (decide (j < 0)) i.natAbs j.natAbs) (dr (decide (i < 0)) (decide (j < 0)) i.natAbs j.natAbs)) := by
  by_cases h : decide (i < 0) = decide (j < 0)
  · exact rdiv_same A B c d i j w _ _ h rfl rfl hx hy hl hl' hj0
  · by_cases hz : i.natAbs % j.natAbs = 0
    · exact rdiv_exact A B c d i j w _ _ h hz rfl rfl hx hy hl hl' hj0
    · exact rdiv_rest A B c d i j w _ _ h hz rfl rfl hx hy hl hl' hj0
end
end Go.Proofs.YteggjfmcpodepaaDoor
namespace Go.Proofs.YteggjfmcpodepaaDoor
open Go.RowKit
/-- What a call leaves that answers two noughts. -/
def RetTwoNought (W : World) (f : Int) (e : Ending) (w' : World) : Prop :=
  ∃ A c B d, e = .returned (.tuple #[.agg #[.bool false, .slice A 0 c], .agg #[.bool false, .slice B 0 d], .int .i64 f]) ∧ Nums w' A [] ∧ Nums w' B [] ∧ Below W.heap.size W w'
theorem retTwo_nought {W w' : World} {f : Int} {e : Ending} (h : RetTwo W 0 0 f e w') : RetTwoNought W f e w' := by
  obtain ⟨A, c, B, d, rfl, h1, h2, hb, _⟩ := h
  rw [limbs_zero] at h1 h2 ⊢
  exact ⟨A, c, B, d, rfl, h1.nums, h2.nums, hb⟩
/-- The same as RetTwo, without the word that the two are apart. -/
def RetTwo4 (W : World) (i j : Int) (f : Int) (e : Ending) (w' : World) : Prop :=
  ∃ A c B d, e = .returned (.tuple #[.agg #[.bool (decide (i < 0)), .slice A (limbs i).length c], .agg #[.bool (decide (j < 0)), .slice B (limbs j).length d], .int .i64 f]) ∧ Own w' W.heap.size A c (limbs i) ∧ Own w' W.heap.size B d (limbs j) ∧ Below W.heap.size W w'
theorem retTwo_four {W w' : World} {i j f : Int} {e : Ending} (h : RetTwo W i j f e w') : RetTwo4 W i j f e w' := by
  obtain ⟨A, c, B, d, he, h1, h2, hb, _⟩ := h
  exact ⟨A, c, B, d, he, h1, h2, hb⟩
theorem dq_lt {n1 n2 : Bool} {X Y : Nat} (hX : X < B18 ^ 30) (hY : 0 < Y) : (dq n1 n2 X Y).natAbs < B18 ^ 31 := by
  have e : B18 ^ 31 = B18 ^ 30 * B18 := rfl
  have h2 : B18 ^ 30 * 2 ≤ B18 ^ 30 * B18 := Nat.mul_le_mul_left _ (by unfold B18; omega)
  have h3 : X / Y ≤ X := Nat.div_le_self _ _
  unfold dq
  generalize X / Y = Z at *
  by_cases h1 : n1 = n2
  · rw [if_pos h1, Int.natAbs_natCast]; omega
  · rw [if_neg h1]
    by_cases h4 : X % Y = 0
    · rw [if_pos h4, Int.natAbs_neg, Int.natAbs_natCast]; omega
    · rw [if_neg h4, Int.natAbs_neg, Int.natAbs_natCast]; omega
theorem dr_lt {n1 n2 : Bool} {X Y : Nat} (hY : Y < B18 ^ 30) (hY0 : 0 < Y) : (dr n1 n2 X Y).natAbs < B18 ^ 30 := by
  have h3 : X % Y < Y := Nat.mod_lt _ hY0
  unfold dr
  split
  · rw [sgn_natAbs]; omega
  · split
    · exact Nat.pow_pos (by unfold B18; omega)
    · rw [sgn_natAbs]; omega
theorem limbs_31 {i : Int} (h : i.natAbs < B18 ^ 31) : (limbs i).length ≤ 31 := by
  rw [limbs_eq]; exact (digs_length_le B18_two _ _).2 h
theorem tens_31 {i : Int} (h : i.natAbs < B18 ^ 31) : (tens i).length ≤ 600 := by have := tens_len_of h; omega
theorem divmod_form (A B : Option Addr) (c d : Nat) (xs ys : List Nat) (w : World) (n1 n2 : Bool) (hx : Nums w A xs) (hy : Nums w B ys) (hl : xs.length ≤ 9223372036854775807) (hl' : ys.length ≤ 9223372036854775807) (hok : (goodB n1 xs && goodB n2 ys) = false) :
    Calls Tryd.prog 14 #[.agg #[.bool n1, .slice A xs.length c], .agg #[.bool n2, .slice B ys.length d]] w (RetTwo w 0 0 3) := by
  cases hg : goodB n1 xs
  · exact divmod_bad_x A B c d xs ys w n1 n2 hx hl hg
  · rw [hg, Bool.true_and] at hok
    exact divmod_bad_y A B c d xs ys w n1 n2 hx hy hl' hg hok
section
variable (n1 n2 : Bool) (A B : Option Addr) (c d : Nat) (xs ys : List Nat) (w : World)
set_option maxRecDepth 100000
set_option maxHeartbeats 4000000 in
theorem quotients_bad (hx : Nums w A xs) (hy : Nums w B ys) (hl : xs.length ≤ 9223372036854775807) (hl' : ys.length ≤ 9223372036854775807) (hok : (goodB n1 xs && goodB n2 ys) = false) :
    Calls Tryd.prog 3 #[.agg #[.bool n1, .slice A xs.length c], .agg #[.bool n2, .slice B ys.length d]] w (LawTrue w) := by
  obtain ⟨W0, hW0⟩ : ∃ W0, W0 = two w n1 n2 A B c d xs ys := ⟨_, rfl⟩
  have LW : Below w.heap.size w W0 := by rw [hW0]; exact two_below ..
  have HF0 : Hid (Pers W0 (Two w n1 n2 A B c d xs ys)) := fun b1 hb => by rw [hW0] at hb; exact two_since hx hy hb
  have hform := fun w hx hy => lform_any n1 n2 A B c d xs ys w hx hy hl hl'
  have hfo : formE (goodB n1 xs) (goodB n2 ys) = 3 := by unfold formE; rw [hok]; rfl
  rw [hfo] at hform
  have hdm := fun w hx hy => (divmod_form A B c d xs ys w n1 n2 hx hy hl hl' hok).mono fun e w' h => retTwo_nought h
  clear hfo hok hl hl'
  clear hx hy
  unfold two at hW0
  go_enter Tryd.func3, Tryd.ntmps3
  go_upto_region 1 with fail
  rw [← hW0]
  clear hW0
  have L : Below W0.heap.size W0 W0 := Below.refl _ _
  go_wp2_with (go_at_call 13; refine (known_any _).mono ?_; rintro e w1 ⟨rfl, hb⟩; have L := below_on L hb; clear hb; refine Hid.out ?_)
  refine Lib.hid ?_
  obtain ⟨⟨x0, x1, y0, y1⟩, hx, hy⟩ := HF0.out _ L
  go_wp2_with (go_at_call 14; refine (hdm _ hx hy).mono ?_; rintro e w1 ⟨As, cs, Ad, cd, rfl, ns, nd, hb⟩; have L := below_on L hb; clear x0 x1 y0 y1 hx hy hb; refine Hid.out ?_)
  refine Lib.hid ?_
  go_upto_region 4 with fail
  obtain ⟨W1, hW1⟩ : ∃ W1, W1 = (w1.alloc (.cells #[.bool false, .slice As 0 cs] 24)).alloc (.cells #[.bool false, .slice Ad 0 cd] 24) := ⟨_, rfl⟩
  obtain ⟨gs, hgs⟩ : ∃ gs, gs = w1.heap.size := ⟨_, rfl⟩
  have HF1 : Hid (Pers W1 (fun b => Two w n1 n2 A B c d xs ys b ∧ (Box gs 24 (.bool false) (.slice As 0 cs) b ∧ Nums b As []) ∧ Box (gs + 1) 24 (.bool false) (.slice Ad 0 cd) b ∧ Nums b Ad [])) := by
    have k1 : Below w1.heap.size w1 W1 := by rw [hW1]; exact ((Below.refl _ _).alloc (Nat.le_refl _) _).alloc (by simp) _
    have k2 : Blk W1 gs 24 #[.bool false, .slice As 0 cs] := by rw [hW1, hgs]; exact Blk.first _ _ _ _
    have k3 : Blk W1 (gs + 1) 24 #[.bool false, .slice Ad 0 cd] := by rw [hW1, hgs]; exact Blk.new1 _ _ _ _
    exact (HF0.out.on (below_on L k1)).and (((Pers.box k2).and (Pers.nums (ns.since k1))).and ((Pers.box k3).and (Pers.nums (nd.since k1))))
  have LW1 : Below w.heap.size w W1 := by rw [hW1]; exact ((LW.trans (L.mono LW.size)).alloc (Nat.le_trans LW.size L.size) _).alloc (by simp; exact Nat.le_succ_of_le (Nat.le_trans LW.size L.size)) _
  rw [← hW1, ← hgs]
  clear hW1 hgs HF0 L LW ns nd hdm
  have L : Below W1.heap.size W1 W1 := Below.refl _ _
  obtain ⟨⟨⟨x0, x1, y0, y1⟩, hx, hy⟩, ⟨⟨s0, s1⟩, ns⟩, ⟨d0, d1⟩, nd⟩ := HF1.out _ L
  go_wp2_with (go_at_call 15; refine (hform _ hx hy).mono ?_; rintro e w1 ⟨rfl, hb⟩; have L := below_on L hb; clear x0 x1 y0 y1 hx hy s0 s1 ns d0 d1 nd hb; refine Hid.out ?_)
  refine Lib.hid ?_
  clear hform
  obtain ⟨⟨⟨x0, x1, y0, y1⟩, hx, hy⟩, ⟨⟨s0, s1⟩, ns⟩, ⟨d0, d1⟩, nd⟩ := HF1.out _ L
  have his := fun A c w => is_err A none c 0 false 0 3 w (by simp)
  go_wp2_with (go_at_call 16; refine (his As cs _).mono ?_; rintro e w1 ⟨rfl, hb⟩; have L := below_on L hb; clear x0 x1 y0 y1 hx hy s0 s1 ns d0 d1 nd hb; refine Hid.out ?_)
  refine Lib.hid ?_
  obtain ⟨⟨⟨x0, x1, y0, y1⟩, hx, hy⟩, ⟨⟨s0, s1⟩, ns⟩, ⟨d0, d1⟩, nd⟩ := HF1.out _ L
  go_wp2_with (go_at_call 16; refine (his Ad cd _).mono ?_; rintro e w1 ⟨rfl, hb⟩; have L := below_on L hb; clear hb)
  go_ret
  exact ⟨rfl, LW1.trans (L.mono LW1.size)⟩
set_option maxHeartbeats 4000000 in
theorem quotients_zero (hx : Nums w A xs) (hy : Nums w B ys) (hl : xs.length ≤ 9223372036854775807) (hl' : ys.length ≤ 9223372036854775807) (hg : goodB n1 xs = true) (hk : goodB n2 ys = true) (h0 : ys.length = 0) :
    Calls Tryd.prog 3 #[.agg #[.bool n1, .slice A xs.length c], .agg #[.bool n2, .slice B ys.length d]] w (LawTrue w) := by
  obtain ⟨W0, hW0⟩ : ∃ W0, W0 = two w n1 n2 A B c d xs ys := ⟨_, rfl⟩
  have LW : Below w.heap.size w W0 := by rw [hW0]; exact two_below ..
  have HF0 : Hid (Pers W0 (Two w n1 n2 A B c d xs ys)) := fun b1 hb => by rw [hW0] at hb; exact two_since hx hy hb
  have hform := fun w hx hy => lform_any n1 n2 A B c d xs ys w hx hy hl hl'
  rw [hg, hk] at hform
  have hfo : formE true true = 0 := rfl
  rw [hfo] at hform
  have hdm := fun w hx hy => (divmod_zero A B c d xs ys w n1 n2 hx hy hg hk h0).mono fun e w' h => retTwo_nought h
  have H0 := Lib.hid h0
  clear hfo hg hk h0 hl hl'
  clear hx hy
  unfold two at hW0
  go_enter Tryd.func3, Tryd.ntmps3
  go_upto_region 1 with fail
  rw [← hW0]
  clear hW0
  have L : Below W0.heap.size W0 W0 := Below.refl _ _
  go_wp2_with (go_at_call 13; refine (known_any _).mono ?_; rintro e w1 ⟨rfl, hb⟩; have L := below_on L hb; clear hb; refine Hid.out ?_)
  refine Lib.hid ?_
  obtain ⟨⟨x0, x1, y0, y1⟩, hx, hy⟩ := HF0.out _ L
  go_wp2_with (go_at_call 14; refine (hdm _ hx hy).mono ?_; rintro e w1 ⟨As, cs, Ad, cd, rfl, ns, nd, hb⟩; have L := below_on L hb; clear x0 x1 y0 y1 hx hy hb; refine Hid.out ?_)
  refine Lib.hid ?_
  go_upto_region 4 with fail
  obtain ⟨W1, hW1⟩ : ∃ W1, W1 = (w1.alloc (.cells #[.bool false, .slice As 0 cs] 24)).alloc (.cells #[.bool false, .slice Ad 0 cd] 24) := ⟨_, rfl⟩
  obtain ⟨gs, hgs⟩ : ∃ gs, gs = w1.heap.size := ⟨_, rfl⟩
  have HF1 : Hid (Pers W1 (fun b => Two w n1 n2 A B c d xs ys b ∧ (Box gs 24 (.bool false) (.slice As 0 cs) b ∧ Nums b As []) ∧ Box (gs + 1) 24 (.bool false) (.slice Ad 0 cd) b ∧ Nums b Ad [])) := by
    have k1 : Below w1.heap.size w1 W1 := by rw [hW1]; exact ((Below.refl _ _).alloc (Nat.le_refl _) _).alloc (by simp) _
    have k2 : Blk W1 gs 24 #[.bool false, .slice As 0 cs] := by rw [hW1, hgs]; exact Blk.first _ _ _ _
    have k3 : Blk W1 (gs + 1) 24 #[.bool false, .slice Ad 0 cd] := by rw [hW1, hgs]; exact Blk.new1 _ _ _ _
    exact (HF0.out.on (below_on L k1)).and (((Pers.box k2).and (Pers.nums (ns.since k1))).and ((Pers.box k3).and (Pers.nums (nd.since k1))))
  have LW1 : Below w.heap.size w W1 := by rw [hW1]; exact ((LW.trans (L.mono LW.size)).alloc (Nat.le_trans LW.size L.size) _).alloc (by simp; exact Nat.le_succ_of_le (Nat.le_trans LW.size L.size)) _
  rw [← hW1, ← hgs]
  clear hW1 hgs HF0 L LW ns nd hdm
  have L : Below W1.heap.size W1 W1 := Below.refl _ _
  obtain ⟨⟨⟨x0, x1, y0, y1⟩, hx, hy⟩, ⟨⟨s0, s1⟩, ns⟩, ⟨d0, d1⟩, nd⟩ := HF1.out _ L
  go_wp2_with (go_at_call 15; refine (hform _ hx hy).mono ?_; rintro e w1 ⟨rfl, hb⟩; have L := below_on L hb; clear x0 x1 y0 y1 hx hy s0 s1 ns d0 d1 nd hb; refine Hid.out ?_)
  refine Lib.hid ?_
  clear hform
  obtain ⟨⟨⟨x0, x1, y0, y1⟩, hx, hy⟩, ⟨⟨s0, s1⟩, ns⟩, ⟨d0, d1⟩, nd⟩ := HF1.out _ L
  rw [H0.out] at y1
  have h00 : (((0 : Nat) : Int) == 0) = true := rfl
  have his := fun A c w => is_err A none c 0 false 0 6 w (by simp)
  go_wp2_with (go_at_call 16; refine (his As cs _).mono ?_; rintro e w1 ⟨rfl, hb⟩; have L := below_on L hb; clear x0 x1 y0 y1 hx hy s0 s1 ns d0 d1 nd hb; refine Hid.out ?_)
  refine Lib.hid ?_
  obtain ⟨⟨⟨x0, x1, y0, y1⟩, hx, hy⟩, ⟨⟨s0, s1⟩, ns⟩, ⟨d0, d1⟩, nd⟩ := HF1.out _ L
  go_wp2_with (go_at_call 16; refine (his Ad cd _).mono ?_; rintro e w1 ⟨rfl, hb⟩; have L := below_on L hb; clear hb)
  go_ret
  exact ⟨rfl, LW1.trans (L.mono LW1.size)⟩
set_option maxHeartbeats 4000000 in
theorem quotients_good (hx : Nums w A xs) (hy : Nums w B ys) (hl : xs.length ≤ 9223372036854775807) (hl' : ys.length ≤ 9223372036854775807) (hg : goodB n1 xs = true) (hk : goodB n2 ys = true) (h0 : 0 < ys.length) :
    Calls Tryd.prog 3 #[.agg #[.bool n1, .slice A xs.length c], .agg #[.bool n2, .slice B ys.length d]] w (LawTrue w) := by
  obtain ⟨W0, hW0⟩ : ∃ W0, W0 = two w n1 n2 A B c d xs ys := ⟨_, rfl⟩
  have LW : Below w.heap.size w W0 := by rw [hW0]; exact two_below ..
  have HF0 : Hid (Pers W0 (Two w n1 n2 A B c d xs ys)) := fun b1 hb => by rw [hW0] at hb; exact two_since hx hy hb
  have hform := fun w hx hy => lform_any n1 n2 A B c d xs ys w hx hy hl hl'
  rw [hg, hk] at hform
  have hfo : formE true true = 0 := rfl
  rw [hfo] at hform
  have hofx := fun w hx => rof_any n1 A c xs w hx hg
  have hofy := fun w hy => rof_any n2 B d ys w hy hk
  have hni := num_lt hg
  have hnj := num_lt hk
  have hdm := fun w hx hy => divmod_ok A B c d xs ys w n1 n2 hx hy hg hk h0
  have hn1 := neg_num hg
  have hn2 := neg_num hk
  have hv1 := num_natAbs n1 xs
  have hv2 := num_natAbs n2 ys
  have hj0 : num n2 ys ≠ 0 := fun e => by rw [e] at hv2; exact absurd ((val_zero_iff hk).1 (by omega)) (by omega)
  have HTI := Lib.hid (tens_length hni)
  have HTJ := Lib.hid (tens_length hnj)
  have hqb := dq_lt (n1 := n1) (n2 := n2) (X := val B18 xs) (Y := val B18 ys) (by rw [← hv1]; exact hni) (by rw [← hv2]; omega)
  have hrb := dr_lt (n1 := n1) (n2 := n2) (X := val B18 xs) (Y := val B18 ys) (by rw [← hv2]; exact hnj) (by rw [← hv2]; omega)
  have hrdm := fun A B c d w hx hy => rdivmod_any A B c d (num n1 xs) (num n2 ys) w hx hy (by have := HTI.out; omega) (by have := HTJ.out; omega) hj0
  have hde1 : dq (decide (num n1 xs < 0)) (decide (num n2 ys < 0)) (num n1 xs).natAbs (num n2 ys).natAbs = dq n1 n2 (val B18 xs) (val B18 ys) := by rw [hn1, hn2, hv1, hv2]
  have hde2 : dr (decide (num n1 xs < 0)) (decide (num n2 ys < 0)) (num n1 xs).natAbs (num n2 ys).natAbs = dr n1 n2 (val B18 xs) (val B18 ys) := by rw [hn1, hn2, hv1, hv2]
  rw [hde1, hde2] at hrdm
  clear hde1 hde2
  obtain ⟨i, hi⟩ : ∃ i, i = num n1 xs := ⟨_, rfl⟩
  obtain ⟨j, hj⟩ : ∃ j, j = num n2 ys := ⟨_, rfl⟩
  rw [← hi] at hofx HTI hn1
  rw [← hj] at hofy HTJ hn2
  rw [← hi, ← hj] at hrdm
  obtain ⟨q, hq⟩ : ∃ q, q = dq n1 n2 (val B18 xs) (val B18 ys) := ⟨_, rfl⟩
  obtain ⟨r, hr⟩ : ∃ r, r = dr n1 n2 (val B18 xs) (val B18 ys) := ⟨_, rfl⟩
  rw [← hq, ← hr] at hdm hrdm
  rw [← hq] at hqb
  rw [← hr] at hrb
  have hdm := fun w hx hy => (hdm w hx hy).mono fun e w' h => retTwo_four h
  have HLQ := Lib.hid (limbs_31 hqb); have HLR := Lib.hid (limbs_length hrb)
  have HTQ := Lib.hid (tens_31 hqb); have HTR := Lib.hid (tens_length hrb)
  have H0 : Hid (((ys.length : Int) == 0) = false) := by show _ = _; exact beq_eq_false_iff_ne.2 (by omega)
  have HN1 := Lib.hid hn1; have HN2 := Lib.hid hn2
  clear hq hr hi hj hfo hni hnj hg hk hl hl' h0 hj0 hv1 hv2 hn1 hn2 hqb hrb
  clear hx hy
  unfold two at hW0
  go_enter Tryd.func3, Tryd.ntmps3
  go_upto_region 1 with fail
  rw [← hW0]
  clear hW0
  have L : Below W0.heap.size W0 W0 := Below.refl _ _
  go_wp2_with (go_at_call 13; refine (known_any _).mono ?_; rintro e w1 ⟨rfl, hb⟩; have L := below_on L hb; clear hb; refine Hid.out ?_)
  refine Lib.hid ?_
  obtain ⟨⟨x0, x1, y0, y1⟩, hx, hy⟩ := HF0.out _ L
  go_wp2_with (go_at_call 14; refine (hdm _ hx hy).mono ?_; rintro e w1 ⟨As, cs, Ad, cd, rfl, hos, hod, hb⟩; have L := below_on L hb; clear x0 x1 y0 y1 hx hy hb; refine Hid.out ?_)
  refine Lib.hid ?_
  go_upto_region 4 with fail
  obtain ⟨W1, hW1⟩ : ∃ W1, W1 = (w1.alloc (.cells #[.bool (decide (q < 0)), .slice As (limbs q).length cs] 24)).alloc (.cells #[.bool (decide (r < 0)), .slice Ad (limbs r).length cd] 24) := ⟨_, rfl⟩
  obtain ⟨gs, hgs⟩ : ∃ gs, gs = w1.heap.size := ⟨_, rfl⟩
  have HF1 : Hid (Pers W1 (fun b => Two w n1 n2 A B c d xs ys b ∧ (Box gs 24 (.bool (decide (q < 0))) (.slice As (limbs q).length cs) b ∧ Nums b As (limbs q)) ∧ Box (gs + 1) 24 (.bool (decide (r < 0))) (.slice Ad (limbs r).length cd) b ∧ Nums b Ad (limbs r))) := by
    have k1 : Below w1.heap.size w1 W1 := by rw [hW1]; exact ((Below.refl _ _).alloc (Nat.le_refl _) _).alloc (by simp) _
    have k2 : Blk W1 gs 24 #[.bool (decide (q < 0)), .slice As (limbs q).length cs] := by rw [hW1, hgs]; exact Blk.first _ _ _ _
    have k3 : Blk W1 (gs + 1) 24 #[.bool (decide (r < 0)), .slice Ad (limbs r).length cd] := by rw [hW1, hgs]; exact Blk.new1 _ _ _ _
    exact (HF0.out.on (below_on L k1)).and (((Pers.box k2).and (Pers.nums (hos.nums.since k1))).and ((Pers.box k3).and (Pers.nums (hod.nums.since k1))))
  have LW1 : Below w.heap.size w W1 := by rw [hW1]; exact ((LW.trans (L.mono LW.size)).alloc (Nat.le_trans LW.size L.size) _).alloc (by simp; exact Nat.le_succ_of_le (Nat.le_trans LW.size L.size)) _
  rw [← hW1, ← hgs]
  clear hW1 hgs HF0 L LW hos hod hdm
  have L : Below W1.heap.size W1 W1 := Below.refl _ _
  obtain ⟨⟨⟨x0, x1, y0, y1⟩, hx, hy⟩, ⟨⟨s0, s1⟩, ns⟩, ⟨d0, d1⟩, nd⟩ := HF1.out _ L
  go_wp2_with (go_at_call 15; refine (hform _ hx hy).mono ?_; rintro e w1 ⟨rfl, hb⟩; have L := below_on L hb; clear x0 x1 y0 y1 hx hy s0 s1 ns d0 d1 nd hb; refine Hid.out ?_)
  refine Lib.hid ?_
  clear hform
  obtain ⟨⟨⟨x0, x1, y0, y1⟩, hx, hy⟩, ⟨⟨s0, s1⟩, ns⟩, ⟨d0, d1⟩, nd⟩ := HF1.out _ L
  have hy0 := H0.out
  go_upto_region 9 with fail
  clear hy0
  go_cut [9, 10] (fun s9 s10 wx => ∃ (g9 g10 : Nat) (A5 : Option Addr) (c5 : Nat) (A6 : Option Addr) (c6 : Nat), s9 = .pointer (some ⟨g9, 0, none⟩) ∧ s10 = .pointer (some ⟨g10, 0, none⟩) ∧ Blk wx g9 33 #[.bool (decide (q < 0)), .slice A5 (tens q).length c5] ∧ Blk wx g10 33 #[.bool (decide (r < 0)), .slice A6 (tens r).length c6] ∧ Own8 wx 0 A5 c5 (tens q) ∧ Own8 wx 0 A6 c6 (tens r) ∧ Below W1.heap.size W1 wx)
  case first =>
    have HS : Hid (∀ b, Below W1.heap.size W1 b → b.cell? ⟨w.heap.size, 0, none⟩ = some (.bool n1) ∧ b.cell? ⟨w.heap.size, 1, none⟩ = some (.slice A xs.length c) ∧ b.cell? ⟨w.heap.size + 1, 0, none⟩ = some (.bool n2) ∧ b.cell? ⟨w.heap.size + 1, 1, none⟩ = some (.slice B ys.length d)) := fun b hb => have h := HF1.out b hb; ⟨h.1.1.1, h.1.1.2.1, h.1.1.2.2.1, h.1.1.2.2.2⟩
    have HN : Hid (∀ b, Below W1.heap.size W1 b → Nums b A xs ∧ Nums b B ys) := fun b hb => have h := HF1.out b hb; ⟨h.1.2.1, h.1.2.2⟩
    clear HF1 LW1 HTQ HTR HLQ HLR HTI HTJ H0 HN1 HN2 x0 x1 y0 y1 hx hy s0 s1 ns d0 d1 nd
    have hL0 := L.size
    obtain ⟨r0, r1, r2, r3⟩ := HS.out _ L
    go_region_held3 (fun b => b.cell? ⟨w.heap.size, 0, none⟩ = some (.bool n1) ∧ b.cell? ⟨w.heap.size, 1, none⟩ = some (.slice A xs.length c) ∧ b.cell? ⟨w.heap.size + 1, 0, none⟩ = some (.bool n2) ∧ b.cell? ⟨w.heap.size + 1, 1, none⟩ = some (.slice B ys.length d))
      (first | (with_reducible exact ⟨r0, r1, r2, r3⟩) | (exact HS.out _ (by repeat (first | with_reducible exact L | with_reducible apply Below.drew | (with_reducible refine Below.alloc ?_ (by have hh := L.size; first | exact hh | (simp only [World.size_alloc, World.size_drew]; omega) | (simp at hh ⊢; omega)) _) | (with_reducible refine Below.setCell ?_ (by have hh := L.size; first | exact hh | (simp only [World.size_alloc, World.size_drew]; omega) | (simp at hh ⊢; omega)) _)))))
      (first
        | (go_at_call_of 18 (Value.agg #[Value.bool n1, Value.slice A xs.length c]); refine (hofx _ (by exact (HN.out _ (by repeat (first | with_reducible exact L | with_reducible apply Below.drew | (with_reducible refine Below.alloc ?_ (by have hh := L.size; first | exact hh | (simp only [World.size_alloc, World.size_drew]; omega) | (simp at hh ⊢; omega)) _) | (with_reducible refine Below.setCell ?_ (by have hh := L.size; first | exact hh | (simp only [World.size_alloc, World.size_drew]; omega) | (simp at hh ⊢; omega)) _)))).1)).mono ?_; rintro e wx ⟨A3, c3, rfl, ho3, hbx⟩; have ho3 := ho3.mono (Nat.zero_le _); have L : Below W1.heap.size W1 wx := below_on (b := _) (by repeat (first | with_reducible exact L | with_reducible apply Below.drew | (with_reducible refine Below.alloc ?_ (by have hh := L.size; first | exact hh | (simp only [World.size_alloc, World.size_drew]; omega) | (simp at hh ⊢; omega)) _) | (with_reducible refine Below.setCell ?_ (by have hh := L.size; first | exact hh | (simp only [World.size_alloc, World.size_drew]; omega) | (simp at hh ⊢; omega)) _))) hbx; (try (have ho4 : Own8 wx 0 A4 c4 (tens j) := Own8.below (w := _) (by repeat (first | with_reducible exact ho4 | with_reducible apply Own8.alloc | with_reducible apply Own8.drew)) hbx (Nat.le_refl _))); (try (have ho5 : Own8 wx 0 A5 c5 (tens q) := Own8.below (w := _) (by repeat (first | with_reducible exact ho5 | with_reducible apply Own8.alloc | with_reducible apply Own8.drew)) hbx (Nat.le_refl _))); (try (have ho6 : Own8 wx 0 A6 c6 (tens r) := Own8.below (w := _) (by repeat (first | with_reducible exact ho6 | with_reducible apply Own8.alloc | with_reducible apply Own8.drew)) hbx (Nat.le_refl _))); obtain ⟨hccx, hffx⟩ := bcell hbx; have hssx := hbx.size; (try (simp only [World.size_drew] at hccx hffx hssx)); (try (simp only [World.size_alloc] at hccx hffx hssx)); (try (have hspy := Nat.lt_of_lt_of_le hspy (show _ ≤ wx.heap.size by omega))); (try (have hsqy := Nat.lt_of_lt_of_le hsqy (show _ ≤ wx.heap.size by omega))); (try (have hspt := Nat.lt_of_lt_of_le hspt (show _ ≤ wx.heap.size by omega))); (try (have hsqt := Nat.lt_of_lt_of_le hsqt (show _ ≤ wx.heap.size by omega))); (try (have hspx := Nat.lt_of_succ_le hssx; (try (have hsqx := Nat.lt_of_succ_lt hspx)))); clear r0 r1 r2 r3; obtain ⟨r0, r1, r2, r3⟩ := HS.out _ L)
        | (go_at_call 18; refine (hofy _ (by exact (HN.out _ (by repeat (first | with_reducible exact L | with_reducible apply Below.drew | (with_reducible refine Below.alloc ?_ (by have hh := L.size; first | exact hh | (simp only [World.size_alloc, World.size_drew]; omega) | (simp at hh ⊢; omega)) _) | (with_reducible refine Below.setCell ?_ (by have hh := L.size; first | exact hh | (simp only [World.size_alloc, World.size_drew]; omega) | (simp at hh ⊢; omega)) _)))).2)).mono ?_; rintro e wy ⟨A4, c4, rfl, ho4, hby⟩; have ho4 := ho4.mono (Nat.zero_le _); have L : Below W1.heap.size W1 wy := below_on (b := _) (by repeat (first | with_reducible exact L | with_reducible apply Below.drew | (with_reducible refine Below.alloc ?_ (by have hh := L.size; first | exact hh | (simp only [World.size_alloc, World.size_drew]; omega) | (simp at hh ⊢; omega)) _) | (with_reducible refine Below.setCell ?_ (by have hh := L.size; first | exact hh | (simp only [World.size_alloc, World.size_drew]; omega) | (simp at hh ⊢; omega)) _))) hby; (try (have ho3 : Own8 wy 0 A3 c3 (tens i) := Own8.below (w := _) (by repeat (first | with_reducible exact ho3 | with_reducible apply Own8.alloc | with_reducible apply Own8.drew)) hby (Nat.le_refl _))); (try (have ho5 : Own8 wy 0 A5 c5 (tens q) := Own8.below (w := _) (by repeat (first | with_reducible exact ho5 | with_reducible apply Own8.alloc | with_reducible apply Own8.drew)) hby (Nat.le_refl _))); (try (have ho6 : Own8 wy 0 A6 c6 (tens r) := Own8.below (w := _) (by repeat (first | with_reducible exact ho6 | with_reducible apply Own8.alloc | with_reducible apply Own8.drew)) hby (Nat.le_refl _))); obtain ⟨hccy, hffy⟩ := bcell hby; have hssy := hby.size; (try (simp only [World.size_drew] at hccy hffy hssy)); (try (simp only [World.size_alloc] at hccy hffy hssy)); (try (have hspx := Nat.lt_of_lt_of_le hspx (show _ ≤ wy.heap.size by omega))); (try (have hsqx := Nat.lt_of_lt_of_le hsqx (show _ ≤ wy.heap.size by omega))); (try (have hspt := Nat.lt_of_lt_of_le hspt (show _ ≤ wy.heap.size by omega))); (try (have hsqt := Nat.lt_of_lt_of_le hsqt (show _ ≤ wy.heap.size by omega))); (try (have hspy := Nat.lt_of_succ_le hssy; (try (have hsqy := Nat.lt_of_succ_lt hspy)))); clear r0 r1 r2 r3; obtain ⟨r0, r1, r2, r3⟩ := HS.out _ L)
        | (go_at_call 17; refine (hrdm A3 A4 c3 c4 _ (Own8.nums (by repeat (first | with_reducible exact ho3 | with_reducible apply Own8.alloc | with_reducible apply Own8.drew))) (Own8.nums (by repeat (first | with_reducible exact ho4 | with_reducible apply Own8.alloc | with_reducible apply Own8.drew)))).mono ?_; rintro e wt ⟨A5, c5, A6, c6, rfl, ho5, ho6, hbt⟩; have ho5 := ho5.mono (Nat.zero_le _); have ho6 := ho6.mono (Nat.zero_le _); have L : Below W1.heap.size W1 wt := below_on (b := _) (by repeat (first | with_reducible exact L | with_reducible apply Below.drew | (with_reducible refine Below.alloc ?_ (by have hh := L.size; first | exact hh | (simp only [World.size_alloc, World.size_drew]; omega) | (simp at hh ⊢; omega)) _) | (with_reducible refine Below.setCell ?_ (by have hh := L.size; first | exact hh | (simp only [World.size_alloc, World.size_drew]; omega) | (simp at hh ⊢; omega)) _))) hbt; (try (have ho3 : Own8 wt 0 A3 c3 (tens i) := Own8.below (w := _) (by repeat (first | with_reducible exact ho3 | with_reducible apply Own8.alloc | with_reducible apply Own8.drew)) hbt (Nat.le_refl _))); (try (have ho4 : Own8 wt 0 A4 c4 (tens j) := Own8.below (w := _) (by repeat (first | with_reducible exact ho4 | with_reducible apply Own8.alloc | with_reducible apply Own8.drew)) hbt (Nat.le_refl _))); obtain ⟨hcct, hfft⟩ := bcell hbt; have hsst := hbt.size; (try (simp only [World.size_drew] at hcct hfft hsst)); (try (simp only [World.size_alloc] at hcct hfft hsst)); (try (have hspx := Nat.lt_of_lt_of_le hspx (show _ ≤ wt.heap.size by omega))); (try (have hsqx := Nat.lt_of_lt_of_le hsqx (show _ ≤ wt.heap.size by omega))); (try (have hspy := Nat.lt_of_lt_of_le hspy (show _ ≤ wt.heap.size by omega))); (try (have hsqy := Nat.lt_of_lt_of_le hsqy (show _ ≤ wt.heap.size by omega))); (try (have hspt := Nat.lt_of_succ_le hsst; (try (have hsqt := Nat.lt_of_succ_lt hspt)))); clear r0 r1 r2 r3; obtain ⟨r0, r1, r2, r3⟩ := HS.out _ L))
    all_goals (go_wp2_with fail)
    all_goals go_meet
    all_goals
      refine ⟨_, _, A5, c5, A6, c6, rfl, rfl, ?_, ?_, ?_, ?_, ?_⟩
      all_goals (repeat' (first | with_reducible assumption | with_reducible exact Blk.new _ _ _ | with_reducible exact Blk.new1 _ _ _ _ | (with_reducible refine Blk.newAt ?_; (first | omega | (simp; done) | (simp; omega))) | with_reducible apply Blk.alloc | with_reducible apply Blk.drew | with_reducible refine Blk.set2 (x := .bool false) (y := .slice none 0 0) ?_ _ _ | with_reducible refine Blk.far ?_ ?_ _ | with_reducible refine Blk.below (w := _) ?_ hbx ?_ | with_reducible refine Blk.below (w := _) ?_ hby ?_ | with_reducible refine Blk.below (w := _) ?_ hbt ?_ | with_reducible apply Own8.alloc | with_reducible apply Own8.drew | with_reducible apply Own.alloc | with_reducible apply Own.drew | with_reducible refine Own8.set2 (x := .bool false) (y := .slice none 0 0) (t := 33) ?_ ?_ ?_ _ _ | with_reducible refine Own.set2 (x := .bool false) (y := .slice none 0 0) (t := 33) ?_ ?_ ?_ _ _ | with_reducible apply Below.drew | with_reducible refine Below.alloc ?_ ?_ _ | with_reducible refine Below.setCell ?_ ?_ _ | omega | (simp; omega) | (simp; done) | decide))
  case rest =>
    obtain ⟨g9, g10, A5, c5, A6, c6, rfl, rfl, Z9, Z10, ho5, ho6, LC⟩ := hcut
    obtain ⟨W2, rfl⟩ : ∃ W2, W2 = wc := ⟨_, rfl⟩
    have HF2 : Hid (Pers W2 (fun b => (Two w n1 n2 A B c d xs ys b ∧ (Box gs 24 (.bool (decide (q < 0))) (.slice As (limbs q).length cs) b ∧ Nums b As (limbs q)) ∧ Box (gs + 1) 24 (.bool (decide (r < 0))) (.slice Ad (limbs r).length cd) b ∧ Nums b Ad (limbs r)) ∧ (Box g9 33 (.bool (decide (q < 0))) (.slice A5 (tens q).length c5) b ∧ Nums8 b A5 (tens q)) ∧ (Box g10 33 (.bool (decide (r < 0))) (.slice A6 (tens r).length c6) b ∧ Nums8 b A6 (tens r)))) := (HF1.out.on LC).and (((Pers.box Z9).and (Pers.nums8 ho5.nums)).and ((Pers.box Z10).and (Pers.nums8 ho6.nums)))
    have LW2 : Below w.heap.size w W2 := LW1.trans (LC.mono LW1.size)
    clear x0 x1 y0 y1 hx hy s0 s1 ns d0 d1 nd L LW1 HF1 Z9 Z10 ho5 ho6 LC hofx hofy hrdm HTI HTJ
    have hisq := fun w hx hy => is_ok As A5 cs c5 q w hx hy (by have := HLQ.out; omega) (by have := HTQ.out; omega)
    have hisr := fun w hx hy => is_ok Ad A6 cd c6 r w hx hy (by have := HLR.out; omega) (by have := HTR.out; omega)
    have L : Below W2.heap.size W2 W2 := Below.refl _ _
    obtain ⟨⟨⟨⟨x0, x1, y0, y1⟩, hx, hy⟩, ⟨⟨s0, s1⟩, ns⟩, ⟨d0, d1⟩, nd⟩, ⟨⟨a0, a1⟩, na⟩, ⟨⟨b0, b1⟩, nb⟩⟩ := HF2.out _ L
    go_wp2_with (go_at_call 16; refine (hisq _ ns na).mono ?_; rintro e w1 ⟨rfl, hb⟩; have L := below_on L hb; clear x0 x1 y0 y1 hx hy s0 s1 ns d0 d1 nd a0 a1 na b0 b1 nb hb; refine Hid.out ?_)
    refine Lib.hid ?_
    obtain ⟨⟨⟨⟨x0, x1, y0, y1⟩, hx, hy⟩, ⟨⟨s0, s1⟩, ns⟩, ⟨d0, d1⟩, nd⟩, ⟨⟨a0, a1⟩, na⟩, ⟨⟨b0, b1⟩, nb⟩⟩ := HF2.out _ L
    go_wp2_with (go_at_call 16; refine (hisr _ nd nb).mono ?_; rintro e w1 ⟨rfl, hb⟩; have L := below_on L hb; clear hb)
    go_ret
    exact ⟨rfl, LW2.trans (L.mono LW2.size)⟩
end
/-- WholeQuotients answers true at every two numbers. -/
theorem quotients_law (n1 : Bool) (A : Option Addr) (c : Nat) (xs : List Nat) (n2 : Bool) (B : Option Addr) (d : Nat) (ys : List Nat) (w : World) (hx : Nums w A xs) (hl : xs.length ≤ 9223372036854775807) (hy : Nums w B ys) (hl' : ys.length ≤ 9223372036854775807) :
    Calls Tryd.prog 3 #[.agg #[.bool n1, .slice A xs.length c], .agg #[.bool n2, .slice B ys.length d]] w fun e w' => e = .returned (.bool true) ∧ Below w.heap.size w w' := by
  cases hok : (goodB n1 xs && goodB n2 ys)
  · exact quotients_bad n1 n2 A B c d xs ys w hx hy hl hl' hok
  · obtain ⟨hg, hk⟩ := Bool.and_eq_true_iff.1 hok
    by_cases h0 : ys.length = 0
    · exact quotients_zero n1 n2 A B c d xs ys w hx hy hl hl' hg hk h0
    · exact quotients_good n1 n2 A B c d xs ys w hx hy hl hl' hg hk (by omega)
end Go.Proofs.YteggjfmcpodepaaDoor

/- Words for the laws' own walks: what stands since a world; contracts in the laws' wording. The walks of the laws' own small functions: form, fits, is. Words for the laws' walks: what stands in every later world. The walks of the reference's Turn, Plus, Cmp. -/
import Derived.Test.YteggjfmcpodepaaDoorWT9
import Derived.Deep.RegionWith
namespace Go.Proofs.YteggjfmcpodepaaDoor
open Go.RowKit

theorem same_self (n1 : Bool) (xs : List Nat) : sameB n1 xs n1 xs = true := by unfold sameB; simp
theorem rsame_self (A B : Option Addr) (c d : Nat) (n : Bool) (xs : List Nat) (w : World) (hx : Nums w A xs) (hy : Nums w B xs) (hl : xs.length ≤ 1048576) :
    Calls Tryd.prog 21 #[.agg #[.bool n, .slice A xs.length c], .agg #[.bool n, .slice B xs.length d]] w fun e w' => e = .returned (.bool true) ∧ Below w.heap.size w w' := by
  have h := rsame_any A B c d xs xs w n n hx hy hl hl
  rwa [same_self] at h
theorem limbs_length {i : Int} (h : i.natAbs < B18 ^ 30) : (limbs i).length ≤ 30 := by
  rw [limbs_eq]; exact (digs_length_le B18_two _ _).2 h
theorem tens_len_of {i : Int} {k : Nat} (h : i.natAbs < B18 ^ k) : (tens i).length ≤ 18 * k := by
  rw [tens_eq]; exact (digs_length_le (by decide) _ _).2 (by rw [← B18_pow]; exact h)
theorem tens_length {i : Int} (h : i.natAbs < B18 ^ 30) : (tens i).length ≤ 540 := tens_len_of h
end Go.Proofs.YteggjfmcpodepaaDoor
namespace Go.Proofs.YteggjfmcpodepaaDoor
open Go.RowKit

theorem rfits_any (A : Option Addr) (c : Nat) (i : Int) (w : World) :
    Calls Tryd.prog 59 #[.agg #[.bool (decide (i < 0)), .slice A (tens i).length c]] w fun e w' => e = .returned (.bool (decide ((tens i).length ≤ 540))) ∧ Below w.heap.size w w' := by
  have hd : decide (((tens i).length : Int) ≤ 540) = decide ((tens i).length ≤ 540) := by
    by_cases h : (tens i).length ≤ 540
    · rw [decide_eq_true h, decide_eq_true (by omega)]
    · rw [decide_eq_false h, decide_eq_false (by omega)]
  go_enter Tryd.func59, Tryd.ntmps59
  go_wp2
  go_ret
  exact ⟨by first | rfl | rw [hd], (Below.refl _ _).alloc (Nat.le_refl _) _⟩
theorem tens_540 (i : Int) : (tens i).length ≤ 540 ↔ i.natAbs < B18 ^ 30 := by
  rw [tens_eq, B18_pow]
  exact digs_length_le (by decide) _ (18 * 30)
theorem outE_eq (i : Int) : outE true i = if (tens i).length ≤ 540 then 0 else 7 := by
  unfold outE
  rw [if_pos rfl]
  by_cases h : i.natAbs < B18 ^ 30
  · rw [if_pos h, if_pos ((tens_540 i).2 h)]
  · rw [if_neg h, if_neg (mt (tens_540 i).1 h)]
set_option maxHeartbeats 1000000 in
theorem lfits_any (A : Option Addr) (c : Nat) (i : Int) (w : World) :
    Calls Tryd.prog 34 #[.agg #[.bool (decide (i < 0)), .slice A (tens i).length c]] w fun e w' => e = .returned (.int .i64 (outE true i)) ∧ Below w.heap.size w w' := by
  rw [outE_eq]
  have L : Below w.heap.size w (w.alloc (.cells #[.bool (decide (i < 0)), .slice A (tens i).length c] 33)) := (Below.refl _ _).alloc (Nat.le_refl _) _
  have hfit := fun w => rfits_any A c i w
  by_cases h : (tens i).length ≤ 540
  · rw [if_pos h]
    rw [decide_eq_true h] at hfit
    clear h
    go_enter Tryd.func34, Tryd.ntmps34
    go_wp2_with (go_at_call 59; refine (hfit _).mono ?_; rintro e w1 ⟨rfl, hb⟩; have L := below_on L hb; clear hb)
    go_ret
    exact ⟨rfl, L⟩
  · rw [if_neg h]
    rw [decide_eq_false h] at hfit
    clear h
    go_enter Tryd.func34, Tryd.ntmps34
    go_wp2_with (go_at_call 59; refine (hfit _).mono ?_; rintro e w1 ⟨rfl, hb⟩; have L := below_on L hb; clear hb)
    go_ret
    exact ⟨rfl, L⟩

/-- Two words boxed: what stands in every later world. -/
def Two (w : World) (n1 n2 : Bool) (A B : Option Addr) (c d : Nat) (xs ys : List Nat) (b : World) : Prop :=
  (b.cell? ⟨w.heap.size, 0, none⟩ = some (.bool n1) ∧ b.cell? ⟨w.heap.size, 1, none⟩ = some (.slice A xs.length c) ∧
  b.cell? ⟨w.heap.size + 1, 0, none⟩ = some (.bool n2) ∧ b.cell? ⟨w.heap.size + 1, 1, none⟩ = some (.slice B ys.length d)) ∧ Nums b A xs ∧ Nums b B ys
def two (w : World) (n1 n2 : Bool) (A B : Option Addr) (c d : Nat) (xs ys : List Nat) : World :=
  (w.alloc (.cells #[.bool n1, .slice A xs.length c] 24)).alloc (.cells #[.bool n2, .slice B ys.length d] 24)
theorem two_below (w : World) (n1 n2 : Bool) (A B : Option Addr) (c d : Nat) (xs ys : List Nat) : Below w.heap.size w (two w n1 n2 A B c d xs ys) :=
  ((Below.refl _ _).alloc (Nat.le_refl _) _).alloc (by simp) _
theorem two_since {w b : World} {n1 n2 : Bool} {A B : Option Addr} {c d : Nat} {xs ys : List Nat} (hx : Nums w A xs) (hy : Nums w B ys) (hb : Below (two w n1 n2 A B c d xs ys).heap.size (two w n1 n2 A B c d xs ys) b) : Two w n1 n2 A B c d xs ys b := by
  have X : Blk (two w n1 n2 A B c d xs ys) w.heap.size 24 #[.bool n1, .slice A xs.length c] := (Blk.new _ _ _).alloc _
  have Y : Blk (two w n1 n2 A B c d xs ys) (w.heap.size + 1) 24 #[.bool n2, .slice B ys.length d] := Blk.new1 _ _ _ _
  have x := (X.below hb X.lt).two; have y := (Y.below hb Y.lt).two
  exact ⟨⟨x.1, x.2.1, y.1, y.2.1⟩, (hx.since (two_below w n1 n2 A B c d xs ys)).since hb, (hy.since (two_below w n1 n2 A B c d xs ys)).since hb⟩

/-- The number of the error that the laws expect of two numbers. -/
def formE (g1 g2 : Bool) : Int := if g1 && g2 then 0 else 3
set_option maxRecDepth 100000
set_option maxHeartbeats 1000000 in
theorem lform_any (n1 n2 : Bool) (A B : Option Addr) (c d : Nat) (xs ys : List Nat) (w : World) (hx : Nums w A xs) (hy : Nums w B ys) (hl : xs.length ≤ 9223372036854775807) (hl' : ys.length ≤ 9223372036854775807) :
    Calls Tryd.prog 15 #[.agg #[.bool n1, .slice A xs.length c], .agg #[.bool n2, .slice B ys.length d]] w fun e w' => e = .returned (.int .i64 (formE (goodB n1 xs) (goodB n2 ys))) ∧ Below w.heap.size w w' := by
  obtain ⟨W0, hW0⟩ : ∃ W0, W0 = two w n1 n2 A B c d xs ys := ⟨_, rfl⟩
  have LW : Below w.heap.size w W0 := by rw [hW0]; exact two_below ..
  have HF : Hid (∀ b1, Below W0.heap.size W0 b1 → Two w n1 n2 A B c d xs ys b1) := fun b1 hb => by rw [hW0] at hb; exact two_since hx hy hb
  have hg1 := fun w hx => rgood_any n1 c w A xs hl hx
  have hg2 := fun w hy => rgood_any n2 d w B ys hl' hy
  clear hx hy
  unfold two at hW0
  have L : Below W0.heap.size W0 W0 := Below.refl _ _
  obtain ⟨⟨x0, x1, y0, y1⟩, hx, hy⟩ := HF.out _ L
  go_enter Tryd.func15, Tryd.ntmps15
  cases h1 : goodB n1 xs
  · rw [h1] at hg1
    go_upto_region 1 with fail
    rw [← hW0]
    clear h1 hW0
    go_wp2_with (go_at_call 20; refine (hg1 _ hx).mono ?_; rintro e w1 ⟨rfl, hb⟩; have L := below_on L hb; clear hb)
    go_ret
    exact ⟨rfl, LW.trans (L.mono LW.size)⟩
  · rw [h1] at hg1
    go_upto_region 1 with fail
    rw [← hW0]
    clear h1 hW0
    go_wp2_with (go_at_call 20; refine (hg1 _ hx).mono ?_; rintro e w1 ⟨rfl, hb⟩; have L := below_on L hb; clear x0 x1 y0 y1 hx hy hb; obtain ⟨⟨x0, x1, y0, y1⟩, hx, hy⟩ := HF.out _ L; refine Hid.out ?_)
    refine Lib.hid ?_
    cases h2 : goodB n2 ys
    · rw [h2] at hg2
      have H2 := Lib.hid h2
      clear h2
      go_wp2_with (go_at_call 20; refine (hg2 _ hy).mono ?_; rintro e w1 ⟨rfl, hb⟩; have L := below_on L hb; clear hb)
      go_ret
      exact ⟨by rw [H2.out]; rfl, LW.trans (L.mono LW.size)⟩
    · rw [h2] at hg2
      have H2 := Lib.hid h2
      clear h2
      go_wp2_with (go_at_call 20; refine (hg2 _ hy).mono ?_; rintro e w1 ⟨rfl, hb⟩; have L := below_on L hb; clear hb)
      go_ret
      exact ⟨by rw [H2.out]; rfl, LW.trans (L.mono LW.size)⟩

/-- is, where the number is told: no error. -/
def isW (w : World) (b1 b2 : Bool) (A B : Option Addr) (c d n m : Nat) : World :=
  (w.alloc (.cells #[.bool b1, .slice A n c] 24)).alloc (.cells #[.bool b2, .slice B m d] 33)
set_option maxHeartbeats 1000000 in
theorem is_ok (A B : Option Addr) (c d : Nat) (i : Int) (w : World) (hx : Nums w A (limbs i)) (hy : Nums8 w B (tens i)) (hl : (limbs i).length ≤ 1048576) (hl' : (tens i).length ≤ 1048576) :
    Calls Tryd.prog 16 #[.agg #[.bool (decide (i < 0)), .slice A (limbs i).length c], .int .i64 0, .agg #[.bool (decide (i < 0)), .slice B (tens i).length d], .int .i64 0] w fun e w' => e = .returned (.bool true) ∧ Below w.heap.size w w' := by
  obtain ⟨W0, hW0⟩ : ∃ W0, W0 = isW w (decide (i < 0)) (decide (i < 0)) A B c d (limbs i).length (tens i).length := ⟨_, rfl⟩
  have LW : Below w.heap.size w W0 := by rw [hW0]; exact ((Below.refl _ _).alloc (Nat.le_refl _) _).alloc (by simp) _
  have HF : Hid (∀ b, Below W0.heap.size W0 b → (b.cell? ⟨w.heap.size, 0, none⟩ = some (.bool (decide (i < 0))) ∧ b.cell? ⟨w.heap.size, 1, none⟩ = some (.slice A (limbs i).length c) ∧
      b.cell? ⟨w.heap.size + 1, 0, none⟩ = some (.bool (decide (i < 0))) ∧ b.cell? ⟨w.heap.size + 1, 1, none⟩ = some (.slice B (tens i).length d)) ∧ Nums b A (limbs i) ∧ Nums8 b B (tens i)) := by
    intro b hb
    have X : Blk W0 w.heap.size 24 #[.bool (decide (i < 0)), .slice A (limbs i).length c] := by rw [hW0]; exact (Blk.new _ _ _).alloc _
    have Y : Blk W0 (w.heap.size + 1) 33 #[.bool (decide (i < 0)), .slice B (tens i).length d] := by rw [hW0]; exact Blk.new1 _ _ _ _
    have x := (X.below hb X.lt).two; have y := (Y.below hb Y.lt).two
    exact ⟨⟨x.1, x.2.1, y.1, y.2.1⟩, (hx.since LW).since hb, (hy.since LW).since hb⟩
  clear hx hy
  unfold isW at hW0
  have L : Below W0.heap.size W0 W0 := Below.refl _ _
  obtain ⟨⟨x0, x1, y0, y1⟩, hx, hy⟩ := HF.out _ L
  go_enter Tryd.func16, Tryd.ntmps16
  go_upto_region 1 with fail
  rw [← hW0]
  clear hW0
  go_wp2_with fail
  go_region_held3 (fun b => b.cell? ⟨w.heap.size, 0, none⟩ = some (.bool (decide (i < 0))) ∧ b.cell? ⟨w.heap.size, 1, none⟩ = some (.slice A (limbs i).length c) ∧
      b.cell? ⟨w.heap.size + 1, 0, none⟩ = some (.bool (decide (i < 0))) ∧ b.cell? ⟨w.heap.size + 1, 1, none⟩ = some (.slice B (tens i).length d))
    (first | (with_reducible exact ⟨x0, x1, y0, y1⟩) | (go_simp; done))
    (first
      | (go_at_call 23; refine (rto_any B d i _ (by first | exact hy | exact hy.drew) hl').mono ?_; rintro e w1 ⟨A1, c1, rfl, ho1, hb⟩; have ho1 := ho1.nums; have L := below_on L (by first | exact hb | exact below_undrew hb); clear x0 x1 y0 y1 hx hy hb; obtain ⟨⟨x0, x1, y0, y1⟩, hx, hy⟩ := HF.out _ L)
      | (go_at_call 21; refine (rsame_self A A1 c c1 _ (limbs i) _ hx ho1 hl).mono ?_; rintro e w1 ⟨rfl, hb⟩; have L := below_on L hb; clear x0 x1 y0 y1 hx hy hb; obtain ⟨⟨x0, x1, y0, y1⟩, hx, hy⟩ := HF.out _ L))
  all_goals
    go_wp2_with fail
    go_ret
    exact ⟨rfl, LW.trans (L.mono LW.size)⟩
/-- is, where an error is told: the number is nought. -/
theorem is_err (A B : Option Addr) (c d : Nat) (bn : Bool) (m : Nat) (f : Int) (w : World) (hf : f = 3 ∨ f = 6 ∨ f = 7 ∨ f = 1 ∨ f = 2 ∨ f = 4) :
    Calls Tryd.prog 16 #[.agg #[.bool false, .slice A 0 c], .int .i64 f, .agg #[.bool bn, .slice B m d], .int .i64 f] w fun e w' => e = .returned (.bool true) ∧ Below w.heap.size w w' := by
  have hn0 : (f != 0) = true := by rcases hf with rfl | rfl | rfl | rfl | rfl | rfl <;> rfl
  have hnf : (f != f) = false := by simp
  have hsame := fun w => rsame_self A none c 0 false [] w ⟨fun k => by rw [nth_nil]; decide, fun h => absurd h (by decide)⟩ ⟨fun k => by rw [nth_nil]; decide, fun h => absurd h (by decide)⟩ (by decide)
  have L : Below w.heap.size w ((w.alloc (.cells #[.bool false, .slice A 0 c] 24)).alloc (.cells #[.bool bn, .slice B m d] 33)) := ((Below.refl _ _).alloc (Nat.le_refl _) _).alloc (by simp) _
  clear hf
  go_enter Tryd.func16, Tryd.ntmps16
  go_wp2_with (go_at_call 21; refine (hsame _).mono ?_; rintro e w1 ⟨rfl, hb⟩; have L := below_on L hb; clear hb)
  go_ret
  exact ⟨rfl, L⟩
/-- is, at what a sum or product gives. -/
theorem is_out (A B : Option Addr) (c d : Nat) (i : Int) (w : World) (hx : Nums w A (limbs (outV true i))) (hy : Nums8 w B (tens i)) (hl' : (tens i).length ≤ 1048576) :
    Calls Tryd.prog 16 #[.agg #[.bool (decide (outV true i < 0)), .slice A (limbs (outV true i)).length c], .int .i64 (outE true i), .agg #[.bool (decide (i < 0)), .slice B (tens i).length d], .int .i64 (outE true i)] w fun e w' => e = .returned (.bool true) ∧ Below w.heap.size w w' := by
  by_cases h : i.natAbs < B18 ^ 30
  · rw [outV_ok h] at hx ⊢
    rw [outE_ok h]
    exact is_ok A B c d i w hx hy (by have := limbs_length h; omega) hl'
  · rw [outV_big (by omega)] at hx ⊢
    rw [outE_big (by omega), limbs_zero]
    exact is_err A B c d _ _ 7 w (by simp)
end Go.Proofs.YteggjfmcpodepaaDoor
namespace Go.Proofs.YteggjfmcpodepaaDoor
open Go.RowKit
/-- What stands in every later world. -/
def Pers (W : World) (F : World → Prop) : Prop := ∀ b, Below W.heap.size W b → F b
theorem Pers.here {W : World} {F : World → Prop} (h : Pers W F) : F W := h W (Below.refl _ _)
theorem Pers.on {W W' : World} {F : World → Prop} (h : Pers W F) (L : Below W.heap.size W W') : Pers W' F := fun b hb => h b (below_on L hb)
theorem Pers.and {W : World} {F G : World → Prop} (h : Pers W F) (k : Pers W G) : Pers W (fun b => F b ∧ G b) := fun b hb => ⟨h b hb, k b hb⟩
/-- A box that holds a number. -/
def Box (g : Nat) (t : TypeId) (u v : Value) (b : World) : Prop := b.cell? ⟨g, 0, none⟩ = some u ∧ b.cell? ⟨g, 1, none⟩ = some v
theorem Pers.box {W : World} {g : Nat} {t : TypeId} {u v : Value} (h : Blk W g t #[u, v]) : Pers W (Box g t u v) := fun _ hb => ⟨(h.below hb h.lt).two.1, (h.below hb h.lt).two.2.1⟩
theorem Pers.nums {W : World} {A : Option Addr} {xs : List Nat} (h : Nums W A xs) : Pers W (fun b => Nums b A xs) := fun _ hb => h.since hb
theorem Pers.nums8 {W : World} {A : Option Addr} {xs : List Nat} (h : Nums8 W A xs) : Pers W (fun b => Nums8 b A xs) := fun _ hb => h.since hb

/-- What a call leaves that answers nought. -/
def RetNought (W : World) (f : Int) (e : Ending) (w' : World) : Prop := ∃ A c, e = .returned (.tuple #[.agg #[.bool false, .slice A 0 c], .int .i64 f]) ∧ Nums w' A [] ∧ Below W.heap.size W w'
theorem retBigErr_nought {W w' : World} {f : Int} {e : Ending} (h : RetBigErr W 0 f e w') : RetNought W f e w' := by
  obtain ⟨A, c, rfl, ho, hb⟩ := h
  rw [limbs_zero] at ho ⊢
  exact ⟨A, c, rfl, ho.nums, hb⟩
def RetNought1 (W : World) (e : Ending) (w' : World) : Prop := ∃ A c, e = .returned (.agg #[.bool false, .slice A 0 c]) ∧ Nums w' A [] ∧ Below W.heap.size W w'
theorem retBig_nought {W w' : World} {e : Ending} (h : RetBig W 0 e w') : RetNought1 W e w' := by
  obtain ⟨A, c, rfl, ho, hb⟩ := h
  rw [limbs_zero] at ho ⊢
  exact ⟨A, c, rfl, ho.nums, hb⟩
/-- What a law's call leaves. -/
def LawTrue (W : World) (e : Ending) (w' : World) : Prop := e = .returned (.bool true) ∧ Below W.heap.size W w'
end Go.Proofs.YteggjfmcpodepaaDoor
namespace Go.Proofs.YteggjfmcpodepaaDoor
open Go.RowKit

theorem fin_num {w wz : World} {i : Int} {A : Option Addr} {c base g0 : Nat} (hown : Own8 wz base A c (tens i)) (L : Below w.heap.size w wz) (hg : w.heap.size ≤ g0) (hgb : g0 < base) (u v : Value) :
    RetNum w i (.returned (.agg #[.bool (decide (i < 0)), .slice A (tens i).length c])) ((wz.setCell ⟨g0, 0, none⟩ u).setCell ⟨g0, 1, none⟩ v) :=
  ⟨A, c, rfl, ((hown.setBelow hgb _).setBelow hgb _).mono (by omega), (L.setCell hg _).setCell hg _⟩

/-- What a call leaves that turns a number's sign: the digits are the same memory. -/
def RetTurn (W : World) (A : Option Addr) (c : Nat) (i : Int) (e : Ending) (w' : World) : Prop := e = .returned (.agg #[.bool (decide (-i < 0)), .slice A (tens i).length c]) ∧ Below W.heap.size W w'
set_option maxRecDepth 100000
set_option maxHeartbeats 1000000 in
theorem rturn_any (A : Option Addr) (c : Nat) (i : Int) (w : World) (hl : (tens i).length ≤ 1048576) :
    Calls Tryd.prog 33 #[.agg #[.bool (decide (i < 0)), .slice A (tens i).length c]] w (RetTurn w A c i) := by
  have hpos : i ≠ 0 → 0 < (tens i).length := fun h => by rw [tens_eq]; exact digs_pos (by decide) (by omega)
  have L : Below w.heap.size w ((w.alloc (.cells #[.bool (decide (i < 0)), .slice A (tens i).length c] 33)).alloc (.cells #[.bool false, .slice none 0 0] 33)) := ((Below.refl _ _).alloc (Nat.le_refl _) _).alloc (by simp) _
  rcases Int.lt_trichotomy i 0 with h | h | h
  · have e1 : decide (i < 0) = true := by simpa using h
    have e2 : decide (-i < 0) = false := by simp; omega
    unfold RetTurn
    rw [e2]
    rw [e1] at L ⊢
    clear e1 e2 h hpos
    go_enter Tryd.func33, Tryd.ntmps33
    go_wp2_with fail
    refine bodyPost_ret (v := .agg #[.bool false, .slice A (tens i).length c]) (by simp [results, Tryd.results33, go_sem]) rfl ?_
    exact ⟨rfl, by first | exact (L.setCell (by show w.heap.size ≤ w.heap.size + 1; omega) _).setCell (by show w.heap.size ≤ w.heap.size + 1; omega) _ | exact ((Below.refl _ _).alloc (Nat.le_refl _) _).alloc (by simp) _⟩
  · subst h
    have e1 : tens 0 = [] := tens_zero
    unfold RetTurn
    rw [e1] at L ⊢
    have e2 : decide ((0 : Int) < 0) = false := rfl
    have e3 : decide (-(0 : Int) < 0) = false := rfl
    rw [e3]
    rw [e2] at L ⊢
    clear e1 e2 e3 hpos hl
    go_enter Tryd.func33, Tryd.ntmps33
    go_wp2_with fail
    refine bodyPost_ret (v := .agg #[.bool false, .slice A 0 c]) (by simp [results, Tryd.results33, go_sem]) rfl ?_
    exact ⟨rfl, by first | exact (L.setCell (by show w.heap.size ≤ w.heap.size + 1; omega) _).setCell (by show w.heap.size ≤ w.heap.size + 1; omega) _ | exact ((Below.refl _ _).alloc (Nat.le_refl _) _).alloc (by simp) _⟩
  · have e1 : decide (i < 0) = false := by simp; omega
    have e2 : decide (-i < 0) = true := by simpa using h
    have h0 := hpos (by omega)
    unfold RetTurn
    rw [e2]
    rw [e1] at L ⊢
    clear e1 e2 h hpos
    go_enter Tryd.func33, Tryd.ntmps33
    go_wp2_with fail
    refine bodyPost_ret (v := .agg #[.bool true, .slice A (tens i).length c]) (by simp [results, Tryd.results33, go_sem]) rfl ?_
    exact ⟨rfl, by first | exact (L.setCell (by show w.heap.size ≤ w.heap.size + 1; omega) _).setCell (by show w.heap.size ≤ w.heap.size + 1; omega) _ | exact ((Below.refl _ _).alloc (Nat.le_refl _) _).alloc (by simp) _⟩

theorem cmpN_neg {i j : Int} (hi : i < 0) (hj : j < 0) : cmpN j.natAbs i.natAbs = cmpI i j := by
  unfold cmpN cmpI
  by_cases h : i < j
  · rw [if_pos (by omega), if_pos h]
  · rw [if_neg (by omega), if_neg h]
    by_cases h2 : j < i
    · rw [if_pos (by omega), if_pos h2]
    · rw [if_neg (by omega), if_neg h2]
theorem cmpN_pos {i j : Int} (hi : 0 ≤ i) (hj : 0 ≤ j) : cmpN i.natAbs j.natAbs = cmpI i j := by
  unfold cmpN cmpI
  by_cases h : i < j
  · rw [if_pos (by omega), if_pos h]
  · rw [if_neg (by omega), if_neg h]
    by_cases h2 : j < i
    · rw [if_pos (by omega), if_pos h2]
    · rw [if_neg (by omega), if_neg h2]
set_option maxHeartbeats 1000000 in
theorem rcmp_any (A B : Option Addr) (c d : Nat) (i j : Int) (w : World) (hx : Nums8 w A (tens i)) (hy : Nums8 w B (tens j)) (hl : (tens i).length ≤ 1048576) (hl' : (tens j).length ≤ 1048576) :
    Calls Tryd.prog 35 #[.agg #[.bool (decide (i < 0)), .slice A (tens i).length c], .agg #[.bool (decide (j < 0)), .slice B (tens j).length d]] w fun e w' => e = .returned (.int .i64 (cmpI i j)) ∧ Below w.heap.size w w' := by
  have L : Below w.heap.size w ((w.alloc (.cells #[.bool (decide (i < 0)), .slice A (tens i).length c] 33)).alloc (.cells #[.bool (decide (j < 0)), .slice B (tens j).length d] 33)) := ((Below.refl _ _).alloc (Nat.le_refl _) _).alloc (by simp) _
  have hx2 := hx.below L (Nat.le_refl _)
  have hy2 := hy.below L (Nat.le_refl _)
  by_cases hi : i < 0
  · have e1 : decide (i < 0) = true := by simpa using hi
    rw [e1] at L hx2 hy2 ⊢
    by_cases hj : j < 0
    · have e2 : decide (j < 0) = true := by simpa using hj
      rw [e2] at L hx2 hy2 ⊢
      have HC := Lib.hid (cmpN_neg hi hj)
      clear hi hj e1 e2 hx hy
      go_enter Tryd.func35, Tryd.ntmps35
      go_wp2_with (go_at_call 58; refine (rsizes_tens B A d c j i _ hy2 hx2 hl' hl).mono ?_; rintro e w' ⟨rfl, n, rfl⟩)
      go_ret
      exact ⟨ret_int' HC.out, ⟨L.os, L.tape, L.output, L.size, L.block⟩⟩
    · have e2 : decide (j < 0) = false := by simpa using hj
      rw [e2] at L hx2 hy2 ⊢
      have HC := Lib.hid (show (-1 : Int) = cmpI i j by unfold cmpI; rw [if_pos (by omega)])
      clear hi hj e1 e2 hx hy
      go_enter Tryd.func35, Tryd.ntmps35
      go_wp2_with fail
      go_ret
      exact ⟨ret_int' HC.out, L⟩
  · have e1 : decide (i < 0) = false := by simpa using hi
    rw [e1] at L hx2 hy2 ⊢
    by_cases hj : j < 0
    · have e2 : decide (j < 0) = true := by simpa using hj
      rw [e2] at L hx2 hy2 ⊢
      have HC := Lib.hid (show (1 : Int) = cmpI i j by unfold cmpI; rw [if_neg (by omega), if_pos (by omega)])
      clear hi hj e1 e2 hx hy
      go_enter Tryd.func35, Tryd.ntmps35
      go_wp2_with fail
      go_ret
      exact ⟨ret_int' HC.out, L⟩
    · have e2 : decide (j < 0) = false := by simpa using hj
      rw [e2] at L hx2 hy2 ⊢
      have HC := Lib.hid (cmpN_pos (i := i) (j := j) (by omega) (by omega))
      clear hi hj e1 e2 hx hy
      go_enter Tryd.func35, Tryd.ntmps35
      go_wp2_with (go_at_call 58; refine (rsizes_tens A B c d i j _ hx2 hy2 hl hl').mono ?_; rintro e w' ⟨rfl, n, rfl⟩)
      go_ret
      exact ⟨ret_int' HC.out, ⟨L.os, L.tape, L.output, L.size, L.block⟩⟩

theorem rsizes_b (A B : Option Addr) (c d : Nat) (i j : Int) (w : World) (hx : Nums8 w A (tens i)) (hy : Nums8 w B (tens j)) (hl : (tens i).length ≤ 1048576) (hl' : (tens j).length ≤ 1048576) :
    Calls Tryd.prog 58 #[.slice A (tens i).length c, .slice B (tens j).length d] w fun e w' => e = .returned (.int .i64 (cmpN i.natAbs j.natAbs)) ∧ Below w.heap.size w w' :=
  (rsizes_tens A B c d i j w hx hy hl hl').mono fun _ _ ⟨he, n, hw⟩ => ⟨he, by rw [hw]; exact below_drewN (Below.refl _ _) n⟩
/-- Two numbers boxed, and a third place for the answer: what stands in every later world. -/
def Three (w : World) (bi bj : Bool) (A B : Option Addr) (c d : Nat) (i j : Int) (b : World) : Prop :=
  (b.cell? ⟨w.heap.size, 0, none⟩ = some (.bool bi) ∧ b.cell? ⟨w.heap.size, 1, none⟩ = some (.slice A (tens i).length c)) ∧
  (b.cell? ⟨w.heap.size + 1, 0, none⟩ = some (.bool bj) ∧ b.cell? ⟨w.heap.size + 1, 1, none⟩ = some (.slice B (tens j).length d)) ∧
  (b.cell? ⟨w.heap.size + 1 + 1, 0, none⟩ = some (.bool false) ∧ b.cell? ⟨w.heap.size + 1 + 1, 1, none⟩ = some (.slice none 0 0) ∧ b.frozen? ⟨w.heap.size + 1 + 1, 0, none⟩ = false ∧ b.frozen? ⟨w.heap.size + 1 + 1, 1, none⟩ = false) ∧
  Nums8 b A (tens i) ∧ Nums8 b B (tens j)
def three (w : World) (bi bj : Bool) (A B : Option Addr) (c d : Nat) (i j : Int) : World :=
  ((w.alloc (.cells #[.bool bi, .slice A (tens i).length c] 33)).alloc (.cells #[.bool bj, .slice B (tens j).length d] 33)).alloc (.cells #[.bool false, .slice none 0 0] 33)
theorem three_below (w : World) (bi bj : Bool) (A B : Option Addr) (c d : Nat) (i j : Int) : Below w.heap.size w (three w bi bj A B c d i j) :=
  (((Below.refl _ _).alloc (Nat.le_refl _) _).alloc (by simp) _).alloc (by simp; omega) _
theorem three_size (w : World) (bi bj : Bool) (A B : Option Addr) (c d : Nat) (i j : Int) : (three w bi bj A B c d i j).heap.size = w.heap.size + 3 := by simp [three]
theorem three_since {w b : World} {bi bj : Bool} {A B : Option Addr} {c d : Nat} {i j : Int} (hx : Nums8 w A (tens i)) (hy : Nums8 w B (tens j)) (hb : Below (three w bi bj A B c d i j).heap.size (three w bi bj A B c d i j) b) : Three w bi bj A B c d i j b := by
  have hs := three_size w bi bj A B c d i j
  have X : Blk (three w bi bj A B c d i j) w.heap.size 33 #[.bool bi, .slice A (tens i).length c] := ((Blk.new _ _ _).alloc _).alloc _
  have Y : Blk (three w bi bj A B c d i j) (w.heap.size + 1) 33 #[.bool bj, .slice B (tens j).length d] := (Blk.new1 _ _ _ _).alloc _
  have Z : Blk (three w bi bj A B c d i j) (w.heap.size + 1 + 1) 33 #[.bool false, .slice none 0 0] := Blk.newAt (by simp)
  have x := (X.below hb X.lt).two; have y := (Y.below hb Y.lt).two; have z := (Z.below hb Z.lt).two
  exact ⟨⟨x.1, x.2.1⟩, ⟨y.1, y.2.1⟩, z, (hx.since (three_below w bi bj A B c d i j)).since hb, (hy.since (three_below w bi bj A B c d i j)).since hb⟩

section
variable (A B : Option Addr) (c d : Nat) (i j : Int) (w : World)
set_option maxHeartbeats 1000000 in
theorem rplus_same (b : Bool) (hi : decide (i < 0) = b) (hj : decide (j < 0) = b) (hx : Nums8 w A (tens i)) (hy : Nums8 w B (tens j)) (hl : (tens i).length ≤ 1000000) (hl' : (tens j).length ≤ 1000000) :
    Calls Tryd.prog 32 #[.agg #[.bool b, .slice A (tens i).length c], .agg #[.bool b, .slice B (tens j).length d]] w (RetNum w (i + j)) := by
  have hq : i.natAbs + j.natAbs = (i + j).natAbs := by cases b <;> simp at hi hj <;> omega
  have hs : b = decide (i + j < 0) := by cases b <;> simp at hi hj ⊢ <;> omega
  have HQ := Lib.hid hq; have HS := Lib.hid hs
  have hbb : (b == b) = true := by simp
  clear hq hs hi hj
  obtain ⟨W0, hW0⟩ : ∃ W0, W0 = three w b b A B c d i j := ⟨_, rfl⟩
  have LW : Below w.heap.size w W0 := by rw [hW0]; exact three_below ..
  have HWs : Hid (W0.heap.size = w.heap.size + 3) := by rw [hW0]; exact three_size ..
  have HF : Hid (∀ b1, Below W0.heap.size W0 b1 → Three w b b A B c d i j b1) := fun b1 hb => by rw [hW0] at hb; exact three_since hx hy hb
  clear hx hy
  unfold three at hW0
  go_enter Tryd.func32, Tryd.ntmps32
  go_wp2_with fail
  rw [← hW0]
  clear hW0
  have L : Below W0.heap.size W0 W0 := Below.refl _ _
  obtain ⟨⟨x0, x1⟩, ⟨y0, y1⟩, ⟨z0, z1, z2, z3⟩, hx, hy⟩ := HF.out _ L
  go_region_with (go_at_call 53; refine (rplusrow_any A B c d i j (i + j) _ (by first | exact hx | exact hx.drew) (by first | exact hy | exact hy.drew) hl hl' HQ.out).mono ?_; rintro e w1 ⟨A1, c1, rfl, ho1, hb⟩; have ho1 := ho1.mono (show W0.heap.size ≤ _ from L.size); have L := below_on L (by first | exact hb | exact below_undrew hb); clear x0 x1 y0 y1 z0 z1 z2 z3 hx hy hb; obtain ⟨⟨x0, x1⟩, ⟨y0, y1⟩, ⟨z0, z1, z2, z3⟩, hx, hy⟩ := HF.out _ L)
  all_goals
    go_wp2_with fail
    refine bodyPost_ret (v := .agg #[.bool b, .slice A1 (tens (i + j)).length c1]) (by simp [results, Tryd.results32, go_sem, z0, z1]) rfl ?_
    have h1 := HS.out
    have h2 := HWs.out
    have h3 := fin_num (w := w) (g0 := w.heap.size + 1 + 1) ho1 (LW.trans (L.mono LW.size)) (by omega) (by omega) (.bool b) (.slice A1 (tens (i + j)).length c1)
    rw [← h1] at h3
    exact h3
set_option maxHeartbeats 1000000 in
theorem rplus_diff (bi bj : Bool) (hne : bi ≠ bj) (hi : decide (i < 0) = bi) (hj : decide (j < 0) = bj) (hx : Nums8 w A (tens i)) (hy : Nums8 w B (tens j)) (hl : (tens i).length ≤ 1000000) (hl' : (tens j).length ≤ 1000000) :
    Calls Tryd.prog 32 #[.agg #[.bool bi, .slice A (tens i).length c], .agg #[.bool bj, .slice B (tens j).length d]] w (RetNum w (i + j)) := by
  have hbb : (bi == bj) = false := by simpa using hne
  obtain ⟨W0, hW0⟩ : ∃ W0, W0 = three w bi bj A B c d i j := ⟨_, rfl⟩
  have LW : Below w.heap.size w W0 := by rw [hW0]; exact three_below ..
  have HWs : Hid (W0.heap.size = w.heap.size + 3) := by rw [hW0]; exact three_size ..
  have HF : Hid (∀ b1, Below W0.heap.size W0 b1 → Three w bi bj A B c d i j b1) := fun b1 hb => by rw [hW0] at hb; exact three_since hx hy hb
  clear hx hy
  unfold three at hW0
  by_cases hle : j.natAbs ≤ i.natAbs
  · have hq : i.natAbs - j.natAbs = (i + j).natAbs := by cases bi <;> cases bj <;> simp at hi hj hne <;> omega
    have hcmp : ¬ cmpN i.natAbs j.natAbs < 0 := by unfold cmpN; rw [if_neg (by omega)]; split <;> omega
    have hcmp' : 0 ≤ cmpN i.natAbs j.natAbs := by omega
    have hs : decide (i + j < 0) = (bi && decide (0 < (tens (i + j)).length)) := by
      by_cases h0 : i + j = 0
      · rw [h0, tens_zero]; simp
      · have : 0 < (tens (i + j)).length := by rw [tens_eq]; exact digs_pos (by decide) (by omega)
        cases bi <;> cases bj <;> simp [this] at hi hj hne ⊢ <;> omega
    have HQ := Lib.hid hq; have HLE := Lib.hid hle; have HS := Lib.hid hs
    clear hq hcmp hs hi hj hne hle
    go_enter Tryd.func32, Tryd.ntmps32
    have L : Below W0.heap.size W0 W0 := Below.refl _ _
    go_upto_region 1 with fail
    rw [← hW0]
    clear hW0
    obtain ⟨⟨x0, x1⟩, ⟨y0, y1⟩, ⟨z0, z1, z2, z3⟩, hx, hy⟩ := HF.out _ L
    go_wp2_with (go_at_call 58; refine (rsizes_b A B c d i j _ hx hy (by omega) (by omega)).mono ?_; rintro e w1 ⟨rfl, hb⟩; have L := below_on L hb; clear x0 x1 y0 y1 z0 z1 z2 z3 hx hy hb; obtain ⟨⟨x0, x1⟩, ⟨y0, y1⟩, ⟨z0, z1, z2, z3⟩, hx, hy⟩ := HF.out _ L; refine Hid.out ?_)
    refine Lib.hid ?_
    go_wp2_with (go_at_call 54; refine (rminusrow_any A B c d i j (i + j) _ hx hy (by omega) (by omega) HLE.out HQ.out).mono ?_; rintro e w1 ⟨A1, c1, rfl, ho1, hb⟩; have ho1 := ho1.mono (show W0.heap.size ≤ _ from L.size); have L := below_on L hb; clear x0 x1 y0 y1 z0 z1 z2 z3 hx hy hb; obtain ⟨⟨x0, x1⟩, ⟨y0, y1⟩, ⟨z0, z1, z2, z3⟩, hx, hy⟩ := HF.out _ L; refine Hid.out ?_)
    refine Lib.hid ?_
    cases bi
    · go_wp2_with fail
      refine bodyPost_ret (v := .agg #[.bool false, .slice A1 (tens (i + j)).length c1]) (by simp [results, Tryd.results32, go_sem, z0, z1]) rfl ?_
      have h1 := HS.out
      have h2 := HWs.out
      have h3 := fin_num (w := w) (g0 := w.heap.size + 1 + 1) ho1 (LW.trans (L.mono LW.size)) (by omega) (by omega) (.bool false) (.slice A1 (tens (i + j)).length c1)
      rw [Bool.false_and] at h1
      rw [h1] at h3
      exact h3
    · by_cases h0 : 0 < (tens (i + j)).length
      · go_wp2_with fail
        refine bodyPost_ret (v := .agg #[.bool true, .slice A1 (tens (i + j)).length c1]) (by simp [results, Tryd.results32, go_sem, z0, z1]) rfl ?_
        have h1 := HS.out
        have h2 := HWs.out
        have h3 := fin_num (w := w) (g0 := w.heap.size + 1 + 1) ho1 (LW.trans (L.mono LW.size)) (by omega) (by omega) (.bool true) (.slice A1 (tens (i + j)).length c1)
        rw [Bool.true_and, decide_eq_true h0] at h1
        rw [h1] at h3
        exact h3
      · have h00 : (tens (i + j)).length = 0 := by omega
        have hd0 : decide (0 < (tens (i + j)).length) = false := by simpa using h0
        have H00 := Lib.hid h00; have HD0 := Lib.hid hd0
        clear h00 hd0
        go_wp2_with fail
        refine bodyPost_ret (v := .agg #[.bool false, .slice A1 (tens (i + j)).length c1]) (by simp [results, Tryd.results32, go_sem, z0, z1]) rfl ?_
        have h1 := HS.out
        have h2 := HWs.out
        have h3 := fin_num (w := w) (g0 := w.heap.size + 1 + 1) ho1 (LW.trans (L.mono LW.size)) (by omega) (by omega) (.bool false) (.slice A1 (tens (i + j)).length c1)
        rw [Bool.true_and, HD0.out] at h1
        rw [h1] at h3
        exact h3
  · have hq : j.natAbs - i.natAbs = (i + j).natAbs := by cases bi <;> cases bj <;> simp at hi hj hne <;> omega
    have hcmp : cmpN i.natAbs j.natAbs = -1 := by unfold cmpN; rw [if_pos (by omega)]
    have hs : decide (i + j < 0) = bj := by cases bi <;> cases bj <;> simp at hi hj hne ⊢ <;> omega
    have HQ := Lib.hid hq; have HLE := Lib.hid (show i.natAbs ≤ j.natAbs by omega); have HS := Lib.hid hs
    have HCM := Lib.hid hcmp
    clear hq hcmp hs hi hj hne hle
    go_enter Tryd.func32, Tryd.ntmps32
    have L : Below W0.heap.size W0 W0 := Below.refl _ _
    go_upto_region 1 with fail
    rw [← hW0]
    clear hW0
    obtain ⟨⟨x0, x1⟩, ⟨y0, y1⟩, ⟨z0, z1, z2, z3⟩, hx, hy⟩ := HF.out _ L
    go_wp2_with (go_at_call 58; refine (rsizes_b A B c d i j _ hx hy (by omega) (by omega)).mono ?_; rintro e w1 ⟨rfl, hb⟩; have L := below_on L hb; clear x0 x1 y0 y1 z0 z1 z2 z3 hx hy hb; obtain ⟨⟨x0, x1⟩, ⟨y0, y1⟩, ⟨z0, z1, z2, z3⟩, hx, hy⟩ := HF.out _ L; rw [HCM.out]; refine Hid.out ?_)
    refine Lib.hid ?_
    go_upto_region 6 with fail
    go_region_with (go_at_call 54; refine (rminusrow_any B A d c j i (i + j) _ (by first | exact hy | exact hy.drew) (by first | exact hx | exact hx.drew) (by omega) (by omega) HLE.out HQ.out).mono ?_; rintro e w1 ⟨A1, c1, rfl, ho1, hb⟩; have ho1 := ho1.mono (show W0.heap.size ≤ _ from L.size); have L := below_on L (by first | exact hb | exact below_undrew hb); clear x0 x1 y0 y1 z0 z1 z2 z3 hx hy hb; obtain ⟨⟨x0, x1⟩, ⟨y0, y1⟩, ⟨z0, z1, z2, z3⟩, hx, hy⟩ := HF.out _ L)
    all_goals
      go_wp2_with fail
      refine bodyPost_ret (v := .agg #[.bool bj, .slice A1 (tens (i + j)).length c1]) (by simp [results, Tryd.results32, go_sem, z0, z1]) rfl ?_
      have h1 := HS.out
      have h2 := HWs.out
      have h3 := fin_num (w := w) (g0 := w.heap.size + 1 + 1) ho1 (LW.trans (L.mono LW.size)) (by omega) (by omega) (.bool bj) (.slice A1 (tens (i + j)).length c1)
      rw [h1] at h3
      exact h3
theorem rplus_any (hx : Nums8 w A (tens i)) (hy : Nums8 w B (tens j)) (hl : (tens i).length ≤ 1000000) (hl' : (tens j).length ≤ 1000000) :
    Calls Tryd.prog 32 #[.agg #[.bool (decide (i < 0)), .slice A (tens i).length c], .agg #[.bool (decide (j < 0)), .slice B (tens j).length d]] w (RetNum w (i + j)) := by
  by_cases h : decide (i < 0) = decide (j < 0)
  · rw [← h]; exact rplus_same A B c d i j w _ rfl h.symm hx hy hl hl'
  · exact rplus_diff A B c d i j w _ _ h rfl rfl hx hy hl hl'
end
end Go.Proofs.YteggjfmcpodepaaDoor

/- Texts of this claim. -/
import Derived.Test.YtjhmifebmplahaaP10
import Derived.Test.YtjhmifebmplahaaRows
import Derived.WalkSpells
import Derived.WalkLawsBesides
import Derived.BigQuiet
import Derived.Deep.QuietTactic
import Derived.Deep.RegionHeld3
import Derived.Deep.DeepCutAuto
import Derived.Lib.Hide
import Derived.Laws.CopyOwn
namespace Go.Proofs.Ytjhmifebmplahaa
open Go.RowKit
def lenOf : Value → Nat | .slice _ n _ => n | _ => 0
theorem zdx {a b : Bool} (h : a = b) : Ending.returned (.bool a) = .returned (.bool b) := by rw [h]
theorem nth_lt {b : Nat} (hb : 0 < b) {xs : List Nat} (h : small b xs) (k : Nat) : nth xs k < b := by
 unfold nth; have := small_getD hb h k; omega
theorem nth_past (xs : List Nat) (k : Nat) (h : xs.length ≤ k) : nth xs k = 0 := by
 unfold nth; rw [ku xs k h]; rfl
theorem nth_snoc (ys : List Nat) (v : Nat) (j : Nat) : nth (ys ++ [v]) j = if j = ys.length then (v : Int) else nth ys j := by
 unfold nth;by_cases h : j = ys.length
 · subst h; simp
 · rw [if_neg h];by_cases h1 : j < ys.length
   · simp [List.getElem?_append_left h1]
   · simp [List.getElem?_append_right (show ys.length ≤ j by omega), List.getElem?_eq_none (show ys.length ≤ j by omega)]
     rw [List.getElem?_eq_none]; rfl; simp; omega
theorem nth_set (ys : List Nat) (i v : Nat) (h : i < ys.length) (j : Nat) : nth (ys.set i v) j = if j = i then (v : Int) else nth ys j := by
 unfold nth;by_cases hj : j = i
 · subst hj; simp [h]
 · rw [if_neg hj]; simp [show ¬ i = j from fun e => hj e.symm]
theorem nth_nil (j : Nat) : nth [] j = 0 := by unfold nth; simp
def rowOf (ys : List Nat) (j : Nat) : Value := .int .u64 (nth ys j)
def Row (w : World) (g n : Nat) (ys : List Nat) : Prop := w.rowIs g 27 n (rowOf ys) ∧ ys.length ≤ n
section
variable {w w' : World} {g n : Nat} {ys : List Nat}
theorem Row.cell (h : Row w g n ys) {j : Nat} (hj : j < n) : w.cell? ⟨g, j, none⟩ = some (.int .u64 (nth ys j)) := h.1.cell hj
theorem Row.frozen (h : Row w g n ys) (j : Nat) : w.frozen? ⟨g, j, none⟩ = false := h.1.frozen j
theorem Row.lt (h : Row w g n ys) : g < w.heap.size := h.1.lt
theorem Row.made (w : World) (n : Nat) : Row (w.alloc (.cells (madeCells #[.int .u64 0] n) 27)) w.heap.size n [] :=
 ⟨(World.rowIs_made w _ n _).congr fun i _ => by unfold rowOf; rw [nth_nil], Nat.zero_le _⟩
theorem Row.snoc (h : Row w g n ys) (v : Nat) (hn : ys.length < n) : Row (w.setCell ⟨g, ys.length, none⟩ (.int .u64 (v : Int))) g n (ys ++ [v]) :=
 ⟨(h.1.set ys.length _).congr fun i _ => by unfold rowOf; rw [nth_snoc]; split <;> rfl, by simp; omega⟩
theorem Row.set (h : Row w g n ys) (i v : Nat) (hi : i < ys.length) : Row (w.setCell ⟨g, i, none⟩ (.int .u64 (v : Int))) g n (ys.set i v) :=
 ⟨(h.1.set i _).congr fun j _ => by unfold rowOf; rw [nth_set _ _ _ hi]; split <;> rfl, by simpa using h.2⟩
theorem Row.of_block (h : Row w g n ys) (e : w'.heap[g]? = w.heap[g]?) : Row w' g n ys := ⟨h.1.of_block e, h.2⟩
theorem Row.alloc (h : Row w g n ys) (o : Obj) : Row (w.alloc o) g n ys := ⟨h.1.alloc o, h.2⟩
theorem Row.drew (h : Row w g n ys) : Row w.drew g n ys := h
theorem Row.below {B : Nat} (h : Row w g n ys) (hb : Below B w w') (hg : g < B) : Row w' g n ys := h.of_block (hb.block g hg)
theorem Row.fill (h : Row w g n ys) : Row w g n (ys ++ List.replicate (n - ys.length) 0) := by
 refine ⟨h.1.congr fun i hi => ?_, by have := h.2; simp; omega⟩;unfold rowOf nth;by_cases h1 : i < ys.length
 · simp [List.getElem?_append_left h1]
 · simp [List.getElem?_append_right (show ys.length ≤ i by omega), List.getElem?_eq_none (show ys.length ≤ i by omega), List.getElem?_replicate]
   split <;> rfl
end
def Own (w : World) (base : Nat) (A : Option Addr) (c : Nat) (xs : List Nat) : Prop :=
 w.ownsRow base 27 1 (.slice A xs.length c) xs.length (xs.map fun x : Nat => Value.int .u64 (x : Int)) ∧ ∀ x ∈ xs, x < 18446744073709551616
section
variable {w w' : World} {base : Nat} {A : Option Addr} {c : Nat} {xs : List Nat}
theorem nth_bound (h : ∀ x ∈ xs, x < 18446744073709551616) (k : Nat) : nth xs k < 18446744073709551616 := by
 unfold nth;by_cases hk : k < xs.length
 · have := h _ (List.getElem_mem hk); simp only [List.getD, List.getElem?_eq_getElem hk, Option.getD_some]; omega
 · rw [ku xs k (by omega)]; simp
theorem Own.nums (h : Own w base A c xs) : Nums w A xs := by
 refine ⟨nth_bound h.2, fun h0 => ?_⟩;rcases h.1.2 with ⟨_, hn⟩ | ⟨g, cap, cur, hv, hg, hh, hnc, _, hsz, hcur⟩
 · omega
 · injection hv with hA _ hc
   subst hA;refine ⟨g, 0, rfl, (Array.getElem?_eq_some_iff.1 hh).1, fun k hk => ?_⟩;rw [Nat.zero_add, cell_of_row w g k cur _ (0, 0) hh];have e : cur[k]? = cur.toList[k]? := by simp
   have e2 : cur.toList[k]? = (cur.toList.take (xs.length * 1))[k]? := by rw [List.getElem?_take, if_pos (by omega)]
   rw [e, e2, hcur];simp [nth, hk]
theorem Own.nil (w : World) (base : Nat) : Own w base none 0 [] := ⟨World.ownsRow_nil _ _ _ _, fun _ h => by cases h⟩
theorem Own.kept {row : Option Nat} (h : Own w base A c xs) (hg : w.grownBy w' row) (hne : (Value.slice A xs.length c).ownBlock = none ∨ (Value.slice A xs.length c).ownBlock ≠ row) : Own w' base A c xs := ⟨h.1.kept hg hne, h.2⟩
theorem Own.below {B : Nat} (h : Own w base A c xs) (hb : Below B w w') (hB : w.heap.size ≤ B) : Own w' base A c xs :=
 h.kept (row := none) ⟨hb.os, hb.tape, hb.output, hb.size, fun k hk _ => hb.block k (by omega)⟩ (by cases (Value.slice A xs.length c).ownBlock <;> simp)
theorem Own.alloc (h : Own w base A c xs) (o : Obj) : Own (w.alloc o) base A c xs := ⟨h.1.alloc o, h.2⟩
theorem Own.drew (h : Own w base A c xs) : Own w.drew base A c xs := h
theorem Own.mono {b' : Nat} (h : Own w base A c xs) (hb : b' ≤ base) : Own w b' A c xs := by
 refine ⟨⟨h.1.1, ?_⟩, h.2⟩;rcases h.1.2 with h2 | ⟨g, cap, cur, hv, hg, r⟩
 · exact .inl h2
 · exact .inr ⟨g, cap, cur, hv, by omega, r⟩
theorem Own.setCell (h : Own w base A c xs) {p : Addr} (hp : ∀ q, A = some q → q.block ≠ p.block) (u : Value) : Own (w.setCell p u) base A c xs := by
 refine ⟨⟨h.1.1, ?_⟩, h.2⟩;rcases h.1.2 with h2 | ⟨g, cap, cur, hv, hg, hh, r⟩
 · exact .inl h2
 · refine .inr ⟨g, cap, cur, hv, hg, ?_, r⟩;rw [Below.heap_setCell _ _ _ _ (by injection hv with e1; exact hp _ e1)];exact hh
theorem Own.setBelow (h : Own w base A c xs) {p : Addr} (hp : p.block < base) (u : Value) : Own (w.setCell p u) base A c xs :=
 ⟨ownsRow_setCell_below h.1 hp u, h.2⟩
theorem Own.ge (h : Own w base A c xs) : ∀ q, A = some q → base ≤ q.block ∧ q.block < w.heap.size := by
 intro q hq;subst hq;exact h.1.lt q.block rfl
theorem Nums.keep (h : Nums w A xs) (hs : w.heap.size ≤ w'.heap.size) (hk : ∀ p : Addr, p.block < w.heap.size → w'.cell? p = w.cell? p) : Nums w' A xs :=
 ⟨h.1, fun h0 => by
  obtain ⟨b, o, rfl, hb, hc⟩ := h.2 h0;exact ⟨b, o, rfl, by omega, fun k hk' => (hk _ hb).trans (hc k hk')⟩⟩
theorem Nums.alloc (h : Nums w A xs) (o : Obj) : Nums (w.alloc o) A xs := h.keep (by simp) fun p hp => World.cell?_alloc_lt w o p hp
theorem Nums.drew (h : Nums w A xs) : Nums w.drew A xs := h
theorem Nums.below {B : Nat} (h : Nums w A xs) (hb : Below B w w') (hB : w.heap.size ≤ B) : Nums w' A xs := h.keep hb.size fun _ hp => hb.cell (by omega)
theorem Nums.setCell (h : Nums w A xs) {p : Addr} (hp : ∀ q, A = some q → q.block ≠ p.block) (u : Value) : Nums (w.setCell p u) A xs :=
 ⟨h.1, fun h0 => by
  obtain ⟨b, o, rfl, hb, hc⟩ := h.2 h0;refine ⟨b, o, rfl, by simpa [World.setCell] using hb, fun k hk' => ?_⟩;rw [World.cell?_setCell_other _ _ _ _ (fun e => hp _ rfl (by rw [e]))];exact hc k hk'⟩
end
theorem Blk.two {w : World} {g : Nat} {t : TypeId} {u v : Value} (h : Blk w g t #[u, v]) :
 w.cell? ⟨g, 0, none⟩ = some u ∧ w.cell? ⟨g, 1, none⟩ = some v ∧ w.frozen? ⟨g, 0, none⟩ = false ∧ w.frozen? ⟨g, 1, none⟩ = false :=
 ⟨h.cell 0, h.cell 1, h.frozen 0, h.frozen 1⟩
theorem Blk.first (w : World) (t : TypeId) (cs : Array Value) (o : Obj) : Blk ((w.alloc (.cells cs t)).alloc o) w.heap.size t cs := (Blk.new w t cs).alloc o
theorem Blk.new1 (w : World) (o : Obj) (t : TypeId) (cs : Array Value) : Blk ((w.alloc o).alloc (.cells cs t)) (w.heap.size + 1) t cs := by
 have h := Blk.new (w.alloc o) t cs;rwa [World.size_alloc] at h
/-! ### copy into a new row -/
/-! ### append of new words to a slice of the call's own -/
theorem Own.of_owns {w : World} {base n : Nat} {v : Value} {xs : List Nat} (h : w.ownsRow base 27 1 v n (xs.map fun x : Nat => Value.int .u64 (x : Int))) (h64 : ∀ x ∈ xs, x < 18446744073709551616) :
 ∃ A c, v = .slice A xs.length c ∧ Own w base A c xs := by
 have hn : xs.length = n := by simpa using h.1
 subst hn;rcases h.2 with ⟨rfl, hz⟩ | ⟨g, cap, cur, rfl, r⟩
 · exact ⟨none, 0, by rw [hz], by rw [List.eq_nil_of_length_eq_zero hz]; exact Own.nil _ _⟩
 · exact ⟨some ⟨g, 0, none⟩, cap, rfl, h, h64⟩
theorem Below.own {w0 w w' : World} {base : Nat} {A : Option Addr} {c : Nat} {xs : List Nat} (hb : Below base w0 w) (hown : Own w base A c xs) (hbase : base ≤ w.heap.size) (hg : w.grownBy w' (Value.slice A xs.length c).ownBlock) : Below base w0 w' :=
 hb.grown hg hbase (fun k hk => by
  match A, hown, hk with
  | some q, hown, hk =>
   have h1 := hown.ge q rfl;simp only [Value.ownBlock, Option.some.injEq] at hk
   omega
  | none, _, hk => simp [Value.ownBlock] at hk)
theorem Own.cut {w : World} {base : Nat} {A : Option Addr} {c : Nat} {xs : List Nat} (h : Own w base A c xs) (hc : xs ≠ []) {k : Nat} (hk : k ≤ xs.length) : Own w base A c (xs.take k) := by
 refine ⟨⟨by simp, ?_⟩, fun x hx => h.2 x (List.mem_of_mem_take hx)⟩;rcases h.1.2 with ⟨_, h0⟩ | ⟨g, cap, cur, hv, hg, hh, hle, hcap, hsz, hcur⟩
 · exact absurd (List.eq_nil_of_length_eq_zero h0) hc
 · injection hv with hA hn hcc
   subst hA; subst hcc;have hkl : (xs.take k).length = k := by rw [List.length_take]; omega
   refine .inr ⟨g, c, cur, rfl, hg, hh, by omega, hcap, hsz, ?_⟩;rw [hkl, List.map_take, ← hcur, List.take_take, Nat.mul_one, Nat.mul_one, Nat.min_eq_left hk]
/-! ### whole numbers -/
def B18 : Nat := 1000000000000000000
theorem B18_two : 2 ≤ B18 := by unfold B18; omega
theorem B18_eq : B18 = 1000000000000000000 := rfl
@[irreducible] def limbs (i : Int) : List Nat := gi B18 i.natAbs
def sgn (neg : Bool) (n : Nat) : Int := if neg then -(n : Int) else n
theorem sgn_natAbs (neg : Bool) (n : Nat) : (sgn neg n).natAbs = n := by unfold sgn; cases neg <;> simp
theorem sgn_neg (neg : Bool) (n : Nat) : decide (sgn neg n < 0) = (neg && decide (n ≠ 0)) := by
 cases neg
 · simp [sgn]
 · simp only [sgn, if_true, Bool.true_and]; by_cases h : n = 0 <;> simp [h]; omega
def RetBig (W : World) (i : Int) (e : Ending) (w' : World) : Prop :=
 ∃ A c, e = .returned (.agg #[.bool (decide (i < 0)), .slice A (limbs i).length c]) ∧ Own w' W.heap.size A c (limbs i) ∧ Below W.heap.size W w'
def RetBigErr (W : World) (i : Int) (f : Int) (e : Ending) (w' : World) : Prop :=
 ∃ A c, e = .returned (.tuple #[.agg #[.bool (decide (i < 0)), .slice A (limbs i).length c], .int .i64 f]) ∧ Own w' W.heap.size A c (limbs i) ∧ Below W.heap.size W w'
def RetRow (W : World) (b len v : Nat) (e : Ending) (w' : World) : Prop :=
 ∃ g zs, e = .returned (.slice (some ⟨g, 0, none⟩) zs.length zs.length) ∧ Row w' g len zs ∧ zs.length = len ∧ small b zs ∧ val b zs = v ∧ W.heap.size ≤ g ∧ Below W.heap.size W w'
theorem Row.nums {w' : World} {g len : Nat} {zs : List Nat} (h : Row w' g len zs) (hz : zs.length = len) (h64 : ∀ x ∈ zs, x < 18446744073709551616) : Nums w' (some ⟨g, 0, none⟩) zs :=
 ⟨nth_bound h64, fun _ => ⟨g, 0, rfl, h.lt, fun k hk => by rw [Nat.zero_add]; exact h.cell (by omega)⟩⟩
def xy (xs : List Nat) : Bool := (List.range xs.length).all fun k => decide (nth xs k < 1000000000000000000)
theorem allLt_no {xs : List Nat} {k : Nat} (hk : k < xs.length) (h : 1000000000000000000 ≤ nth xs k) : xy xs = false := by
 unfold xy;rw [List.all_eq_false];exact ⟨k, by simpa using hk, by simpa using h⟩
theorem allLt_yes {xs : List Nat} (h : ∀ k, k < xs.length → nth xs k < 1000000000000000000) : xy xs = true := by
 unfold xy;rw [List.all_eq_true];intro k hk;simpa using h k (by simpa using hk)
def vw (neg : Bool) (xs : List Nat) : Bool :=
 if xs.length = 0 then !neg else if 30 < xs.length then false else if nth xs (xs.length - 1) = 0 then false else xy xs
section
variable (neg : Bool) (c : Nat) (w : World)
set_option maxRecDepth 100000
theorem good_nil (A : Option Addr) :
 Calls Try.prog 51 #[.agg #[.bool neg, .slice A 0 c]] w fun e w' => e = .returned (.bool !neg) ∧ Below w.heap.size w w' := by
 go_enter Try.func51, Try.ntmps51
 go_wp2
 go_ret
 exact ⟨rfl, (Below.refl _ _).alloc (Nat.le_refl _) _⟩
theorem good_long (A : Option Addr) (n : Nat) (hn : 30 < n) (hm : n ≤ 9223372036854775807) :
 Calls Try.prog 51 #[.agg #[.bool neg, .slice A n c]] w fun e w' => e = .returned (.bool false) ∧ Below w.heap.size w w' := by
 go_enter Try.func51, Try.ntmps51
 go_wp2
 go_ret
 exact ⟨rfl, (Below.refl _ _).alloc (Nat.le_refl _) _⟩
theorem good_last (b o : Nat) (n : Nat) (h0 : 0 < n) (hn : n ≤ 30) (hb : b < w.heap.size) (hc : w.cell? ⟨b, o + (n - 1), none⟩ = some (.int .u64 0)) :
 Calls Try.prog 51 #[.agg #[.bool neg, .slice (some ⟨b, o, none⟩) n c]] w fun e w' => e = .returned (.bool false) ∧ Below w.heap.size w w' := by
 go_enter Try.func51, Try.ntmps51
 go_wp2
 go_ret
 exact ⟨rfl, (Below.refl _ _).alloc (Nat.le_refl _) _⟩
set_option maxHeartbeats 400000 in
theorem good_body (b o : Nat) (xs : List Nat) (h0 : 0 < xs.length) (hn : xs.length ≤ 30) (hb : b < w.heap.size)
 (hc : ∀ k, k < xs.length → w.cell? ⟨b, o + k, none⟩ = some (.int .u64 (nth xs k))) (hl : nth xs (xs.length - 1) ≠ 0) :
 Calls Try.prog 51 #[.agg #[.bool neg, .slice (some ⟨b, o, none⟩) xs.length c]] w fun e w' => e = .returned (.bool (xy xs)) ∧ Below w.heap.size w w' := by
 have hc1 := hc (xs.length - 1) (by omega);have hl0 : (nth xs (xs.length - 1) == 0) = false := by simpa using hl
 have hl1 : ((xs.length : Int) == 0) = false := beq_eq_false_iff_ne.2 (by omega);go_enter Try.func51, Try.ntmps51
 go_wp2
 go_loop [25] (fun i => ∃ k : Nat, k ≤ xs.length ∧ i = .int .i64 k ∧ ∀ j, j < k → nth xs j < 1000000000000000000) (fun i => xs.length - (intOf i).toNat)
 case atStart => exact ⟨0, Nat.zero_le _, rfl, fun j hj => absurd hj (by omega)⟩
 case round =>
  obtain ⟨k, hk, rfl, hlt⟩ := hrel;have HL := Lib.hid hlt; clear hlt;have hcell : k < xs.length → w.cell? ⟨b, o + k, none⟩ = some (.int .u64 (nth xs k)) := hc k;clear hc hc1;go_wp2
  · go_ret
    exact ⟨zdx (allLt_no (by assumption) (by assumption)).symm, (Below.refl _ _).alloc (Nat.le_refl _) _⟩
  · have h1 : k < xs.length := by assumption
    have h2 : nth xs k < 1000000000000000000 := by assumption
    go_round
    case rel => exact ⟨k + 1, by omega, by go_num, fun j hj => by
     by_cases hjk : j = k
     · rw [hjk]; exact h2
     · exact HL.out j (by omega)⟩
    case measure => simp [intOf]; omega
  · have h1 : ¬ k < xs.length := by assumption
    go_ret
    exact ⟨zdx (allLt_yes fun j hj => HL.out j (by omega)).symm, (Below.refl _ _).alloc (Nat.le_refl _) _⟩
theorem kd (A : Option Addr) (xs : List Nat) (hm : xs.length ≤ 9223372036854775807) (hx : Nums w A xs) :
 Calls Try.prog 51 #[.agg #[.bool neg, .slice A xs.length c]] w fun e w' => e = .returned (.bool (vw neg xs)) ∧ Below w.heap.size w w' := by
 unfold vw;by_cases h0 : xs.length = 0
 · rw [if_pos h0, h0]; exact good_nil neg c w A
 rw [if_neg h0];by_cases h1 : 30 < xs.length
 · rw [if_pos h1]; exact good_long neg c w A _ h1 hm
 rw [if_neg h1];obtain ⟨b, o, rfl, hb, hc⟩ := hx.2 (by omega);by_cases h2 : nth xs (xs.length - 1) = 0
 · rw [if_pos h2];exact good_last neg c w b o _ (by omega) (by omega) hb (by rw [hc _ (by omega), h2])
 rw [if_neg h2];exact good_body neg c w b o xs (by omega) (by omega) hb hc h2
end
section
variable (neg : Bool) (c : Nat) (w : World)
set_option maxRecDepth 100000
theorem rgood_nil (A : Option Addr) :
 Calls Try.prog 47 #[.agg #[.bool neg, .slice A 0 c]] w fun e w' => e = .returned (.bool !neg) ∧ Below w.heap.size w w' := by
 go_enter Try.func47, Try.ntmps47
 go_wp2
 go_ret
 exact ⟨rfl, (Below.refl _ _).alloc (Nat.le_refl _) _⟩
theorem rgood_long (A : Option Addr) (n : Nat) (hn : 30 < n) (hm : n ≤ 9223372036854775807) :
 Calls Try.prog 47 #[.agg #[.bool neg, .slice A n c]] w fun e w' => e = .returned (.bool false) ∧ Below w.heap.size w w' := by
 go_enter Try.func47, Try.ntmps47
 go_wp2
 go_ret
 exact ⟨rfl, (Below.refl _ _).alloc (Nat.le_refl _) _⟩
set_option maxHeartbeats 400000 in
theorem rgood_body (b o : Nat) (xs : List Nat) (h0 : 0 < xs.length) (hn : xs.length ≤ 30) (hb : b < w.heap.size)
 (hc : ∀ k, k < xs.length → w.cell? ⟨b, o + k, none⟩ = some (.int .u64 (nth xs k))) :
 Calls Try.prog 47 #[.agg #[.bool neg, .slice (some ⟨b, o, none⟩) xs.length c]] w fun e w' => e = .returned (.bool (if nth xs (xs.length - 1) = 0 then false else xy xs)) ∧ Below w.heap.size w w' := by
 have hc1 := hc (xs.length - 1) (by omega);have hl1 : ((xs.length : Int) == 0) = false := beq_eq_false_iff_ne.2 (by omega);obtain ⟨last, hlast⟩ : ∃ v, v = nth xs (xs.length - 1) := ⟨_, rfl⟩;rw [← hlast] at hc1;rw [show (if nth xs (xs.length - 1) = 0 then false else xy xs) = (last != 0 && xy xs) from by rw [← hlast]; by_cases h : last = 0 <;> simp [h]];go_enter Try.func47, Try.ntmps47
 go_wp2
 go_loop [4] (fun i => ∃ k : Nat, k ≤ xs.length ∧ i = .int .i64 k ∧ ∀ j, j < k → nth xs j < 1000000000000000000) (fun i => xs.length - (intOf i).toNat)
 case atStart => exact ⟨0, Nat.zero_le _, rfl, fun j hj => absurd hj (by omega)⟩
 case round =>
  obtain ⟨k, hk, rfl, hlt⟩ := hrel;have HL := Lib.hid hlt; clear hlt;have hcell : k < xs.length → w.cell? ⟨b, o + k, none⟩ = some (.int .u64 (nth xs k)) := hc k;clear hc hlast;go_wp2
  · go_ret
    exact ⟨zdx (by rw [allLt_no (by assumption) (by assumption), Bool.and_false]), (Below.refl _ _).alloc (Nat.le_refl _) _⟩
  · have h1 : k < xs.length := by assumption
    have h2 : nth xs k < 1000000000000000000 := by assumption
    go_round
    case rel => exact ⟨k + 1, by omega, by go_num, fun j hj => by
     by_cases hjk : j = k
     · rw [hjk]; exact h2
     · exact HL.out j (by omega)⟩
    case measure => simp [intOf]; omega
  · have h1 : ¬ k < xs.length := by assumption
    go_ret
    exact ⟨zdx (by rw [allLt_yes fun j hj => HL.out j (by omega), Bool.and_true]), (Below.refl _ _).alloc (Nat.le_refl _) _⟩
theorem rgood_any (A : Option Addr) (xs : List Nat) (hm : xs.length ≤ 9223372036854775807) (hx : Nums w A xs) :
 Calls Try.prog 47 #[.agg #[.bool neg, .slice A xs.length c]] w fun e w' => e = .returned (.bool (vw neg xs)) ∧ Below w.heap.size w w' := by
 unfold vw;by_cases h0 : xs.length = 0
 · rw [if_pos h0, h0]; exact rgood_nil neg c w A
 rw [if_neg h0];by_cases h1 : 30 < xs.length
 · rw [if_pos h1]; exact rgood_long neg c w A _ h1 hm
 rw [if_neg h1];obtain ⟨b, o, rfl, hb, hc⟩ := hx.2 (by omega);exact rgood_body neg c w b o xs (by omega) (by omega) hb hc
end
@[irreducible] def num (neg : Bool) (xs : List Nat) : Int := sgn neg (val B18 xs)
theorem zhz (neg : Bool) (xs : List Nat) : num neg xs = sgn neg (val B18 xs) := by unfold num; rfl
theorem vm {neg : Bool} {xs : List Nat} (h : vw neg xs = true) : small B18 xs ∧ xw xs ∧ xs.length ≤ 30 ∧ (xs.length = 0 → neg = false) := by
 unfold vw at h;by_cases h0 : xs.length = 0
 · rw [if_pos h0] at h;obtain rfl := List.eq_nil_of_length_eq_zero h0;exact ⟨zgk, Or.inl rfl, by simp, fun _ => by simpa using h⟩
 rw [if_neg h0] at h;by_cases h1 : 30 < xs.length
 · rw [if_pos h1] at h; cases h
 rw [if_neg h1] at h;by_cases h2 : nth xs (xs.length - 1) = 0
 · rw [if_pos h2] at h; cases h
 rw [if_neg h2] at h;refine ⟨small_of_getD fun k hk => ?_, Or.inr fun e => h2 (by unfold nth; rw [e]; rfl), by omega, fun e => absurd e h0⟩;unfold xy at h;rw [List.all_eq_true] at h;have := h k (by simpa using hk);unfold nth at this;simp only [decide_eq_true_eq] at this
 unfold B18; omega
theorem xi (neg : Bool) (xs : List Nat) : (num neg xs).natAbs = val B18 xs := by rw [zhz, sgn_natAbs]
theorem val_zero_iff {neg : Bool} {xs : List Nat} (h : vw neg xs = true) : val B18 xs = 0 ↔ xs.length = 0 := by
 obtain ⟨_, hn, _, _⟩ := vm h;constructor
 · intro hv;rcases Nat.eq_zero_or_pos xs.length with h0 | h0
   · exact h0
   · exact absurd hv (xo B18_two hn (by omega))
 · intro h0; rw [List.eq_nil_of_length_eq_zero h0]; rfl
theorem neg_num {neg : Bool} {xs : List Nat} (h : vw neg xs = true) : decide (num neg xs < 0) = neg := by
 rw [zhz, sgn_neg];by_cases h0 : xs.length = 0
 · rw [(vm h).2.2.2 h0]; rfl
 · simp [mt (val_zero_iff h).1 h0]
def cmpI (i j : Int) : Int := if i < j then -1 else if j < i then 1 else 0
section
variable (A : Option Addr) (c : Nat) (xs : List Nat) (w : World)
set_option maxRecDepth 100000
end
def Nums8 (w : World) (A : Option Addr) (xs : List Nat) : Prop :=
 (∀ k, nth xs k < 256) ∧ (0 < xs.length → ∃ b o, A = some ⟨b, o, none⟩ ∧ b < w.heap.size ∧ ∀ k, k < xs.length → w.cell? ⟨b, o + k, none⟩ = some (.int .u8 (nth xs k)))
def rowOf8 (ys : List Nat) (j : Nat) : Value := .int .u8 (nth ys j)
def Row8 (w : World) (g n : Nat) (ys : List Nat) : Prop := w.rowIs g 5 n (rowOf8 ys) ∧ ys.length ≤ n
section
variable {w w' : World} {g n : Nat} {ys : List Nat}
theorem Row8.cell (h : Row8 w g n ys) {j : Nat} (hj : j < n) : w.cell? ⟨g, j, none⟩ = some (.int .u8 (nth ys j)) := h.1.cell hj
theorem Row8.frozen (h : Row8 w g n ys) (j : Nat) : w.frozen? ⟨g, j, none⟩ = false := h.1.frozen j
theorem Row8.lt (h : Row8 w g n ys) : g < w.heap.size := h.1.lt
theorem Row8.made (w : World) (n : Nat) : Row8 (w.alloc (.cells (madeCells #[.int .u8 0] n) 5)) w.heap.size n [] :=
 ⟨(World.rowIs_made w _ n _).congr fun i _ => by unfold rowOf8; rw [nth_nil], Nat.zero_le _⟩
theorem Row8.snoc (h : Row8 w g n ys) (v : Nat) (hn : ys.length < n) : Row8 (w.setCell ⟨g, ys.length, none⟩ (.int .u8 (v : Int))) g n (ys ++ [v]) :=
 ⟨(h.1.set ys.length _).congr fun i _ => by unfold rowOf8; rw [nth_snoc]; split <;> rfl, by simp; omega⟩
theorem Row8.set (h : Row8 w g n ys) (i v : Nat) (hi : i < ys.length) : Row8 (w.setCell ⟨g, i, none⟩ (.int .u8 (v : Int))) g n (ys.set i v) :=
 ⟨(h.1.set i _).congr fun j _ => by unfold rowOf8; rw [nth_set _ _ _ hi]; split <;> rfl, by simpa using h.2⟩
theorem Row8.of_block (h : Row8 w g n ys) (e : w'.heap[g]? = w.heap[g]?) : Row8 w' g n ys := ⟨h.1.of_block e, h.2⟩
theorem Row8.alloc (h : Row8 w g n ys) (o : Obj) : Row8 (w.alloc o) g n ys := ⟨h.1.alloc o, h.2⟩
theorem Row8.drew (h : Row8 w g n ys) : Row8 w.drew g n ys := h
theorem Row8.below {B : Nat} (h : Row8 w g n ys) (hb : Below B w w') (hg : g < B) : Row8 w' g n ys := h.of_block (hb.block g hg)
theorem Row8.fill (h : Row8 w g n ys) : Row8 w g n (ys ++ List.replicate (n - ys.length) 0) := by
 refine ⟨h.1.congr fun i hi => ?_, by have := h.2; simp; omega⟩;unfold rowOf8 nth;by_cases h1 : i < ys.length
 · simp [List.getElem?_append_left h1]
 · simp [List.getElem?_append_right (show ys.length ≤ i by omega), List.getElem?_eq_none (show ys.length ≤ i by omega), List.getElem?_replicate]
   split <;> rfl
end
def Own8 (w : World) (base : Nat) (A : Option Addr) (c : Nat) (xs : List Nat) : Prop :=
 w.ownsRow base 5 1 (.slice A xs.length c) xs.length (xs.map fun x : Nat => Value.int .u8 (x : Int)) ∧ ∀ x ∈ xs, x < 256
section
variable {w w' : World} {base : Nat} {A : Option Addr} {c : Nat} {xs : List Nat}
theorem nth_bound8 (h : ∀ x ∈ xs, x < 256) (k : Nat) : nth xs k < 256 := by
 unfold nth;by_cases hk : k < xs.length
 · have := h _ (List.getElem_mem hk); simp only [List.getD, List.getElem?_eq_getElem hk, Option.getD_some]; omega
 · rw [ku xs k (by omega)]; simp
theorem Own8.nums (h : Own8 w base A c xs) : Nums8 w A xs := by
 refine ⟨nth_bound8 h.2, fun h0 => ?_⟩;rcases h.1.2 with ⟨_, hn⟩ | ⟨g, cap, cur, hv, hg, hh, hnc, _, hsz, hcur⟩
 · omega
 · injection hv with hA _ hc
   subst hA;refine ⟨g, 0, rfl, (Array.getElem?_eq_some_iff.1 hh).1, fun k hk => ?_⟩;rw [Nat.zero_add, cell_of_row w g k cur _ (0, 0) hh];have e : cur[k]? = cur.toList[k]? := by simp
   have e2 : cur.toList[k]? = (cur.toList.take (xs.length * 1))[k]? := by rw [List.getElem?_take, if_pos (by omega)]
   rw [e, e2, hcur];simp [nth, hk]
theorem Own8.nil (w : World) (base : Nat) : Own8 w base none 0 [] := ⟨World.ownsRow_nil _ _ _ _, fun _ h => by cases h⟩
theorem Own8.kept {row : Option Nat} (h : Own8 w base A c xs) (hg : w.grownBy w' row) (hne : (Value.slice A xs.length c).ownBlock = none ∨ (Value.slice A xs.length c).ownBlock ≠ row) : Own8 w' base A c xs := ⟨h.1.kept hg hne, h.2⟩
theorem Own8.below {B : Nat} (h : Own8 w base A c xs) (hb : Below B w w') (hB : w.heap.size ≤ B) : Own8 w' base A c xs :=
 h.kept (row := none) ⟨hb.os, hb.tape, hb.output, hb.size, fun k hk _ => hb.block k (by omega)⟩ (by cases (Value.slice A xs.length c).ownBlock <;> simp)
theorem Own8.alloc (h : Own8 w base A c xs) (o : Obj) : Own8 (w.alloc o) base A c xs := ⟨h.1.alloc o, h.2⟩
theorem Own8.drew (h : Own8 w base A c xs) : Own8 w.drew base A c xs := h
theorem Own8.mono {b' : Nat} (h : Own8 w base A c xs) (hb : b' ≤ base) : Own8 w b' A c xs := by
 refine ⟨⟨h.1.1, ?_⟩, h.2⟩;rcases h.1.2 with h2 | ⟨g, cap, cur, hv, hg, r⟩
 · exact .inl h2
 · exact .inr ⟨g, cap, cur, hv, by omega, r⟩
theorem Own8.setCell (h : Own8 w base A c xs) {p : Addr} (hp : ∀ q, A = some q → q.block ≠ p.block) (u : Value) : Own8 (w.setCell p u) base A c xs := by
 refine ⟨⟨h.1.1, ?_⟩, h.2⟩;rcases h.1.2 with h2 | ⟨g, cap, cur, hv, hg, hh, r⟩
 · exact .inl h2
 · refine .inr ⟨g, cap, cur, hv, hg, ?_, r⟩;rw [Below.heap_setCell _ _ _ _ (by injection hv with e1; exact hp _ e1)];exact hh
theorem Own8.setBelow (h : Own8 w base A c xs) {p : Addr} (hp : p.block < base) (u : Value) : Own8 (w.setCell p u) base A c xs :=
 ⟨ownsRow_setCell_below h.1 hp u, h.2⟩
theorem Own8.ge (h : Own8 w base A c xs) : ∀ q, A = some q → base ≤ q.block ∧ q.block < w.heap.size := by
 intro q hq;subst hq;exact h.1.lt q.block rfl
theorem Nums8.keep (h : Nums8 w A xs) (hs : w.heap.size ≤ w'.heap.size) (hk : ∀ p : Addr, p.block < w.heap.size → w'.cell? p = w.cell? p) : Nums8 w' A xs :=
 ⟨h.1, fun h0 => by
  obtain ⟨b, o, rfl, hb, hc⟩ := h.2 h0;exact ⟨b, o, rfl, by omega, fun k hk' => (hk _ hb).trans (hc k hk')⟩⟩
theorem Nums8.alloc (h : Nums8 w A xs) (o : Obj) : Nums8 (w.alloc o) A xs := h.keep (by simp) fun p hp => World.cell?_alloc_lt w o p hp
theorem Nums8.drew (h : Nums8 w A xs) : Nums8 w.drew A xs := h
theorem Nums8.below {B : Nat} (h : Nums8 w A xs) (hb : Below B w w') (hB : w.heap.size ≤ B) : Nums8 w' A xs := h.keep hb.size fun _ hp => hb.cell (by omega)
theorem Nums8.setCell (h : Nums8 w A xs) {p : Addr} (hp : ∀ q, A = some q → q.block ≠ p.block) (u : Value) : Nums8 (w.setCell p u) A xs :=
 ⟨h.1, fun h0 => by
  obtain ⟨b, o, rfl, hb, hc⟩ := h.2 h0;refine ⟨b, o, rfl, by simpa [World.setCell] using hb, fun k hk' => ?_⟩;rw [World.cell?_setCell_other _ _ _ _ (fun e => hp _ rfl (by rw [e]))];exact hc k hk'⟩
end
/-! ### copy into a new row -/
/-! ### append of new words to a slice of the call's own -/
theorem infoParts8 : ∃ i, Try.prog.info? 5 = some i ∧ i.zero = some (.int .u8 0) ∧ i.size = 1 ∧ i.bytes = 1 := by
 obtain ⟨i, hi, h⟩ := Option.map_eq_some_iff.1 (show (Try.prog.info? 5).map (fun i => (i.zero, i.size, i.bytes)) = some (some (.int .u8 0), 1, 1) from by kernel_rfl);simp only [Prod.mk.injEq] at h
 exact ⟨i, hi, h.1, h.2.1, h.2.2⟩
theorem Own8.of_owns {w : World} {base n : Nat} {v : Value} {xs : List Nat} (h : w.ownsRow base 5 1 v n (xs.map fun x : Nat => Value.int .u8 (x : Int))) (h64 : ∀ x ∈ xs, x < 256) :
 ∃ A c, v = .slice A xs.length c ∧ Own8 w base A c xs := by
 have hn : xs.length = n := by simpa using h.1
 subst hn;rcases h.2 with ⟨rfl, hz⟩ | ⟨g, cap, cur, rfl, r⟩
 · exact ⟨none, 0, by rw [hz], by rw [List.eq_nil_of_length_eq_zero hz]; exact Own8.nil _ _⟩
 · exact ⟨some ⟨g, 0, none⟩, cap, rfl, h, h64⟩
theorem wpList_app8 {w : World} {ops : Array Oper} {rest : List Oper} {o : Oper} {a : Act} {Q : Exit → Act → World → Prop} (hgd : o.guard = none) (s x : Operand)
 (ho : o.op = .call { callee := .builtin .append, args := #[s, x], argTypes := #[62, 62] }) (base : Nat) (A : Option Addr) (c : Nat) (xs : List Nat) (hs : a.eval s = .slice A xs.length c)
 (hown : Own8 w base A c xs) (ys : List Nat) (ad : Addr) (m cc : Nat) (hx : a.eval x = .slice (some ad) m cc) (hm : ys.length = m)
 (hnews : ∀ j u, (ys.map fun x : Nat => Value.int .u8 (x : Int))[j]? = some u → w.cell? (ad.add j) = some u) (h64 : ∀ x ∈ ys, x < 256) (hl : xs.length + ys.length ≤ 17592186044416) (hbase : base ≤ w.heap.size)
 (h : ∀ A' c' w', Own8 w' base A' c' (xs ++ ys) → w.grownBy w' (Value.slice A xs.length c).ownBlock → wpList Try.prog ops Q rest (a.put o.dst (.slice A' (xs ++ ys).length c')) w') : wpList Try.prog ops Q (o :: rest) a w := by
 obtain ⟨i, hi, hz, hsz, hby⟩ := infoParts8;subst hm;refine wpList_append_own w hgd s x _ ho base 5 i _ 1 1 Try.underlying62 hi hz hsz hby rfl (by decide) _ _ _ hs hown.1 ad ys.length cc (ys.map fun x : Nat => Value.int .u8 (x : Int)) hx (by simp) hnews
  (fun u hu => by rw [List.mem_map] at hu; obtain ⟨y, _, rfl⟩ := hu; rfl) (by unfold maxLen; omega) (by omega) hbase ?_
 intro v' w' hown' hg' _;rw [← List.map_append] at hown';obtain ⟨A', c', hv, ho'⟩ := Own8.of_owns hown' (fun y hy => by
  rcases List.mem_append.1 hy with h1 | h1
  · exact hown.2 y h1
  · exact h64 y h1)
 rw [hv];exact h A' c' w' ho' hg'
theorem Below.own8 {w0 w w' : World} {base : Nat} {A : Option Addr} {c : Nat} {xs : List Nat} (hb : Below base w0 w) (hown : Own8 w base A c xs) (hbase : base ≤ w.heap.size) (hg : w.grownBy w' (Value.slice A xs.length c).ownBlock) : Below base w0 w' :=
 hb.grown hg hbase (fun k hk => by
  match A, hown, hk with
  | some q, hown, hk =>
   have h1 := hown.ge q rfl;simp only [Value.ownBlock, Option.some.injEq] at hk
   omega
  | none, _, hk => simp [Value.ownBlock] at hk)
theorem Own8.cut {w : World} {base : Nat} {A : Option Addr} {c : Nat} {xs : List Nat} (h : Own8 w base A c xs) (hc : xs ≠ []) {k : Nat} (hk : k ≤ xs.length) : Own8 w base A c (xs.take k) := by
 refine ⟨⟨by simp, ?_⟩, fun x hx => h.2 x (List.mem_of_mem_take hx)⟩;rcases h.1.2 with ⟨_, h0⟩ | ⟨g, cap, cur, hv, hg, hh, hle, hcap, hsz, hcur⟩
 · exact absurd (List.eq_nil_of_length_eq_zero h0) hc
 · injection hv with hA hn hcc
   subst hA; subst hcc;have hkl : (xs.take k).length = k := by rw [List.length_take]; omega
   refine .inr ⟨g, c, cur, rfl, hg, hh, by omega, hcap, hsz, ?_⟩;rw [hkl, List.map_take, ← hcur, List.take_take, Nat.mul_one, Nat.mul_one, Nat.min_eq_left hk]
theorem Row8.nums {w' : World} {g len : Nat} {zs : List Nat} (h : Row8 w' g len zs) (hz : zs.length = len) (h64 : ∀ x ∈ zs, x < 256) : Nums8 w' (some ⟨g, 0, none⟩) zs :=
 ⟨nth_bound8 h64, fun _ => ⟨g, 0, rfl, h.lt, fun k hk => by rw [Nat.zero_add]; exact h.cell (by omega)⟩⟩
end Go.Proofs.Ytjhmifebmplahaa
namespace Go.Proofs.Ytjhmifebmplahaa
@[irreducible] def tens (i : Int) : List Nat := gi 10 i.natAbs
theorem oe (i : Int) : tens i = gi 10 i.natAbs := by unfold tens; rfl
theorem tens_small (i : Int) : small 10 (tens i) := by rw [oe]; exact small_digs (by decide) _
theorem val_tens (i : Int) : val 10 (tens i) = i.natAbs := by rw [oe]; exact val_digs (by decide) _
theorem getD_val {b : Nat} (hb : 0 < b) : ∀ {l : List Nat}, small b l → ∀ k, l.getD k 0 = val b l / b ^ k % b
 | [], _, k => by simp [val]
 | x :: l, h, 0 => by
  obtain ⟨h1, _⟩ := js.1 h;simp [val, Nat.add_mul_mod_self_left, Nat.mod_eq_of_lt h1]
 | x :: l, h, k + 1 => by
  obtain ⟨h1, h2⟩ := js.1 h;have e : val b (x :: l) / b ^ (k + 1) = val b l / b ^ k := by
   rw [Nat.pow_succ, Nat.mul_comm, ← Nat.div_div_eq_div_mul];congr 1
   simp only [val]
   rw [Nat.add_mul_div_left _ _ hb, Nat.div_eq_of_lt h1, Nat.zero_add]
  rw [e, ← getD_val hb h2 k];simp
def pad : Nat → Nat → List Nat
 | 0, _ => []
 | k + 1, n => n % 10 :: pad k (n / 10)
theorem pad_small : ∀ k n, small 10 (pad k n)
 | 0, _ => zgk
 | k + 1, n => js.2 ⟨Nat.mod_lt _ (by decide), pad_small k _⟩
theorem pad_val : ∀ k n, val 10 (pad k n) = n % 10 ^ k
 | 0, n => by simp [pad, val, Nat.mod_one]
 | k + 1, n => by
  rw [pad, val, pad_val k, Nat.pow_succ, Nat.mul_comm (10 ^ k) 10, Nat.mod_mul]
theorem pad_snoc : ∀ k n, pad (k + 1) n = pad k n ++ [n / 10 ^ k % 10]
 | 0, n => by simp [pad]
 | k + 1, n => by
  rw [pad, pad_snoc k, pad, List.cons_append, Nat.div_div_eq_div_mul, Nat.pow_succ, Nat.mul_comm 10]
theorem B18_pow (k : Nat) : B18 ^ k = 10 ^ (18 * k) := by
 rw [Nat.pow_mul]; rfl
theorem chunk_div (V k j : Nat) : V / 10 ^ (18 * k + j) = V / B18 ^ k / 10 ^ j := by
 rw [B18_pow, Nat.div_div_eq_div_mul, Nat.pow_add]
theorem mod_div_pow (M j : Nat) (hj : j ≤ 18) : M % B18 / 10 ^ j = M / 10 ^ j % 10 ^ (18 - j) := by
 have e : B18 = 10 ^ j * 10 ^ (18 - j) := by rw [← Nat.pow_add, show j + (18 - j) = 18 from by omega]; rfl
 rw [e, Nat.mod_mul_right_div_self]
theorem chunk_digit (M j : Nat) (hj : j < 18) : M % B18 / 10 ^ j % 10 = M / 10 ^ j % 10 := by
 rw [mod_div_pow M j (by omega)];refine Nat.mod_mod_of_dvd _ ?_;obtain ⟨m, hm⟩ : ∃ m, 18 - j = m + 1 := ⟨17 - j, by omega⟩;rw [hm, Nat.pow_succ];exact Nat.dvd_mul_left _ _
theorem limb_digit {xs : List Nat} (h : small B18 xs) (k j : Nat) (hj : j < 18) : xs.getD k 0 / 10 ^ j % 10 = val B18 xs / 10 ^ (18 * k + j) % 10 := by
 rw [getD_val (by unfold B18; omega) h k, chunk_div, chunk_digit _ j hj]
theorem val_lt18 {xs : List Nat} (h : small B18 xs) : val B18 xs < 10 ^ (18 * xs.length) := by
 rw [← B18_pow]; exact val_lt h
end Go.Proofs.Ytjhmifebmplahaa
namespace Go.Proofs.Ytjhmifebmplahaa
open Go.RowKit
theorem Per.nums {X : Nat → Prop} {w : World} {A : Option Addr} {xs : List Nat} (h : Nums w A xs) (hx : ∀ q, A = some q → ¬ X q.block) : Per X w (fun b => Nums b A xs) := fun b hb =>
 ⟨h.1, fun h0 => by
  obtain ⟨g, o, rfl, hg, hc⟩ := h.2 h0;exact ⟨g, o, rfl, Nat.lt_of_lt_of_le hg hb.size, fun k hk => (hb.cell (p := ⟨g, o + k, none⟩) hg (hx ⟨g, o, none⟩ rfl)).trans (hc k hk)⟩⟩
theorem Per.nums0 {w : World} {A : Option Addr} {xs : List Nat} (h : Nums w A xs) : Per No w (fun b => Nums b A xs) := Per.nums h (fun _ _ => id)
theorem Per.own {X : Nat → Prop} {w : World} {base : Nat} {A : Option Addr} {c : Nat} {xs : List Nat} (h : Own w base A c xs) (hx : ∀ k, X k → k < base) : Per X w (fun b => Nums b A xs) := Per.nums h.nums (fun q hq e => by have := hx _ e; have := (h.ge q hq).1; omega)
def big (i : Int) (A : Option Addr) (c : Nat) : Value := .agg #[.bool (decide (i < 0)), .slice A (limbs i).length c]
section
variable (A B : Option Addr) (c d : Nat) (xs ys : List Nat) (w : World)
set_option maxRecDepth 100000
end
def B9 : Nat := 1000000000
def zeroFrom (ys : List Nat) (k : Nat) : Prop := ∀ j, k ≤ j → ys.getD j 0 = 0
def TakePost (w : World) (g n t Q V U : Nat) (e : Ending) (w' : World) : Prop :=
 ∃ (ys : List Nat) (b : Bool), e = .returned (.bool b) ∧ Row w' g n ys ∧ ys.length = n ∧ small B9 ys ∧ w.grownBy w' (some g) ∧ val B9 ys + B9 ^ t * (Q * V) = U + (if b then 0 else B9 ^ t * V) ∧ (b = false → U < B9 ^ t * (Q * V))
end Go.Proofs.Ytjhmifebmplahaa
namespace Go.Proofs.Ytjhmifebmplahaa
section
variable {P D R V v1 v2 u3 top g rest B : Nat}
end
end Go.Proofs.Ytjhmifebmplahaa
namespace Go.Proofs.Ytjhmifebmplahaa
open Go.RowKit
theorem Own.at_ {w : World} {base c : Nat} {A : Option Addr} {xs : List Nat} (h : Own w base A c xs) (h0 : 0 < xs.length) :
 ∃ g, A = some ⟨g, 0, none⟩ ∧ base ≤ g ∧ g < w.heap.size ∧ xs.length ≤ c ∧ ∀ k, k < xs.length → w.cell? ⟨g, k, none⟩ = some (.int .u64 (nth xs k)) := by
 obtain ⟨b, o, rfl, hb, hc⟩ := h.nums.2 h0;rcases h.1.2 with ⟨_, hn⟩ | ⟨g, cap, cur, hv, hg, hh, hnc, _⟩
 · omega
 · injection hv with hA _ hcc
   injection hA with hA
   injection hA with e1 e2
   subst e1; subst e2; subst hcc;exact ⟨b, rfl, hg, hb, hnc, fun k hk => by have := hc k hk; rwa [Nat.zero_add] at this⟩
def DivPost (w : World) (X Y : Nat) (e : Ending) (w' : World) : Prop :=
 ∃ A1 c1 qs A2 c2 rs, e = .returned (.tuple #[.slice A1 qs.length c1, .slice A2 rs.length c2]) ∧ Nums w' A1 qs ∧ Nums w' A2 rs ∧ small B18 qs ∧ small B18 rs ∧ qs.length ≤ 1048576 ∧ rs.length ≤ 1048576 ∧
  val B18 qs = X / Y ∧ val B18 rs = X % Y ∧ Below w.heap.size w w'
def RetTwo (W : World) (i j : Int) (f : Int) (e : Ending) (w' : World) : Prop :=
 ∃ A c B d, e = .returned (.tuple #[.agg #[.bool (decide (i < 0)), .slice A (limbs i).length c], .agg #[.bool (decide (j < 0)), .slice B (limbs j).length d], .int .i64 f]) ∧
  Own w' W.heap.size A c (limbs i) ∧ Own w' W.heap.size B d (limbs j) ∧ Below W.heap.size W w' ∧ (∀ p q, A = some p → B = some q → p.block ≠ q.block)
@[irreducible] def dq (n1 n2 : Bool) (X Y : Nat) : Int := if n1 = n2 then ((X / Y : Nat) : Int) else if X % Y = 0 then -((X / Y : Nat) : Int) else -((X / Y + 1 : Nat) : Int)
@[irreducible] def dr (n1 n2 : Bool) (X Y : Nat) : Int := if n1 = n2 then sgn n1 (X % Y) else if X % Y = 0 then 0 else sgn n2 (Y - X % Y)
section
variable (A B : Option Addr) (c d : Nat) (xs ys : List Nat) (w : World)
set_option maxRecDepth 100000
end
section
variable (A B : Option Addr) (c d : Nat) (xs ys : List Nat) (w : World)
set_option maxRecDepth 100000
end
theorem Own8.room {w : World} {base : Nat} {A : Option Addr} {c : Nat} {xs : List Nat} (h : Own8 w base A c xs) : xs.length ≤ c := by
 rcases h.1.2 with ⟨hv, h0⟩ | ⟨g, cap, cur, hv, _, _, hle, _⟩
 · omega
 · injection hv; omega
set_option maxRecDepth 100000 in
set_option maxHeartbeats 1000000 in
theorem rcut_any (A : Option Addr) (c : Nat) (ds : List Nat) (w : World) (hx : Nums8 w A ds) (hs : small 10 ds) (hc : ds.length ≤ c) (hl : ds.length ≤ 9223372036854775807) :
 Calls Try.prog 49 #[.slice A ds.length c] w fun e w' => e = .returned (.slice A (gi 10 (val 10 ds)).length c) ∧ gi 10 (val 10 ds) = ds.take (gi 10 (val 10 ds)).length ∧ (gi 10 (val 10 ds)).length ≤ ds.length ∧ w' = w := by
 go_enter Try.func49, Try.ntmps49
 go_wp2
 go_loop [3] (fun v => ∃ k : Nat, k ≤ ds.length ∧ v = .int .i64 k ∧ ∀ j, k ≤ j → nth ds j = 0) (fun v => (intOf v).toNat)
 case atStart => exact ⟨ds.length, Nat.le_refl _, rfl, fun j hj => nth_past ds j hj⟩
 case round =>
  obtain ⟨k, hk, rfl, hz⟩ := hrel;have HZ := Lib.hid hz; clear hz;have hend : (k = 0 ∨ nth ds (k - 1) ≠ 0) → ds.take k = gi 10 (val 10 ds) := fun h =>
   strip_eq (by decide) hs hk (fun j hj _ => by have := HZ.out j (by omega); unfold nth at this; omega) (fun h0 => by
    rcases h with h | h
    · omega
    · unfold nth at h; omega)
  have hlen : (ds.take k).length = k := by rw [List.length_take]; omega
  by_cases hk0 : k = 0
  · have he := hend (Or.inl hk0);subst hk0;have HE := Lib.hid he;clear hend he;go_wp2
    go_ret
    refine ⟨?_, ?_, ?_, rfl⟩
    · rw [← HE.out]; rfl
    · rw [← HE.out]; rfl
    · rw [← HE.out]; simp
  · obtain ⟨m, rfl⟩ : ∃ m, k = m + 1 := ⟨k - 1, by omega⟩;obtain ⟨b, o, rfl, hb, hcell'⟩ := hx.2 (by omega);have hcell := hcell' m (by omega);have hm1 : (m : Int) < (ds.length : Int) := by omega
    have hmc : m + 1 ≤ c := by omega
    clear hcell';by_cases hl0 : nth ds m = 0
    · have hb0 : (nth ds m == 0) = true := beq_iff_eq.2 hl0;have H0 := Lib.hid hl0;clear hl0 hend;go_wp2
      go_round
      case rel => exact ⟨m, by omega, by go_num, fun j hj => by
       by_cases e : j = m
       · rw [e]; exact H0.out
       · exact HZ.out j (by omega)⟩
      case measure => simp [intOf]
    · have hb0 : (nth ds m == 0) = false := beq_eq_false_iff_ne.2 hl0;have he := hend (Or.inr (by rw [Nat.add_sub_cancel]; exact hl0));have HE := Lib.hid he; have HL := Lib.hid hlen;clear hend he hl0 hlen;go_wp2
      go_ret
      refine ⟨?_, ?_, ?_, rfl⟩
      · rw [← HE.out, HL.out]; rfl
      · rw [← HE.out, HL.out]
      · rw [← HE.out, HL.out]; exact hk
end Go.Proofs.Ytjhmifebmplahaa
namespace Go.Proofs.Ytjhmifebmplahaa
open Go.RowKit
def RetNum (W : World) (i : Int) (e : Ending) (w' : World) : Prop :=
 ∃ A c, e = .returned (.agg #[.bool (decide (i < 0)), .slice A (tens i).length c]) ∧ Own8 w' W.heap.size A c (tens i) ∧ Below W.heap.size W w'
theorem cells_one8 (w : World) (x : Int) (a : Nat) (hx : x = (a : Int)) :
 ∀ j u, ([a].map fun x : Nat => Value.int .u8 (x : Int))[j]? = some u → (w.alloc (.cells #[.int .u8 x] 5)).cell? ((⟨w.heap.size, 0, none⟩ : Addr).add j) = some u := by
 subst hx;intro j u hj;match j, hj with
 | 0, hj => simp at hj; subst hj; simp [Addr.add]
theorem wrap8 (u : Int) (h : 0 ≤ u) (h9 : u < 256) : IntKind.u8.wrap u = u := by
 simp [IntKind.wrap, IntKind.signed, IntKind.bits]; omega
set_option maxRecDepth 100000
end Go.Proofs.Ytjhmifebmplahaa
namespace Go.Proofs.Ytjhmifebmplahaa
open Go.RowKit
theorem rcut_long (base : Nat) (A : Option Addr) (c : Nat) (ds : List Nat) (i : Int) (w : World) (hown : Own8 w base A c ds) (hs : small 10 ds) (hv : val 10 ds = i.natAbs) (hl : ds.length ≤ 9223372036854775807) :
 Calls Try.prog 49 #[.slice A ds.length c] w fun e w' => e = .returned (.slice A (tens i).length c) ∧ Own8 w base A c (tens i) ∧ w = w' := by
 refine (rcut_any A c ds w hown.nums hs hown.room hl).mono fun e w' h => ?_;obtain ⟨rfl, h2, h3, rfl⟩ := h;rw [hv, ← oe] at h2 h3 ⊢;refine ⟨rfl, ?_, rfl⟩;by_cases h0 : ds = []
 · subst h0;have : tens i = [] := List.eq_nil_of_length_eq_zero (by simpa using h3);rw [this]; exact hown
 · rw [h2]; exact hown.cut h0 h3
theorem rcut_tens (base : Nat) (A : Option Addr) (c : Nat) (ds : List Nat) (i : Int) (w : World) (hown : Own8 w base A c ds) (hs : small 10 ds) (hv : val 10 ds = i.natAbs) (hl : ds.length ≤ 1048576) :
 Calls Try.prog 49 #[.slice A ds.length c] w fun e w' => e = .returned (.slice A (tens i).length c) ∧ Own8 w base A c (tens i) ∧ w = w' := rcut_long base A c ds i w hown hs hv (by omega)
theorem of_step {xs : List Nat} (h : small B18 xs) {k j : Nat} (hj : j < 18) {l : Int} (hl : l = ((xs.getD k 0 / 10 ^ j : Nat) : Int)) :
 pad (18 * k + j) (val B18 xs) ++ [(l % 10).toNat] = pad (18 * k + (j + 1)) (val B18 xs) ∧ l / 10 = ((xs.getD k 0 / 10 ^ (j + 1) : Nat) : Int) := by
 have h1 := limb_digit h k j hj;have h2 := pad_snoc (18 * k + j) (val B18 xs);rw [← h1] at h2;have h3 : xs.getD k 0 / 10 ^ (j + 1) = xs.getD k 0 / 10 ^ j / 10 := by rw [Nat.pow_succ, Nat.div_div_eq_div_mul]
 subst hl;refine ⟨?_, by rw [h3]; omega⟩;rw [show 18 * k + (j + 1) = 18 * k + j + 1 from by omega, h2];congr 2
theorem limb_zero (xs : List Nat) (k : Nat) : nth xs k = ((xs.getD k 0 / 10 ^ 0 : Nat) : Int) := by unfold nth; simp
set_option maxRecDepth 100000
set_option maxHeartbeats 1000000 in
theorem rof_any (n1 : Bool) (A : Option Addr) (c : Nat) (xs : List Nat) (w : World) (hx : Nums w A xs) (hg : vw n1 xs = true) :
 Calls Try.prog 27 #[.agg #[.bool n1, .slice A xs.length c]] w (RetNum w (num n1 xs)) := by
 obtain ⟨hs, hn, hl, _⟩ := vm hg;have HS := Lib.hid hs;have HN := Lib.hid (neg_num hg);have HA := Lib.hid (xi n1 xs);clear hs hn hg;generalize num n1 xs = i at *
 go_enter Try.func27, Try.ntmps27
 go_wp2_with fail
 go_loopw [3, 4, 5, 6] (fun dv iv _ _ wr => ∃ (k : Nat) (A' : Option Addr) (c' : Nat) (zs : List Nat), k ≤ xs.length ∧ iv = .int .i64 k ∧ dv = .slice A' zs.length c' ∧ zs.length ≤ 18 * k ∧ Own8 wr (w.heap.size + 2) A' c' zs ∧
  Hid (zs = pad (18 * k) (val B18 xs)) ∧ Below (w.heap.size + 2) ((w.alloc (.cells #[.bool n1, .slice A xs.length c] 26)).alloc (.cells #[.bool false, .slice none 0 0] 64)) wr) (fun _ iv _ _ _ => xs.length - (intOf iv).toNat)
 case atStart => exact ⟨0, none, 0, [], Nat.zero_le _, rfl, rfl, by simp, Own8.nil _ _, rfl, Below.refl _ _⟩
 case round =>
  obtain ⟨k, A', c', zs, hk, rfl, rfl, hzl, hown, HZ, hbel⟩ := hrel;have R0 := (Blk.first w 26 #[.bool n1, .slice A xs.length c] (.cells #[.bool false, .slice none 0 0] 64)).below hbel (by omega);have R1 := (Blk.new1 w (.cells #[.bool n1, .slice A xs.length c] 26) 64 #[.bool false, .slice none 0 0]).below hbel (by omega)
  have hxr : Nums wr A xs := hx.below (w := w) (B := w.heap.size) ((((Below.refl _ _).alloc (Nat.le_refl _) _).alloc (by simp) _).trans (hbel.mono (by omega))) (Nat.le_refl _);obtain ⟨r0, r1, r2, r3⟩ := R0.two;have hsz := hbel.size;simp only [World.size_alloc] at hsz
  by_cases hkn : k < xs.length
  · obtain ⟨b, o, rfl, hb, hc⟩ := hxr.2 (by omega);have hcell := hc k hkn;have hm1 : (k : Int) < (xs.length : Int) := by omega
    have hm0 : (0 : Int) ≤ (k : Int) := by omega
    have hnn := xj xs k;have hnl := nth_lt (by unfold B18; omega) HS.out k;rw [B18_eq] at hnl;have HL0 := Lib.hid (limb_zero xs k);clear hc;go_wp2_with fail
    obtain ⟨wo, rfl⟩ : ∃ wo : World, wo = wr := ⟨_, rfl⟩;go_loopw [3, 5, 6] (fun dv lv jv wi => ∃ (j : Nat) (l : Int) (A' : Option Addr) (c' : Nat) (zs : List Nat), j ≤ 18 ∧ jv = .int .i64 j ∧ lv = .int .u64 l ∧ 0 ≤ l ∧ l < 1000000000000000000 ∧ dv = .slice A' zs.length c' ∧ zs.length ≤ 18 * k + j ∧ Own8 wi (w.heap.size + 2) A' c' zs ∧
     Hid (l = ((xs.getD k 0 / 10 ^ j : Nat) : Int)) ∧ Hid (zs = pad (18 * k + j) (val B18 xs)) ∧ Below (w.heap.size + 2) ((w.alloc (.cells #[.bool n1, .slice (some ⟨b, o, none⟩) xs.length c] 26)).alloc (.cells #[.bool false, .slice none 0 0] 64)) wi) (fun _ _ jv _ => 18 - (intOf jv).toNat)
    case atStart => exact ⟨0, nth xs k, A', c', zs, by omega, rfl, rfl, hnn, by omega, rfl, by omega, hown, HL0, HZ, hbel⟩
    case round =>
     obtain ⟨j, l, A2, c2, ys, hj, rfl, rfl, hl0, hl1, rfl, hyl, hown2, HL, HY, hbel2⟩ := hrel;have hsz2 := hbel2.size;simp only [World.size_alloc] at hsz2
     by_cases hj18 : j < 18
     · have hstep := of_step HS.out hj18 HL.out;have hw8 := wrap8 (l % 10) (by omega) (by omega);have e1 : l % 10 = (((l % 10).toNat : Nat) : Int) := by omega
       have HC := Lib.hid (cells_one8 wr _ _ e1);have H8 : Hid (∀ x ∈ [(l % 10).toNat], x < 256) := by intro x hx'; simp only [List.mem_cons, List.not_mem_nil, or_false] at hx'; omega
       have HN : Hid (ys.length + [(l % 10).toNat].length ≤ 17592186044416) := by show ys.length + 1 ≤ _; omega
       have HST := Lib.hid hstep;have hj18' : (j : Int) < 18 := by omega
       clear e1 hstep;go_wp2_with (at_builtin; go_loud (refine wpList_app8 rfl (.tmp 23) (.tmp 27) rfl (w.heap.size + 2) A2 c2 ys rfl (hown2.alloc _) [(l % 10).toNat] ⟨wr.heap.size, 0, none⟩ 1 1 rfl rfl (by exact HC.out) H8.out HN.out (by simp; omega) (fun A3 c3 w3 hown3 hg3 => ?_)))
       go_roundw
       case rel => exact ⟨j + 1, l / 10, A3, c3, ys ++ [(l % 10).toNat], by omega, by go_num, by go_num, by omega, by omega, by simp, by simp; omega, hown3, HST.out.2, by show _ = _; rw [HY.out]; exact HST.out.1, Below.own8 (hbel2.alloc (by simpa using hsz2) _) (hown2.alloc _) (by simp; omega) hg3⟩
       case measure => simp [intOf]; omega
     · obtain rfl : j = 18 := by omega
       have HY2 : Hid (ys = pad (18 * (k + 1)) (val B18 xs)) := HY;clear HY;go_wp2_with fail
       go_roundw
       case rel => exact ⟨k + 1, A2, c2, ys, by omega, by go_num, rfl, by omega, hown2, HY2, hbel2⟩
       case measure => simp [intOf]; omega
  · obtain rfl : k = xs.length := by omega
    have hvz : val 10 zs = i.natAbs := by
     rw [HZ.out, pad_val, Nat.mod_eq_of_lt (val_lt18 HS.out), HA.out]
    have hsz10 : small 10 zs := by rw [HZ.out]; exact pad_small _ _
    have HV := Lib.hid hvz; have H10 := Lib.hid hsz10;clear hvz hsz10;obtain ⟨q0, q1, q2, q3⟩ := R1.two;go_wp2_with fail
    go_region_with (go_at_call 49; refine (rcut_tens (w.heap.size + 2) _ _ _ i _ (by first | exact hown | exact hown.drew) H10.out HV.out (by omega)).mono ?_; rintro e w' ⟨rfl, hown3, rfl⟩)
    all_goals
     go_wp2_with fail
     refine bodyPost_ret (v := .agg #[.bool n1, .slice A' (tens i).length c']) (by simp [results, Try.results27, go_sem, q0, q1]) rfl ?_;exact ⟨A', c', by rw [HN.out], ((hown3.setBelow (by show w.heap.size + 1 < w.heap.size + 2; omega) _).setBelow (by show w.heap.size + 1 < w.heap.size + 2; omega) _).mono (by omega),
      ((((((Below.refl _ _).alloc (Nat.le_refl _) _).alloc (by simp) _).trans (hbel.mono (by omega))).drew).setCell (by show w.heap.size ≤ w.heap.size + 1; omega) _).setCell (by show w.heap.size ≤ w.heap.size + 1; omega) _⟩
end Go.Proofs.Ytjhmifebmplahaa
namespace Go.Proofs.Ytjhmifebmplahaa
open Go.RowKit
theorem Blk.app {w w3 : World} {g : Nat} {t : TypeId} {cs : Array Value} {base : Nat} {A : Option Addr} {c : Nat} {xs : List Nat} (h : Blk w g t cs) (hown : Own w base A c xs) (hg : w.grownBy w3 (Value.slice A xs.length c).ownBlock) (ht : 27 ≠ t) : Blk w3 g t cs :=
 h.grown hg (fun e => own_blk_ne hown.1 h ht e.symm)
set_option maxRecDepth 100000
end Go.Proofs.Ytjhmifebmplahaa
namespace Go.Proofs.Ytjhmifebmplahaa
open Go.RowKit
def sameB (n1 : Bool) (xs : List Nat) (n2 : Bool) (ys : List Nat) : Bool := (n1 == n2) && (xs == ys)
section
variable (A B : Option Addr) (c d : Nat) (xs ys : List Nat) (w : World)
set_option maxRecDepth 100000
end
theorem below_on {a b w' : World} (h : Below a.heap.size a b) (k : Below b.heap.size b w') : Below a.heap.size a w' := h.trans (k.mono h.size)
theorem Nums.since {a b : World} {A : Option Addr} {xs : List Nat} (h : Nums a A xs) (k : Below a.heap.size a b) : Nums b A xs := h.below k (Nat.le_refl _)
theorem Nums8.since {a b : World} {A : Option Addr} {xs : List Nat} (h : Nums8 a A xs) (k : Below a.heap.size a b) : Nums8 b A xs := h.below k (Nat.le_refl _)
@[irreducible] def outV (ok : Bool) (s : Int) : Int := if ok then (if s.natAbs < B18 ^ 30 then s else 0) else 0
@[irreducible] def outE (ok : Bool) (s : Int) : Int := if ok then (if s.natAbs < B18 ^ 30 then 0 else 7) else 3
section
variable (A B : Option Addr) (c d : Nat) (xs ys : List Nat) (w : World)
set_option maxRecDepth 100000
end
@[irreducible] def cmpO (ok : Bool) (i j : Int) : Int := if ok then cmpI i j else 0
section
variable (A B : Option Addr) (c d : Nat) (xs ys : List Nat) (w : World)
set_option maxRecDepth 100000
end
def inR (v : Int) : Prop := -9223372036854775808 ≤ v ∧ v ≤ 9223372036854775807
instance (v : Int) : Decidable (inR v) := by unfold inR; infer_instance
@[irreducible] def intV (ok : Bool) (v : Int) : Int := if ok then (if inR v then v else 0) else 0
@[irreducible] def intE (ok : Bool) (v : Int) : Int := if ok then (if inR v then 0 else 7) else 3
def zcz (W : World) (ok : Bool) (v : Int) (e : Ending) (w' : World) : Prop := e = .returned (.tuple #[.int .i64 (intV ok v), .int .i64 (intE ok v)]) ∧ Below W.heap.size W w'
theorem retInt_bad {W w' : World} {v : Int} (h : Below W.heap.size W w') : zcz W false v (.returned (.tuple #[.int .i64 0, .int .i64 3])) w' := ⟨by unfold intV intE; rfl, h⟩
theorem jt {W w' : World} {v : Int} (h : Below W.heap.size W w') (hv : ¬ inR v) : zcz W true v (.returned (.tuple #[.int .i64 0, .int .i64 7])) w' := ⟨by unfold intV intE; simp [hv], h⟩
theorem oi {W w' : World} {v u : Int} (h : Below W.heap.size W w') (hv : inR v) (hu : u = v) : zcz W true v (.returned (.tuple #[.int .i64 u, .int .i64 0])) w' := ⟨by subst hu; unfold intV intE; simp [hv], h⟩
theorem jz {b : Nat} {l : List Nat} {k : Nat} (h : k < l.length) : val b (l.drop k) = l.getD k 0 + b * val b (l.drop (k + 1)) := by
 rw [List.drop_eq_getElem_cons h, val]; simp [List.getD, List.getElem?_eq_getElem h]
theorem ziv {b : Nat} (hb : 1 ≤ b) (l : List Nat) (k : Nat) : val b (l.drop k) ≤ val b l := by
 have h := val_split (b := b) l k;have h1 : 1 ≤ b ^ (l.take k).length := Nat.one_le_pow _ _ hb;have h2 : 1 * val b (l.drop k) ≤ b ^ (l.take k).length * val b (l.drop k) := Nat.mul_le_mul_right _ h1;omega
theorem int_out3 {neg : Bool} {xs : List Nat} (hg : vw neg xs = true) (h : 2 < xs.length) : ¬ inR (num neg xs) := by
 obtain ⟨hs, hn, hl, _⟩ := vm hg;have h1 := le_val B18_two hn (by omega);have h2 : B18 ^ 2 ≤ B18 ^ (xs.length - 1) := Nat.pow_le_pow_right (by unfold B18; omega) (by omega);have h3 := xi neg xs;have h4 : B18 ^ 2 = 1000000000000000000000000000000000000 := by unfold B18; rfl
 unfold inR; omega
theorem val_two {xs : List Nat} (h : xs.length = 2) : val B18 xs = xs.getD 0 0 + 1000000000000000000 * xs.getD 1 0 := by
 have e1 := jz (b := B18) (l := xs) (k := 0) (by omega);have e2 := jz (b := B18) (l := xs) (k := 1) (by omega);rw [List.drop_of_length_le (i := 1 + 1) (by omega)] at e2;rw [List.drop_zero] at e1;simp only [val] at e2
 rw [e1, e2]; unfold B18; omega
theorem int_out2 {neg : Bool} {xs : List Nat} (h : xs.length = 2) (h9 : 9 < nth xs 1) : ¬ inR (num neg xs) := by
 have h3 := xi neg xs;rw [val_two h] at h3;have h4 : 9 < xs.getD 1 0 := by unfold nth at h9; omega
 unfold inR; omega
theorem int_small {neg : Bool} {xs : List Nat} (hg : vw neg xs = true) (h : xs.length ≤ 2) (h9 : xs.length = 2 → nth xs 1 ≤ 9) : val B18 xs < 10000000000000000000 := by
 obtain ⟨hs, hn, hl, _⟩ := vm hg;rcases Nat.lt_or_ge xs.length 2 with h2 | h2
 · have h1 := val_lt hs;have h3 : B18 ^ xs.length ≤ B18 ^ 1 := Nat.pow_le_pow_right (by unfold B18; omega) (by omega);have h4 : B18 ^ 1 = 1000000000000000000 := by unfold B18; rfl
   omega
 · have h3 : xs.length = 2 := by omega
   rw [val_two h3];have h4 := h9 h3;have h5 := nth_lt (by unfold B18; omega) hs 0;unfold nth at h4 h5;unfold B18 at h5;omega
theorem neg_wrap (u : Int) (h0 : 0 ≤ u) (h1 : u ≤ 9223372036854775808) : IntKind.i64.wrap (IntKind.u64.wrap (-u)) = -u := by
 simp [IntKind.wrap, IntKind.signed, IntKind.bits]; omega
theorem pos_wrap (u : Int) (h0 : 0 ≤ u) (h1 : u < 9223372036854775808) : IntKind.i64.wrap u = u := by
 simp [IntKind.wrap, IntKind.signed, IntKind.bits]; omega
section
variable (A : Option Addr) (c : Nat) (xs : List Nat) (w : World)
set_option maxRecDepth 100000
set_option maxHeartbeats 1000000 in
theorem int_bad (neg : Bool) (hx : Nums w A xs) (hl : xs.length ≤ 9223372036854775807) (hg : vw neg xs = false) :
 Calls Try.prog 35 #[.agg #[.bool neg, .slice A xs.length c]] w (zcz w false (num neg xs)) := by
 go_enter Try.func35, Try.ntmps35
 go_wp2_with fail
 refine (kd neg c _ A xs hl (hx.alloc _)).mono ?_;rintro e w1 ⟨rfl, hb1⟩;have L1 : Below w.heap.size w w1 := ((Below.refl _ _).alloc (Nat.le_refl _) _).trans (hb1.mono (by simp));go_wp2_with fail
 refine bodyPost_ret (v := .tuple #[.int .i64 0, .int .i64 3]) (by simp [results, Try.results35, go_sem]) rfl ?_;exact retInt_bad L1
set_option maxHeartbeats 1000000 in
theorem int_out (neg : Bool) (hx : Nums w A xs) (hg : vw neg xs = true) (h : 2 < xs.length ∨ (xs.length = 2 ∧ 9 < nth xs 1)) :
 Calls Try.prog 35 #[.agg #[.bool neg, .slice A xs.length c]] w (zcz w true (num neg xs)) := by
 obtain ⟨hs, hn, hl, _⟩ := vm hg;rcases h with h | ⟨h, h9⟩
 · have HO := Lib.hid (int_out3 hg h);have h2 : (2 : Int) < (xs.length : Int) := by omega
   go_enter Try.func35, Try.ntmps35
   go_wp2_with fail
   refine (kd neg c _ A xs (by omega) (hx.alloc _)).mono ?_;rintro e w1 ⟨rfl, hb1⟩;have X1 := (Blk.new w 26 #[.bool neg, .slice A xs.length c]).below hb1 (by simp);have L1 : Below w.heap.size w w1 := ((Below.refl _ _).alloc (Nat.le_refl _) _).trans (hb1.mono (by simp));obtain ⟨x0, x1, x2, x3⟩ := X1.two;clear hb1;go_wp2_with fail
   refine bodyPost_ret (v := .tuple #[.int .i64 0, .int .i64 7]) (by simp [results, Try.results35, go_sem]) rfl ?_;exact jt L1 HO.out
 · have HO := Lib.hid (int_out2 (neg := neg) h h9);obtain ⟨b, o, rfl, hb, hc⟩ := hx.2 (by omega);have hc1 := hc 1 (by omega);have H2 := Lib.hid h;have HX := Lib.hid hx;clear h hx;go_enter Try.func35, Try.ntmps35
   go_wp2_with fail
   refine (kd neg c _ _ xs (by omega) (HX.out.alloc _)).mono ?_;rintro e w1 ⟨rfl, hb1⟩;have X1 := (Blk.new w 26 #[.bool neg, .slice (some ⟨b, o, none⟩) xs.length c]).below hb1 (by simp);have L1 : Below w.heap.size w w1 := ((Below.refl _ _).alloc (Nat.le_refl _) _).trans (hb1.mono (by simp));obtain ⟨x0, x1, x2, x3⟩ := X1.two
   have hcw : w1.cell? ⟨b, o + 1, none⟩ = some (.int .u64 (nth xs 1)) := (L1.cell (p := ⟨b, o + 1, none⟩) hb).trans hc1;rw [H2.out] at x1;clear hb1 hc hc1;go_wp2_with fail
   refine bodyPost_ret (v := .tuple #[.int .i64 0, .int .i64 7]) (by simp [results, Try.results35, go_sem]) rfl ?_;exact jt L1 HO.out
set_option maxHeartbeats 1000000 in
theorem int_in (neg : Bool) (hx : Nums w A xs) (hg : vw neg xs = true) (h : xs.length ≤ 2) (h9 : xs.length = 2 → nth xs 1 ≤ 9) :
 Calls Try.prog 35 #[.agg #[.bool neg, .slice A xs.length c]] w (zcz w true (num neg xs)) := by
 obtain ⟨hs, hn, hl, _⟩ := vm hg;have hsm := int_small hg h h9;have htest : (xs.length = 2 ∧ ∃ b o, A = some ⟨b, o, none⟩ ∧ b < w.heap.size ∧ w.cell? ⟨b, o + 1, none⟩ = some (.int .u64 (nth xs 1))) ∨ xs.length < 2 := by
  rcases Nat.lt_or_ge xs.length 2 with h2 | h2
  · exact Or.inr h2
  · obtain ⟨b, o, rfl, hb, hc⟩ := hx.2 (by omega);exact Or.inl ⟨by omega, b, o, rfl, hb, hc 1 (by omega)⟩
 have h2 : ¬ (2 : Int) < (xs.length : Int) := by omega
 have HS := Lib.hid hsm;clear hsm;go_enter Try.func35, Try.ntmps35
 go_wp2_with fail
 refine (kd neg c _ _ xs (by omega) (hx.alloc _)).mono ?_;rintro e w1 ⟨rfl, hb1⟩;have X1 := (Blk.new w 26 #[.bool neg, .slice A xs.length c]).below hb1 (by simp);have L1 : Below w.heap.size w w1 := ((Below.refl _ _).alloc (Nat.le_refl _) _).trans (hb1.mono (by simp));obtain ⟨x0, x1, x2, x3⟩ := X1.two;have hx1 := hx.below L1 (Nat.le_refl _)
 have hu : ∀ k, k < xs.length → ((val B18 (xs.drop (k + 1)) : Nat) : Int) * 1000000000000000000 + nth xs k = ((val B18 (xs.drop k) : Nat) : Int) ∧ ((val B18 (xs.drop k) : Nat) : Int) < 10000000000000000000 := by
  intro k hk;have e := jz (b := B18) hk;have e2 := ziv (b := B18) (by unfold B18; omega) xs k;have e3 := HS.out;unfold nth;generalize val B18 (xs.drop (k + 1)) = p at *
  generalize val B18 (xs.drop k) = q at *
  unfold B18 at e;omega
 have HU := Lib.hid hu;clear hb1 hu;rcases htest with ⟨h3, b, o, rfl, hb, hc1⟩ | h3
 · have hcw : w1.cell? ⟨b, o + 1, none⟩ = some (.int .u64 (nth xs 1)) := (L1.cell (p := ⟨b, o + 1, none⟩) hb).trans hc1;have h9' := h9 h3;have hlt2 : ((xs.length : Int) == 2) = true := by simp; omega
   have hone : (1 : Int) < (xs.length : Int) := by omega
   have H3 := Lib.hid h3;clear hc1 h3 h9;go_wp2_with fail
   go_loop [4, 5] (fun u v => ∃ k : Nat, k ≤ xs.length ∧ u = .int .u64 ((val B18 (xs.drop k) : Nat) : Int) ∧ v = .int .i64 ((k : Int) - 1)) (fun u v => (intOf v + 1).toNat)
   case atStart => exact ⟨xs.length, Nat.le_refl _, by rw [List.drop_of_length_le (Nat.le_refl _)]; rfl, rfl⟩
   case round =>
    obtain ⟨k, hk, rfl, rfl⟩ := hrel;by_cases hk0 : k = 0
    · subst hk0;obtain ⟨u, hu⟩ : ∃ u : Int, u = ((val B18 (xs.drop 0) : Nat) : Int) := ⟨_, rfl⟩;have hu1 : u < 10000000000000000000 := by rw [hu, List.drop_zero]; have := HS.out; omega
      have hu0 : 0 ≤ u := by rw [hu]; omega
      have hval : u = ((val B18 xs : Nat) : Int) := by rw [hu, List.drop_zero]
      rw [← hu];clear hu;cases neg
      · have hv : num false xs = u := by rw [zhz, hval]; rfl
        have HV := Lib.hid hv;clear hv hval;by_cases hr : u < 9223372036854775808
        · have hw := pos_wrap u hu0 hr;go_wp2
          refine bodyPost_ret (v := .tuple #[.int .i64 u, .int .i64 0]) (by simp [results, Try.results35, go_sem, hw]) rfl ?_;exact oi L1 (by rw [HV.out]; unfold inR; omega) HV.out.symm
        · go_wp2
          refine bodyPost_ret (v := .tuple #[.int .i64 0, .int .i64 7]) (by simp [results, Try.results35, go_sem]) rfl ?_;exact jt L1 (by rw [HV.out]; unfold inR; omega)
      · have hv : num true xs = -u := by rw [zhz, hval]; rfl
        have HV := Lib.hid hv;clear hv hval;by_cases hr : u ≤ 9223372036854775808
        · have hw := neg_wrap u hu0 hr;go_wp2
          refine bodyPost_ret (v := .tuple #[.int .i64 (-u), .int .i64 0]) (by simp [results, Try.results35, go_sem, hw]) rfl ?_;exact oi L1 (by rw [HV.out]; unfold inR; omega) HV.out.symm
        · go_wp2
          refine bodyPost_ret (v := .tuple #[.int .i64 0, .int .i64 7]) (by simp [results, Try.results35, go_sem]) rfl ?_;exact jt L1 (by rw [HV.out]; unfold inR; omega)
    · obtain ⟨m, rfl⟩ : ∃ m, k = m + 1 := ⟨k - 1, by omega⟩;obtain ⟨b1, o1, hA, hb1, hc1⟩ := hx1.2 (by omega);have hcm := hc1 m (by omega);have hm1 : (m : Int) < (xs.length : Int) := by omega
      have hnn := xj xs m;obtain ⟨he, hlt⟩ := HU.out m (by omega);obtain ⟨p, hp⟩ : ∃ p : Int, p = ((val B18 (xs.drop (m + 1)) : Nat) : Int) := ⟨_, rfl⟩;have hp0 : 0 ≤ p := by rw [hp]; omega
      rw [← hp] at he ⊢;have HE := Lib.hid he;have hb2 : p * 1000000000000000000 + nth xs m < 10000000000000000000 := by rw [he]; exact hlt
      have hp1 : p ≤ 10 := by omega
      clear hc1 he hp hlt;(first | (injection hA with hA; injection hA with h1 h2; subst h1; subst h2) | subst hA)
      go_wp2
      go_round
      case rel => exact ⟨m, by omega, by rw [HE.out], by go_num⟩
      case measure => simp [intOf]
 · have hlt2 : ((xs.length : Int) == 2) = false := by simp; omega
   clear h9;go_wp2_with fail
   go_loop [4, 5] (fun u v => ∃ k : Nat, k ≤ xs.length ∧ u = .int .u64 ((val B18 (xs.drop k) : Nat) : Int) ∧ v = .int .i64 ((k : Int) - 1)) (fun u v => (intOf v + 1).toNat)
   case atStart => exact ⟨xs.length, Nat.le_refl _, by rw [List.drop_of_length_le (Nat.le_refl _)]; rfl, rfl⟩
   case round =>
    obtain ⟨k, hk, rfl, rfl⟩ := hrel;by_cases hk0 : k = 0
    · subst hk0;obtain ⟨u, hu⟩ : ∃ u : Int, u = ((val B18 (xs.drop 0) : Nat) : Int) := ⟨_, rfl⟩;have hu1 : u < 10000000000000000000 := by rw [hu, List.drop_zero]; have := HS.out; omega
      have hu0 : 0 ≤ u := by rw [hu]; omega
      have hval : u = ((val B18 xs : Nat) : Int) := by rw [hu, List.drop_zero]
      rw [← hu];clear hu;cases neg
      · have hv : num false xs = u := by rw [zhz, hval]; rfl
        have HV := Lib.hid hv;clear hv hval;by_cases hr : u < 9223372036854775808
        · have hw := pos_wrap u hu0 hr;go_wp2
          refine bodyPost_ret (v := .tuple #[.int .i64 u, .int .i64 0]) (by simp [results, Try.results35, go_sem, hw]) rfl ?_;exact oi L1 (by rw [HV.out]; unfold inR; omega) HV.out.symm
        · go_wp2
          refine bodyPost_ret (v := .tuple #[.int .i64 0, .int .i64 7]) (by simp [results, Try.results35, go_sem]) rfl ?_;exact jt L1 (by rw [HV.out]; unfold inR; omega)
      · have hv : num true xs = -u := by rw [zhz, hval]; rfl
        have HV := Lib.hid hv;clear hv hval;by_cases hr : u ≤ 9223372036854775808
        · have hw := neg_wrap u hu0 hr;go_wp2
          refine bodyPost_ret (v := .tuple #[.int .i64 (-u), .int .i64 0]) (by simp [results, Try.results35, go_sem, hw]) rfl ?_;exact oi L1 (by rw [HV.out]; unfold inR; omega) HV.out.symm
        · go_wp2
          refine bodyPost_ret (v := .tuple #[.int .i64 0, .int .i64 7]) (by simp [results, Try.results35, go_sem]) rfl ?_;exact jt L1 (by rw [HV.out]; unfold inR; omega)
    · obtain ⟨m, rfl⟩ : ∃ m, k = m + 1 := ⟨k - 1, by omega⟩;obtain ⟨b1, o1, hA, hb1, hc1⟩ := hx1.2 (by omega);have hcm := hc1 m (by omega);have hm1 : (m : Int) < (xs.length : Int) := by omega
      have hnn := xj xs m;obtain ⟨he, hlt⟩ := HU.out m (by omega);obtain ⟨p, hp⟩ : ∃ p : Int, p = ((val B18 (xs.drop (m + 1)) : Nat) : Int) := ⟨_, rfl⟩;have hp0 : 0 ≤ p := by rw [hp]; omega
      rw [← hp] at he ⊢;have HE := Lib.hid he;have hb2 : p * 1000000000000000000 + nth xs m < 10000000000000000000 := by rw [he]; exact hlt
      have hp1 : p ≤ 10 := by omega
      clear hc1 he hp hlt;(first | (injection hA with hA; injection hA with h1 h2; subst h1; subst h2) | subst hA)
      go_wp2
      go_round
      case rel => exact ⟨m, by omega, by rw [HE.out], by go_num⟩
      case measure => simp [intOf]
theorem int_any (neg : Bool) (hx : Nums w A xs) (hl : xs.length ≤ 9223372036854775807) :
 Calls Try.prog 35 #[.agg #[.bool neg, .slice A xs.length c]] w (zcz w (vw neg xs) (num neg xs)) := by
 cases hg : vw neg xs
 · exact int_bad A c xs w neg hx hl hg
 by_cases h1 : 2 < xs.length
 · exact int_out A c xs w neg hx hg (Or.inl h1)
 by_cases h2 : xs.length = 2 ∧ 9 < nth xs 1
 · exact int_out A c xs w neg hx hg (Or.inr h2)
 exact int_in A c xs w neg hx hg (by omega) (by intro h3; by_cases h4 : nth xs 1 ≤ 9; exact h4; exact absurd ⟨h3, by omega⟩ h2)
end
end Go.Proofs.Ytjhmifebmplahaa
namespace Go.Proofs.Ytjhmifebmplahaa
open Go.RowKit
@[irreducible] def smV (i : Int) : Int := if inR i then i else 0
def RetSmall (W : World) (i : Int) (e : Ending) (w' : World) : Prop := e = .returned (.tuple #[.int .i64 (smV i), .bool (decide (inR i))]) ∧ Below W.heap.size W w'
theorem xd {W w' : World} {i : Int} (h : Below W.heap.size W w') (hv : ¬ inR i) : RetSmall W i (.returned (.tuple #[.int .i64 0, .bool false])) w' := ⟨by unfold smV; simp [hv], h⟩
theorem zjx {W w' : World} {i u : Int} (h : Below W.heap.size W w') (hv : inR i) (hu : u = i) : RetSmall W i (.returned (.tuple #[.int .i64 u, .bool true])) w' := ⟨by subst hu; unfold smV; simp [hv], h⟩
theorem tens_long {i : Int} (h : 19 < (tens i).length) : ¬ inR i := by
 rw [oe] at h;have h2 := mt (ke (by decide : 2 ≤ 10) i.natAbs 19).2 (by omega);unfold inR; omega
set_option maxRecDepth 100000
set_option maxHeartbeats 1000000 in
theorem rsmall_any (A : Option Addr) (c : Nat) (i : Int) (w : World) (hx : Nums8 w A (tens i)) (hl : (tens i).length ≤ 1048576) :
 Calls Try.prog 26 #[.agg #[.bool (decide (i < 0)), .slice A (tens i).length c]] w (RetSmall w i) := by
 by_cases h19 : 19 < (tens i).length
 · have HO := Lib.hid (tens_long h19);have h19' : (19 : Int) < ((tens i).length : Int) := by omega
   go_enter Try.func26, Try.ntmps26
   go_wp2_with fail
   refine bodyPost_ret (v := .tuple #[.int .i64 0, .bool false]) (by simp [results, Try.results26, go_sem]) rfl ?_;exact xd ((Below.refl _ _).alloc (Nat.le_refl _) _) HO.out
 · have h19' : ¬ (19 : Int) < ((tens i).length : Int) := by omega
   have hbig : val 10 (tens i) < 10000000000000000000 := by
    rw [val_tens];have := (ke (by decide : 2 ≤ 10) i.natAbs 19).1 (by rw [← oe]; omega);omega
   have hu : ∀ k, k < (tens i).length → 10 * ((val 10 ((tens i).drop (k + 1)) : Nat) : Int) + nth (tens i) k = ((val 10 ((tens i).drop k) : Nat) : Int) ∧ ((val 10 ((tens i).drop k) : Nat) : Int) < 10000000000000000000 ∧ nth (tens i) k < 10 := by
    intro k hk;have e := jz (b := 10) hk;have e2 := ziv (b := 10) (by omega) (tens i) k;have e3 := nth_lt (by omega) (tens_small i) k;refine ⟨?_, by omega, e3⟩;unfold nth;generalize val 10 ((tens i).drop (k + 1)) = p at *
    generalize val 10 ((tens i).drop k) = q at *
    omega
   have HU := Lib.hid hu; have HB := Lib.hid hbig;have HI := Lib.hid (val_tens i);obtain ⟨bn, hbn⟩ : ∃ bn, bn = decide (i < 0) := ⟨_, rfl⟩;rw [← hbn];have HN := Lib.hid hbn;clear hu hbig h19 hbn;generalize htt : tens i = ds at *
   clear htt;go_enter Try.func26, Try.ntmps26
   go_wp2_with fail
   go_loop [4, 5] (fun u v => ∃ k : Nat, k ≤ ds.length ∧ u = .int .u64 ((val 10 (ds.drop k) : Nat) : Int) ∧ v = .int .i64 ((k : Int) - 1)) (fun u v => (intOf v + 1).toNat)
   case atStart => exact ⟨ds.length, Nat.le_refl _, by rw [List.drop_of_length_le (Nat.le_refl _)]; rfl, rfl⟩
   case round =>
    obtain ⟨k, hk, rfl, rfl⟩ := hrel;have L1 : Below w.heap.size w (w.alloc (.cells #[.bool bn, .slice A ds.length c] 64)) := (Below.refl _ _).alloc (Nat.le_refl _) _;by_cases hk0 : k = 0
    · subst hk0;obtain ⟨u, hu⟩ : ∃ u : Int, u = ((val 10 (ds.drop 0) : Nat) : Int) := ⟨_, rfl⟩;have hu1 : u < 10000000000000000000 := by rw [hu, List.drop_zero]; have := HB.out; omega
      have hu0 : 0 ≤ u := by rw [hu]; omega
      have hval : u = ((i.natAbs : Nat) : Int) := by rw [hu, List.drop_zero, HI.out]
      rw [← hu];clear hu;cases bn
      · have hv : i = u := by have := HN.out; simp at this; omega
        have HV := Lib.hid hv;clear hv hval;by_cases hr : u < 9223372036854775808
        · have hw := pos_wrap u hu0 hr;go_wp2
          refine bodyPost_ret (v := .tuple #[.int .i64 u, .bool true]) (by simp [results, Try.results26, go_sem]) rfl ?_;exact zjx L1 (by rw [HV.out]; unfold inR; omega) HV.out.symm
        · go_wp2
          refine bodyPost_ret (v := .tuple #[.int .i64 0, .bool false]) (by simp [results, Try.results26, go_sem]) rfl ?_;exact xd L1 (by rw [HV.out]; unfold inR; omega)
      · have hv : i = -u := by have := HN.out; simp at this; omega
        have HV := Lib.hid hv;clear hv hval;by_cases hr : u ≤ 9223372036854775808
        · have hw := neg_wrap u hu0 hr;go_wp2
          refine bodyPost_ret (v := .tuple #[.int .i64 (-u), .bool true]) (by simp [results, Try.results26, go_sem, hw]) rfl ?_;exact zjx L1 (by rw [HV.out]; unfold inR; omega) HV.out.symm
        · go_wp2
          refine bodyPost_ret (v := .tuple #[.int .i64 0, .bool false]) (by simp [results, Try.results26, go_sem]) rfl ?_;exact xd L1 (by rw [HV.out]; unfold inR; omega)
    · obtain ⟨m, rfl⟩ : ∃ m, k = m + 1 := ⟨k - 1, by omega⟩;obtain ⟨b1, o1, rfl, hb1, hc1⟩ := hx.2 (by omega);have hcm := hc1 m (by omega);have hm1 : (m : Int) < (ds.length : Int) := by omega
      have hnn := xj ds m;obtain ⟨he, hlt, hn10⟩ := HU.out m (by omega);obtain ⟨p, hp⟩ : ∃ p : Int, p = ((val 10 (ds.drop (m + 1)) : Nat) : Int) := ⟨_, rfl⟩;have hp0 : 0 ≤ p := by rw [hp]; omega
      rw [← hp] at he ⊢;have HE := Lib.hid he;have hb2 : 10 * p + nth ds m < 10000000000000000000 := by rw [he]; exact hlt
      have hp1 : 10 * p < 10000000000000000000 := by omega
      clear hc1 he hp hlt;go_wp2
      go_round
      case rel => exact ⟨m, by omega, by rw [HE.out], by go_num⟩
      case measure => simp [intOf]
end Go.Proofs.Ytjhmifebmplahaa
namespace Go.Proofs.Ytjhmifebmplahaa
open Go.RowKit
set_option maxRecDepth 100000
end Go.Proofs.Ytjhmifebmplahaa

/- Texts of this claim. -/
import Derived.Test.YtppdgjlmeahimaaDoorE14
import Derived.Test.YtppdgjlmeahimaaDoorRows
import Derived.WalkSpells
import Derived.WalkLawsBesides
import Derived.BigQuiet
import Derived.Deep.QuietTactic
import Derived.Deep.RegionHeld3
import Derived.Deep.DeepCutAuto
import Derived.Lib.Hide
import Derived.Laws.CopyOwn
namespace Go.Proofs.YtppdgjlmeahimaaDoor
open Go.RowKit
def lenOf : Value → Nat | .slice _ n _ => n | _ => 0
theorem nth_set (ys : List Nat) (i v : Nat) (h : i < ys.length) (j : Nat) : nth (ys.set i v) j = if j = i then (v : Int) else nth ys j := by
 unfold nth;by_cases hj : j = i
 · subst hj; simp [h]
 · rw [if_neg hj]; simp [show ¬ i = j from fun e => hj e.symm]
theorem nth_nil (j : Nat) : nth [] j = 0 := by unfold nth; simp
def rowOf (ys : List Nat) (j : Nat) : Value := .int .u64 (nth ys j)
def Row (w : World) (g n : Nat) (ys : List Nat) : Prop := w.rowIs g 35 n (rowOf ys) ∧ ys.length ≤ n
section
variable {w w' : World} {g n : Nat} {ys : List Nat}
theorem Row.cell (h : Row w g n ys) {j : Nat} (hj : j < n) : w.cell? ⟨g, j, none⟩ = some (.int .u64 (nth ys j)) := h.1.cell hj
theorem Row.frozen (h : Row w g n ys) (j : Nat) : w.frozen? ⟨g, j, none⟩ = false := h.1.frozen j
theorem Row.lt (h : Row w g n ys) : g < w.heap.size := h.1.lt
theorem Row.made (w : World) (n : Nat) : Row (w.alloc (.cells (madeCells #[.int .u64 0] n) 35)) w.heap.size n [] :=
 ⟨(World.rowIs_made w _ n _).congr fun i _ => by unfold rowOf; rw [nth_nil], Nat.zero_le _⟩
theorem Row.set (h : Row w g n ys) (i v : Nat) (hi : i < ys.length) : Row (w.setCell ⟨g, i, none⟩ (.int .u64 (v : Int))) g n (ys.set i v) :=
 ⟨(h.1.set i _).congr fun j _ => by unfold rowOf; rw [nth_set _ _ _ hi]; split <;> rfl, by simpa using h.2⟩
theorem Row.of_block (h : Row w g n ys) (e : w'.heap[g]? = w.heap[g]?) : Row w' g n ys := ⟨h.1.of_block e, h.2⟩
theorem Row.alloc (h : Row w g n ys) (o : Obj) : Row (w.alloc o) g n ys := ⟨h.1.alloc o, h.2⟩
theorem Row.drew (h : Row w g n ys) : Row w.drew g n ys := h
theorem Row.below {B : Nat} (h : Row w g n ys) (hb : Below B w w') (hg : g < B) : Row w' g n ys := h.of_block (hb.block g hg)
theorem Row.fill (h : Row w g n ys) : Row w g n (ys ++ List.replicate (n - ys.length) 0) := by
 refine ⟨h.1.congr fun i hi => ?_, by have := h.2; simp; omega⟩;unfold rowOf nth;by_cases h1 : i < ys.length
 · simp [List.getElem?_append_left h1]
 · simp [List.getElem?_append_right (show ys.length ≤ i by omega), List.getElem?_eq_none (show ys.length ≤ i by omega), List.getElem?_replicate]
   split <;> rfl
end
def Own (w : World) (base : Nat) (A : Option Addr) (c : Nat) (xs : List Nat) : Prop :=
 w.ownsRow base 35 1 (.slice A xs.length c) xs.length (xs.map fun x : Nat => Value.int .u64 (x : Int)) ∧ ∀ x ∈ xs, x < 18446744073709551616
section
variable {w w' : World} {base : Nat} {A : Option Addr} {c : Nat} {xs : List Nat}
theorem nth_bound (h : ∀ x ∈ xs, x < 18446744073709551616) (k : Nat) : nth xs k < 18446744073709551616 := by
 unfold nth;by_cases hk : k < xs.length
 · have := h _ (List.getElem_mem hk); simp only [List.getD, List.getElem?_eq_getElem hk, Option.getD_some]; omega
 · rw [getD_past xs k (by omega)]; simp
theorem Own.nums (h : Own w base A c xs) : Nums w A xs := by
 refine ⟨nth_bound h.2, fun h0 => ?_⟩;rcases h.1.2 with ⟨_, hn⟩ | ⟨g, cap, cur, hv, hg, hh, hnc, _, hsz, hcur⟩
 · omega
 · injection hv with hA _ hc
   subst hA;refine ⟨g, 0, rfl, (Array.getElem?_eq_some_iff.1 hh).1, fun k hk => ?_⟩;rw [Nat.zero_add, cell_of_row w g k cur _ (0, 0) hh];have e : cur[k]? = cur.toList[k]? := by simp
   have e2 : cur.toList[k]? = (cur.toList.take (xs.length * 1))[k]? := by rw [List.getElem?_take, if_pos (by omega)]
   rw [e, e2, hcur];simp [nth, hk]
theorem Own.nil (w : World) (base : Nat) : Own w base none 0 [] := ⟨World.ownsRow_nil _ _ _ _, fun _ h => by cases h⟩
theorem Own.kept {row : Option Nat} (h : Own w base A c xs) (hg : w.grownBy w' row) (hne : (Value.slice A xs.length c).ownBlock = none ∨ (Value.slice A xs.length c).ownBlock ≠ row) : Own w' base A c xs := ⟨h.1.kept hg hne, h.2⟩
theorem Own.below {B : Nat} (h : Own w base A c xs) (hb : Below B w w') (hB : w.heap.size ≤ B) : Own w' base A c xs :=
 h.kept (row := none) ⟨hb.os, hb.tape, hb.output, hb.size, fun k hk _ => hb.block k (by omega)⟩ (by cases (Value.slice A xs.length c).ownBlock <;> simp)
theorem Own.alloc (h : Own w base A c xs) (o : Obj) : Own (w.alloc o) base A c xs := ⟨h.1.alloc o, h.2⟩
theorem Own.drew (h : Own w base A c xs) : Own w.drew base A c xs := h
theorem Own.mono {b' : Nat} (h : Own w base A c xs) (hb : b' ≤ base) : Own w b' A c xs := by
 refine ⟨⟨h.1.1, ?_⟩, h.2⟩;rcases h.1.2 with h2 | ⟨g, cap, cur, hv, hg, r⟩
 · exact .inl h2
 · exact .inr ⟨g, cap, cur, hv, by omega, r⟩
theorem Own.setCell (h : Own w base A c xs) {p : Addr} (hp : ∀ q, A = some q → q.block ≠ p.block) (u : Value) : Own (w.setCell p u) base A c xs := by
 refine ⟨⟨h.1.1, ?_⟩, h.2⟩;rcases h.1.2 with h2 | ⟨g, cap, cur, hv, hg, hh, r⟩
 · exact .inl h2
 · refine .inr ⟨g, cap, cur, hv, hg, ?_, r⟩;rw [Below.heap_setCell _ _ _ _ (by injection hv with e1; exact hp _ e1)];exact hh
theorem Own.ge (h : Own w base A c xs) : ∀ q, A = some q → base ≤ q.block ∧ q.block < w.heap.size := by
 intro q hq;subst hq;exact h.1.lt q.block rfl
theorem Nums.keep (h : Nums w A xs) (hs : w.heap.size ≤ w'.heap.size) (hk : ∀ p : Addr, p.block < w.heap.size → w'.cell? p = w.cell? p) : Nums w' A xs :=
 ⟨h.1, fun h0 => by
  obtain ⟨b, o, rfl, hb, hc⟩ := h.2 h0;exact ⟨b, o, rfl, by omega, fun k hk' => (hk _ hb).trans (hc k hk')⟩⟩
theorem Nums.alloc (h : Nums w A xs) (o : Obj) : Nums (w.alloc o) A xs := h.keep (by simp) fun p hp => World.cell?_alloc_lt w o p hp
theorem Nums.drew (h : Nums w A xs) : Nums w.drew A xs := h
theorem Nums.below {B : Nat} (h : Nums w A xs) (hb : Below B w w') (hB : w.heap.size ≤ B) : Nums w' A xs := h.keep hb.size fun _ hp => hb.cell (by omega)
theorem Nums.setCell (h : Nums w A xs) {p : Addr} (hp : ∀ q, A = some q → q.block ≠ p.block) (u : Value) : Nums (w.setCell p u) A xs :=
 ⟨h.1, fun h0 => by
  obtain ⟨b, o, rfl, hb, hc⟩ := h.2 h0;refine ⟨b, o, rfl, by simpa [World.setCell] using hb, fun k hk' => ?_⟩;rw [World.cell?_setCell_other _ _ _ _ (fun e => hp _ rfl (by rw [e]))];exact hc k hk'⟩
end
theorem Blk.two {w : World} {g : Nat} {t : TypeId} {u v : Value} (h : Blk w g t #[u, v]) :
 w.cell? ⟨g, 0, none⟩ = some u ∧ w.cell? ⟨g, 1, none⟩ = some v ∧ w.frozen? ⟨g, 0, none⟩ = false ∧ w.frozen? ⟨g, 1, none⟩ = false :=
 ⟨h.cell 0, h.cell 1, h.frozen 0, h.frozen 1⟩
theorem Blk.first (w : World) (t : TypeId) (cs : Array Value) (o : Obj) : Blk ((w.alloc (.cells cs t)).alloc o) w.heap.size t cs := (Blk.new w t cs).alloc o
/-! ### copy into a new row -/
/-! ### append of new words to a slice of the call's own -/
theorem Below.own {w0 w w' : World} {base : Nat} {A : Option Addr} {c : Nat} {xs : List Nat} (hb : Below base w0 w) (hown : Own w base A c xs) (hbase : base ≤ w.heap.size) (hg : w.grownBy w' (Value.slice A xs.length c).ownBlock) : Below base w0 w' :=
 hb.grown hg hbase (fun k hk => by
  match A, hown, hk with
  | some q, hown, hk =>
   have h1 := hown.ge q rfl;simp only [Value.ownBlock, Option.some.injEq] at hk
   omega
  | none, _, hk => simp [Value.ownBlock] at hk)
theorem Own.cut {w : World} {base : Nat} {A : Option Addr} {c : Nat} {xs : List Nat} (h : Own w base A c xs) (hc : xs ≠ []) {k : Nat} (hk : k ≤ xs.length) : Own w base A c (xs.take k) := by
 refine ⟨⟨by simp, ?_⟩, fun x hx => h.2 x (List.mem_of_mem_take hx)⟩;rcases h.1.2 with ⟨_, h0⟩ | ⟨g, cap, cur, hv, hg, hh, hle, hcap, hsz, hcur⟩
 · exact absurd (List.eq_nil_of_length_eq_zero h0) hc
 · injection hv with hA hn hcc
   subst hA; subst hcc;have hkl : (xs.take k).length = k := by rw [List.length_take]; omega
   refine .inr ⟨g, c, cur, rfl, hg, hh, by omega, hcap, hsz, ?_⟩;rw [hkl, List.map_take, ← hcur, List.take_take, Nat.mul_one, Nat.mul_one, Nat.min_eq_left hk]
/-! ### whole numbers -/
def B18 : Nat := 1000000000000000000
@[irreducible] def limbs (i : Int) : List Nat := digs B18 i.natAbs
def sgn (neg : Bool) (n : Nat) : Int := if neg then -(n : Int) else n
def RetBig (W : World) (i : Int) (e : Ending) (w' : World) : Prop :=
 ∃ A c, e = .returned (.agg #[.bool (decide (i < 0)), .slice A (limbs i).length c]) ∧ Own w' W.heap.size A c (limbs i) ∧ Below W.heap.size W w'
def RetBigErr (W : World) (i : Int) (f : Int) (e : Ending) (w' : World) : Prop :=
 ∃ A c, e = .returned (.tuple #[.agg #[.bool (decide (i < 0)), .slice A (limbs i).length c], .int .i64 f]) ∧ Own w' W.heap.size A c (limbs i) ∧ Below W.heap.size W w'
def RetRow (W : World) (b len v : Nat) (e : Ending) (w' : World) : Prop :=
 ∃ g zs, e = .returned (.slice (some ⟨g, 0, none⟩) zs.length zs.length) ∧ Row w' g len zs ∧ zs.length = len ∧ small b zs ∧ val b zs = v ∧ W.heap.size ≤ g ∧ Below W.heap.size W w'
theorem Row.nums {w' : World} {g len : Nat} {zs : List Nat} (h : Row w' g len zs) (hz : zs.length = len) (h64 : ∀ x ∈ zs, x < 18446744073709551616) : Nums w' (some ⟨g, 0, none⟩) zs :=
 ⟨nth_bound h64, fun _ => ⟨g, 0, rfl, h.lt, fun k hk => by rw [Nat.zero_add]; exact h.cell (by omega)⟩⟩
end Go.Proofs.YtppdgjlmeahimaaDoor

/- Words for numbers in memory: limbs and digits that a call makes; what a call that answers a number leaves. -/
import Derived.Test.YtljndllhmdpjlaaGreatDoorF13
import Derived.Test.YtljndllhmdpjlaaGreatDoorRows
import Derived.WalkSpells
import Derived.WalkLawsBesides
import Derived.BigQuiet
import Derived.Deep.QuietTactic
import Derived.Deep.RegionHeld3
import Derived.Deep.DeepCutAuto
import Derived.Lib.Hide
import Derived.Laws.CopyOwn
namespace Go.Proofs.YtljndllhmdpjlaaGreatDoor
open Go.RowKit

/-- The length of a slice in a slot: for a loop's measure. -/
def lenOf : Value → Nat | .slice _ n _ => n | _ => 0
theorem ret_bool {a b : Bool} (h : a = b) : Ending.returned (.bool a) = .returned (.bool b) := by rw [h]
theorem ret_int' {a b : Int} (h : a = b) : Ending.returned (.int .i64 a) = .returned (.int .i64 b) := by rw [h]

theorem nth_lt {b : Nat} (hb : 0 < b) {xs : List Nat} (h : small b xs) (k : Nat) : nth xs k < b := by
  unfold nth; have := small_getD hb h k; omega
theorem nth_past (xs : List Nat) (k : Nat) (h : xs.length ≤ k) : nth xs k = 0 := by
  unfold nth; rw [getD_past xs k h]; rfl
theorem nth_toNat (xs : List Nat) (k : Nat) : (nth xs k).toNat = xs.getD k 0 := by unfold nth; omega
theorem nth_snoc (ys : List Nat) (v : Nat) (j : Nat) : nth (ys ++ [v]) j = if j = ys.length then (v : Int) else nth ys j := by
  unfold nth
  by_cases h : j = ys.length
  · subst h; simp
  · rw [if_neg h]
    by_cases h1 : j < ys.length
    · simp [List.getElem?_append_left h1]
    · simp [List.getElem?_append_right (show ys.length ≤ j by omega), List.getElem?_eq_none (show ys.length ≤ j by omega)]
      rw [List.getElem?_eq_none]; rfl; simp; omega
theorem nth_set (ys : List Nat) (i v : Nat) (h : i < ys.length) (j : Nat) : nth (ys.set i v) j = if j = i then (v : Int) else nth ys j := by
  unfold nth
  by_cases hj : j = i
  · subst hj; simp [h]
  · rw [if_neg hj]; simp [show ¬ i = j from fun e => hj e.symm]
theorem nth_take (ys : List Nat) (k j : Nat) (h : j < k) : nth (ys.take k) j = nth ys j := by
  unfold nth; simp [h]
theorem nth_replicate (n j : Nat) : nth (List.replicate n 0) j = 0 := by
  unfold nth; by_cases h : j < n <;> simp [h]
theorem nth_nil (j : Nat) : nth [] j = 0 := by unfold nth; simp

/-- The cells of a row of uint64. -/
def rowOf (ys : List Nat) (j : Nat) : Value := .int .u64 (nth ys j)
/-- Block g is a row of n uint64, of which the first ones are ys, the others noughts. -/
def Row (w : World) (g n : Nat) (ys : List Nat) : Prop := w.rowIs g 22 n (rowOf ys) ∧ ys.length ≤ n

section
variable {w w' : World} {g n : Nat} {ys : List Nat}
theorem Row.cell (h : Row w g n ys) {j : Nat} (hj : j < n) : w.cell? ⟨g, j, none⟩ = some (.int .u64 (nth ys j)) := h.1.cell hj
theorem Row.frozen (h : Row w g n ys) (j : Nat) : w.frozen? ⟨g, j, none⟩ = false := h.1.frozen j
theorem Row.lt (h : Row w g n ys) : g < w.heap.size := h.1.lt
theorem Row.made (w : World) (n : Nat) : Row (w.alloc (.cells (madeCells #[.int .u64 0] n) 22)) w.heap.size n [] :=
  ⟨(World.rowIs_made w _ n _).congr fun i _ => by unfold rowOf; rw [nth_nil], Nat.zero_le _⟩
theorem Row.snoc (h : Row w g n ys) (v : Nat) (hn : ys.length < n) : Row (w.setCell ⟨g, ys.length, none⟩ (.int .u64 (v : Int))) g n (ys ++ [v]) :=
  ⟨(h.1.set ys.length _).congr fun i _ => by unfold rowOf; rw [nth_snoc]; split <;> rfl, by simp; omega⟩
theorem Row.snocInt (h : Row w g n ys) (v : Int) (h0 : 0 ≤ v) {k : Nat} (hk : ys.length = k) (hn : k < n) : Row (w.setCell ⟨g, k, none⟩ (.int .u64 v)) g n (ys ++ [v.toNat]) := by
  subst hk
  have e : v = ((v.toNat : Nat) : Int) := by omega
  have h1 := h.snoc v.toNat hn
  rw [← e] at h1
  exact h1
theorem Row.set (h : Row w g n ys) (i v : Nat) (hi : i < ys.length) : Row (w.setCell ⟨g, i, none⟩ (.int .u64 (v : Int))) g n (ys.set i v) :=
  ⟨(h.1.set i _).congr fun j _ => by unfold rowOf; rw [nth_set _ _ _ hi]; split <;> rfl, by simpa using h.2⟩
theorem Row.setInt (h : Row w g n ys) (v : Int) (h0 : 0 ≤ v) {i : Nat} (hi : i < ys.length) : Row (w.setCell ⟨g, i, none⟩ (.int .u64 v)) g n (ys.set i v.toNat) := by
  have e : v = ((v.toNat : Nat) : Int) := by omega
  have h1 := h.set i v.toNat hi
  rw [← e] at h1
  exact h1
theorem Row.of_block (h : Row w g n ys) (e : w'.heap[g]? = w.heap[g]?) : Row w' g n ys := ⟨h.1.of_block e, h.2⟩
theorem Row.alloc (h : Row w g n ys) (o : Obj) : Row (w.alloc o) g n ys := ⟨h.1.alloc o, h.2⟩
theorem Row.drew (h : Row w g n ys) : Row w.drew g n ys := h
theorem Row.drewN (h : Row w g n ys) (k : Nat) : Row (w.drewN k) g n ys := h
theorem Row.setOther (h : Row w g n ys) {a : Addr} (ha : g ≠ a.block) (v : Value) : Row (w.setCell a v) g n ys := ⟨h.1.setOther ha v, h.2⟩
theorem Row.below {B : Nat} (h : Row w g n ys) (hb : Below B w w') (hg : g < B) : Row w' g n ys := h.of_block (hb.block g hg)
/-- A row that is filled is one with no noughts told apart. -/
theorem Row.fill (h : Row w g n ys) : Row w g n (ys ++ List.replicate (n - ys.length) 0) := by
  refine ⟨h.1.congr fun i hi => ?_, by have := h.2; simp; omega⟩
  unfold rowOf nth
  by_cases h1 : i < ys.length
  · simp [List.getElem?_append_left h1]
  · simp [List.getElem?_append_right (show ys.length ≤ i by omega), List.getElem?_eq_none (show ys.length ≤ i by omega), List.getElem?_replicate]
    split <;> rfl
end

/-- A slice that a call made, which reads as xs: it begins at the head of a row of its own from block number base on. -/
def Own (w : World) (base : Nat) (A : Option Addr) (c : Nat) (xs : List Nat) : Prop :=
  w.ownsRow base 22 1 (.slice A xs.length c) xs.length (xs.map fun x : Nat => Value.int .u64 (x : Int)) ∧ ∀ x ∈ xs, x < 18446744073709551616

section
variable {w w' : World} {base : Nat} {A : Option Addr} {c : Nat} {xs : List Nat}
theorem nth_bound (h : ∀ x ∈ xs, x < 18446744073709551616) (k : Nat) : nth xs k < 18446744073709551616 := by
  unfold nth
  by_cases hk : k < xs.length
  · have := h _ (List.getElem_mem hk); simp only [List.getD, List.getElem?_eq_getElem hk, Option.getD_some]; omega
  · rw [getD_past xs k (by omega)]; simp
theorem Own.nums (h : Own w base A c xs) : Nums w A xs := by
  refine ⟨nth_bound h.2, fun h0 => ?_⟩
  rcases h.1.2 with ⟨_, hn⟩ | ⟨g, cap, cur, hv, hg, hh, hnc, _, hsz, hcur⟩
  · omega
  · injection hv with hA _ hc
    subst hA
    refine ⟨g, 0, rfl, (Array.getElem?_eq_some_iff.1 hh).1, fun k hk => ?_⟩
    rw [Nat.zero_add, cell_of_row w g k cur _ (0, 0) hh]
    have e : cur[k]? = cur.toList[k]? := by simp
    have e2 : cur.toList[k]? = (cur.toList.take (xs.length * 1))[k]? := by rw [List.getElem?_take, if_pos (by omega)]
    rw [e, e2, hcur]
    simp [nth, hk]
theorem Own.nil (w : World) (base : Nat) : Own w base none 0 [] := ⟨World.ownsRow_nil _ _ _ _, fun _ h => by cases h⟩
theorem Own.of_row {g n : Nat} {ys : List Nat} (h : Row w g n ys) (hb : base ≤ g) (hc : n ≤ maxLen) (hx : xs.length ≤ n) (he : ∀ j, j < xs.length → nth ys j = nth xs j) (h64 : ∀ x ∈ xs, x < 18446744073709551616) : Own w base (some ⟨g, 0, none⟩) n xs := by
  obtain ⟨⟨cur, hh, hsz, hcell⟩, hle⟩ := h
  refine ⟨⟨by simp, .inr ⟨g, n, cur, rfl, hb, hh, hx, hc, by omega, ?_⟩⟩, h64⟩
  apply List.ext_getElem?
  intro j
  rw [List.getElem?_take]
  by_cases hj : j < xs.length
  · rw [if_pos (by omega)]
    have h1 := hcell j (by omega)
    rw [Array.getElem?_toList, h1]
    unfold rowOf
    rw [he j hj]
    simp [nth, hj]
  · rw [if_neg (by omega), List.getElem?_eq_none (by simpa using Nat.le_of_not_lt hj)]
theorem Own.kept {row : Option Nat} (h : Own w base A c xs) (hg : w.grownBy w' row) (hne : (Value.slice A xs.length c).ownBlock = none ∨ (Value.slice A xs.length c).ownBlock ≠ row) : Own w' base A c xs := ⟨h.1.kept hg hne, h.2⟩
theorem Own.below {B : Nat} (h : Own w base A c xs) (hb : Below B w w') (hB : w.heap.size ≤ B) : Own w' base A c xs :=
  h.kept (row := none) ⟨hb.os, hb.tape, hb.output, hb.size, fun k hk _ => hb.block k (by omega)⟩ (by cases (Value.slice A xs.length c).ownBlock <;> simp)
theorem Own.alloc (h : Own w base A c xs) (o : Obj) : Own (w.alloc o) base A c xs := ⟨h.1.alloc o, h.2⟩
theorem Own.drew (h : Own w base A c xs) : Own w.drew base A c xs := h
theorem Own.drewN (h : Own w base A c xs) (k : Nat) : Own (w.drewN k) base A c xs := h
theorem Own.mono {b' : Nat} (h : Own w base A c xs) (hb : b' ≤ base) : Own w b' A c xs := by
  refine ⟨⟨h.1.1, ?_⟩, h.2⟩
  rcases h.1.2 with h2 | ⟨g, cap, cur, hv, hg, r⟩
  · exact .inl h2
  · exact .inr ⟨g, cap, cur, hv, by omega, r⟩
theorem Own.setCell (h : Own w base A c xs) {p : Addr} (hp : ∀ q, A = some q → q.block ≠ p.block) (u : Value) : Own (w.setCell p u) base A c xs := by
  refine ⟨⟨h.1.1, ?_⟩, h.2⟩
  rcases h.1.2 with h2 | ⟨g, cap, cur, hv, hg, hh, r⟩
  · exact .inl h2
  · refine .inr ⟨g, cap, cur, hv, hg, ?_, r⟩
    rw [Below.heap_setCell _ _ _ _ (by injection hv with e1; exact hp _ e1)]
    exact hh
theorem Own.setBelow (h : Own w base A c xs) {p : Addr} (hp : p.block < base) (u : Value) : Own (w.setCell p u) base A c xs :=
  ⟨ownsRow_setCell_below h.1 hp u, h.2⟩
theorem Own.set2 (h : Own w base A c xs) {g : Nat} {t : TypeId} {x y : Value} (hb : Blk w g t #[x, y]) (ht : 22 ≠ t) (u v : Value) : Own ((w.setCell ⟨g, 0, none⟩ u).setCell ⟨g, 1, none⟩ v) base A c xs := by
  have hne : ∀ q, A = some q → q.block ≠ g := fun q hq e => by
    subst hq
    exact own_blk_ne h.1 hb ht (by simp [Value.ownBlock, e])
  exact (h.setCell hne u).setCell hne v
theorem Own.ge (h : Own w base A c xs) : ∀ q, A = some q → base ≤ q.block ∧ q.block < w.heap.size := by
  intro q hq
  subst hq
  exact h.1.lt q.block rfl

theorem Nums.keep (h : Nums w A xs) (hs : w.heap.size ≤ w'.heap.size) (hk : ∀ p : Addr, p.block < w.heap.size → w'.cell? p = w.cell? p) : Nums w' A xs :=
  ⟨h.1, fun h0 => by
    obtain ⟨b, o, rfl, hb, hc⟩ := h.2 h0
    exact ⟨b, o, rfl, by omega, fun k hk' => (hk _ hb).trans (hc k hk')⟩⟩
theorem Nums.alloc (h : Nums w A xs) (o : Obj) : Nums (w.alloc o) A xs := h.keep (by simp) fun p hp => World.cell?_alloc_lt w o p hp
theorem Nums.drew (h : Nums w A xs) : Nums w.drew A xs := h
theorem Nums.drewN (h : Nums w A xs) (k : Nat) : Nums (w.drewN k) A xs := h
theorem Nums.below {B : Nat} (h : Nums w A xs) (hb : Below B w w') (hB : w.heap.size ≤ B) : Nums w' A xs := h.keep hb.size fun _ hp => hb.cell (by omega)
/-- A store into a block that the slice does not lie in. -/
theorem Nums.setCell (h : Nums w A xs) {p : Addr} (hp : ∀ q, A = some q → q.block ≠ p.block) (u : Value) : Nums (w.setCell p u) A xs :=
  ⟨h.1, fun h0 => by
    obtain ⟨b, o, rfl, hb, hc⟩ := h.2 h0
    refine ⟨b, o, rfl, by simpa [World.setCell] using hb, fun k hk' => ?_⟩
    rw [World.cell?_setCell_other _ _ _ _ (fun e => hp _ rfl (by rw [e]))]
    exact hc k hk'⟩
end

theorem bcell {W w1 : World} (hb : Below W.heap.size W w1) : (∀ b o, b < W.heap.size → w1.cell? ⟨b, o, none⟩ = W.cell? ⟨b, o, none⟩) ∧ (∀ b o, b < W.heap.size → w1.frozen? ⟨b, o, none⟩ = W.frozen? ⟨b, o, none⟩) :=
  ⟨fun b o h => hb.cell (p := ⟨b, o, none⟩) h, fun b o h => hb.frozen (p := ⟨b, o, none⟩) h⟩

/-- A block of two cells (a struct of two fields): what the walk reads of it. -/
theorem Blk.two {w : World} {g : Nat} {t : TypeId} {u v : Value} (h : Blk w g t #[u, v]) :
    w.cell? ⟨g, 0, none⟩ = some u ∧ w.cell? ⟨g, 1, none⟩ = some v ∧ w.frozen? ⟨g, 0, none⟩ = false ∧ w.frozen? ⟨g, 1, none⟩ = false :=
  ⟨h.cell 0, h.cell 1, h.frozen 0, h.frozen 1⟩
theorem Blk.first (w : World) (t : TypeId) (cs : Array Value) (o : Obj) : Blk ((w.alloc (.cells cs t)).alloc o) w.heap.size t cs := (Blk.new w t cs).alloc o

theorem Blk.new1 (w : World) (o : Obj) (t : TypeId) (cs : Array Value) : Blk ((w.alloc o).alloc (.cells cs t)) (w.heap.size + 1) t cs := by
  have h := Blk.new (w.alloc o) t cs
  rwa [World.size_alloc] at h
theorem Blk.newAt {w : World} {g : Nat} {t : TypeId} {cs : Array Value} (h : g = w.heap.size) : Blk (w.alloc (.cells cs t)) g t cs := by subst h; exact Blk.new w t cs
theorem Blk.set2 {w : World} {g : Nat} {t : TypeId} {x y : Value} (h : Blk w g t #[x, y]) (u v : Value) : Blk ((w.setCell ⟨g, 0, none⟩ u).setCell ⟨g, 1, none⟩ v) g t #[u, v] := (h.set_ 0 u).set_ 1 v

/-! ### copy into a new row -/
theorem copy_nums {w : World} (g n dCap c : Nat) (A : Option Addr) (xs : List Nat) (hrow : Row w g n []) (hx : Nums w A xs) :
    ∃ w', (Builtin.copy_ #[39, 39] 3 #[.slice (some ⟨g, 0, none⟩) n dCap, .slice A xs.length c]).run Tryz.prog w = .ok (goInt (xs.take n).length) w' ∧
      Row w' g n (xs.take n) ∧ w.grownBy w' (some g) ∧ w'.heap.size = w.heap.size := by
  have hsz : (Tryz.prog.info? 22).map (·.size) = some 1 := by kernel_rfl
  by_cases h0 : (xs.take n).length = 0
  · have hrun := run_copy_none (P := Tryz.prog) w 39 39 3 22 (some ⟨g, 0, none⟩) A n dCap xs.length c Tryz.underlying39 hsz (by rw [List.length_take] at h0; rw [Nat.min_comm] at h0; exact h0)
    have hk : xs.take n = [] := List.eq_nil_of_length_eq_zero h0
    exact ⟨w, by rw [hrun, h0]; rfl, by rw [hk]; exact hrow, World.grownBy.refl w _, rfl⟩
  · have hl : (xs.take n).length = min n xs.length := List.length_take
    obtain ⟨b, off, rfl, hb, hc⟩ := hx.2 (by omega)
    obtain ⟨cur, hg, hsz2, hcur⟩ := hrow.1
    have hrun := run_copy_row (P := Tryz.prog) w 39 39 3 22 g 0 n dCap ⟨b, off, none⟩ xs.length c cur _ ((xs.take n).map fun x : Nat => Value.int .u64 (x : Int)) Tryz.underlying39 hsz hg
      (by rw [List.length_map, hl, Nat.min_comm]) (fun j v hj => ?_) (by rw [List.length_map, hl, hsz2]; omega) (fun v hv => ?_)
    · refine ⟨_, hrun.trans (by rw [List.length_map]), ⟨⟨_, setRow_heap w g _ _ _ _ hg, ?_, fun i hi => ?_⟩, by rw [hl]; omega⟩, ⟨rfl, rfl, rfl, by simp [World.setRow], fun k hk hne => setRow_other w g k _ (fun e => hne (by rw [e]))⟩, by simp [World.setRow]⟩
      · simp [hsz2]; omega
      · simp only [List.take_zero, List.nil_append, Nat.zero_add, List.getElem?_toArray]
        by_cases hik : i < (xs.take n).length
        · rw [List.getElem?_append_left (by simpa using hik), List.getElem?_map, List.getElem?_eq_getElem hik]
          unfold rowOf nth
          rw [List.getD, List.getElem?_eq_getElem hik]; rfl
        · rw [List.getElem?_append_right (by simpa using hik), List.getElem?_drop]
          rw [List.length_map]
          have e2 : (xs.take n).length + (i - (xs.take n).length) = i := by omega
          rw [e2, Array.getElem?_toList, hcur i hi]
          unfold rowOf
          rw [nth_nil, nth_past _ _ (by omega)]
    · rw [List.getElem?_map, List.getElem?_take] at hj
      split at hj
      · by_cases hjx : j < xs.length
        · rw [List.getElem?_eq_getElem hjx] at hj
          simp only [Option.map_some, Option.some.injEq] at hj
          rw [← hj]
          have h2 := hc j hjx
          rw [show (⟨b, off, none⟩ : Addr).add j = ⟨b, off + j, none⟩ from by unfold Addr.add; split <;> simp_all, h2]
          simp [nth, hjx]
        · rw [List.getElem?_eq_none (by omega)] at hj; simp at hj
      · simp at hj
    · rw [List.mem_map] at hv
      obtain ⟨x, _, rfl⟩ := hv
      rfl

/-! ### append of new words to a slice of the call's own -/
theorem infoParts64 : ∃ i, Tryz.prog.info? 22 = some i ∧ i.zero = some (.int .u64 0) ∧ i.size = 1 ∧ i.bytes = 8 := by
  obtain ⟨i, hi, h⟩ := Option.map_eq_some_iff.1 (show (Tryz.prog.info? 22).map (fun i => (i.zero, i.size, i.bytes)) = some (some (.int .u64 0), 1, 8) from by kernel_rfl)
  simp only [Prod.mk.injEq] at h
  exact ⟨i, hi, h.1, h.2.1, h.2.2⟩
theorem Own.of_owns {w : World} {base n : Nat} {v : Value} {xs : List Nat} (h : w.ownsRow base 22 1 v n (xs.map fun x : Nat => Value.int .u64 (x : Int))) (h64 : ∀ x ∈ xs, x < 18446744073709551616) :
    ∃ A c, v = .slice A xs.length c ∧ Own w base A c xs := by
  have hn : xs.length = n := by simpa using h.1
  subst hn
  rcases h.2 with ⟨rfl, hz⟩ | ⟨g, cap, cur, rfl, r⟩
  · exact ⟨none, 0, by rw [hz], by rw [List.eq_nil_of_length_eq_zero hz]; exact Own.nil _ _⟩
  · exact ⟨some ⟨g, 0, none⟩, cap, rfl, h, h64⟩
theorem wpList_app {w : World} {ops : Array Oper} {rest : List Oper} {o : Oper} {a : Act} {Q : Exit → Act → World → Prop} (hgd : o.guard = none) (s x : Operand)
    (ho : o.op = .call { callee := .builtin .append, args := #[s, x], argTypes := #[39, 39] }) (base : Nat) (A : Option Addr) (c : Nat) (xs : List Nat) (hs : a.eval s = .slice A xs.length c)
    (hown : Own w base A c xs) (ys : List Nat) (ad : Addr) (m cc : Nat) (hx : a.eval x = .slice (some ad) m cc) (hm : ys.length = m)
    (hnews : ∀ j u, (ys.map fun x : Nat => Value.int .u64 (x : Int))[j]? = some u → w.cell? (ad.add j) = some u) (h64 : ∀ x ∈ ys, x < 18446744073709551616) (hl : xs.length + ys.length ≤ 17592186044416) (hbase : base ≤ w.heap.size)
    (h : ∀ A' c' w', Own w' base A' c' (xs ++ ys) → w.grownBy w' (Value.slice A xs.length c).ownBlock → wpList Tryz.prog ops Q rest (a.put o.dst (.slice A' (xs ++ ys).length c')) w') : wpList Tryz.prog ops Q (o :: rest) a w := by
  obtain ⟨i, hi, hz, hsz, hby⟩ := infoParts64
  subst hm
  refine wpList_append_own w hgd s x _ ho base 22 i _ 1 8 Tryz.underlying39 hi hz hsz hby rfl (by decide) _ _ _ hs hown.1 ad ys.length cc (ys.map fun x : Nat => Value.int .u64 (x : Int)) hx (by simp) hnews
    (fun u hu => by rw [List.mem_map] at hu; obtain ⟨y, _, rfl⟩ := hu; rfl) (by unfold maxLen; omega) (by omega) hbase ?_
  intro v' w' hown' hg' _
  rw [← List.map_append] at hown'
  obtain ⟨A', c', hv, ho'⟩ := Own.of_owns hown' (fun y hy => by
    rcases List.mem_append.1 hy with h1 | h1
    · exact hown.2 y h1
    · exact h64 y h1)
  rw [hv]
  exact h A' c' w' ho' hg'
theorem Below.own {w0 w w' : World} {base : Nat} {A : Option Addr} {c : Nat} {xs : List Nat} (hb : Below base w0 w) (hown : Own w base A c xs) (hbase : base ≤ w.heap.size) (hg : w.grownBy w' (Value.slice A xs.length c).ownBlock) : Below base w0 w' :=
  hb.grown hg hbase (fun k hk => by
    match A, hown, hk with
    | some q, hown, hk =>
      have h1 := hown.ge q rfl
      simp only [Value.ownBlock, Option.some.injEq] at hk
      omega
    | none, _, hk => simp [Value.ownBlock] at hk)
/-- The first k words of a slice of one's own. -/
theorem Own.cut {w : World} {base : Nat} {A : Option Addr} {c : Nat} {xs : List Nat} (h : Own w base A c xs) (hc : xs ≠ []) {k : Nat} (hk : k ≤ xs.length) : Own w base A c (xs.take k) := by
  refine ⟨⟨by simp, ?_⟩, fun x hx => h.2 x (List.mem_of_mem_take hx)⟩
  rcases h.1.2 with ⟨_, h0⟩ | ⟨g, cap, cur, hv, hg, hh, hle, hcap, hsz, hcur⟩
  · exact absurd (List.eq_nil_of_length_eq_zero h0) hc
  · injection hv with hA hn hcc
    subst hA; subst hcc
    have hkl : (xs.take k).length = k := by rw [List.length_take]; omega
    refine .inr ⟨g, c, cur, rfl, hg, hh, by omega, hcap, hsz, ?_⟩
    rw [hkl, List.map_take, ← hcur, List.take_take, Nat.mul_one, Nat.mul_one, Nat.min_eq_left hk]

/-! ### whole numbers -/
def B18 : Nat := 1000000000000000000
theorem B18_two : 2 ≤ B18 := by unfold B18; omega
theorem B18_eq : B18 = 1000000000000000000 := rfl
/-- The limbs of a number. -/
@[irreducible] def limbs (i : Int) : List Nat := digs B18 i.natAbs
theorem limbs_eq (i : Int) : limbs i = digs B18 i.natAbs := by unfold limbs; rfl
theorem small64 {xs : List Nat} (h : small B18 xs) : ∀ x ∈ xs, x < 18446744073709551616 := fun x hx => by have := h x hx; unfold B18 at this; omega
theorem limbs_small (i : Int) : small B18 (limbs i) := by rw [limbs_eq]; exact small_digs B18_two _
/-- A size with a sign. -/
def sgn (neg : Bool) (n : Nat) : Int := if neg then -(n : Int) else n
theorem sgn_natAbs (neg : Bool) (n : Nat) : (sgn neg n).natAbs = n := by unfold sgn; cases neg <;> simp
theorem sgn_neg (neg : Bool) (n : Nat) : decide (sgn neg n < 0) = (neg && decide (n ≠ 0)) := by
  cases neg
  · simp [sgn]
  · simp only [sgn, if_true, Bool.true_and]; by_cases h : n = 0 <;> simp [h]; omega

/-- What a call that answers the number i leaves. -/
def RetBig (W : World) (i : Int) (e : Ending) (w' : World) : Prop :=
  ∃ A c, e = .returned (.agg #[.bool (decide (i < 0)), .slice A (limbs i).length c]) ∧ Own w' W.heap.size A c (limbs i) ∧ Below W.heap.size W w'
/-- .. with an error's number behind it. -/
def RetBigErr (W : World) (i : Int) (f : Int) (e : Ending) (w' : World) : Prop :=
  ∃ A c, e = .returned (.tuple #[.agg #[.bool (decide (i < 0)), .slice A (limbs i).length c], .int .i64 f]) ∧ Own w' W.heap.size A c (limbs i) ∧ Below W.heap.size W w'

/-- What a call that answers a row of its own leaves: so many digits to the base, which say v. -/
def RetRow (W : World) (b len v : Nat) (e : Ending) (w' : World) : Prop :=
  ∃ g zs, e = .returned (.slice (some ⟨g, 0, none⟩) zs.length zs.length) ∧ Row w' g len zs ∧ zs.length = len ∧ small b zs ∧ val b zs = v ∧ W.heap.size ≤ g ∧ Below W.heap.size W w'
theorem Row.nums {w' : World} {g len : Nat} {zs : List Nat} (h : Row w' g len zs) (hz : zs.length = len) (h64 : ∀ x ∈ zs, x < 18446744073709551616) : Nums w' (some ⟨g, 0, none⟩) zs :=
  ⟨nth_bound h64, fun _ => ⟨g, 0, rfl, h.lt, fun k hk => by rw [Nat.zero_add]; exact h.cell (by omega)⟩⟩

theorem limbs_zero : limbs 0 = [] := by rw [limbs_eq]; rfl
theorem retBig_zero {W w' : World} (hb : Below W.heap.size W w') : RetBig W 0 (.returned (.agg #[.bool false, .slice none 0 0])) w' :=
  ⟨none, 0, by rw [limbs_zero]; rfl, by rw [limbs_zero]; exact Own.nil _ _, hb⟩
theorem fin_big {W w4 : World} {i f : Int} {A4 : Option Addr} {c4 base g0 : Nat} (hown : Own w4 base A4 c4 (limbs i)) (L : Below W.heap.size W w4) (hg : W.heap.size ≤ g0) (hgb : g0 < base) (u v : Value) :
    RetBigErr W i f (.returned (.tuple #[.agg #[.bool (decide (i < 0)), .slice A4 (limbs i).length c4], .int .i64 f])) ((w4.setCell ⟨g0, 0, none⟩ u).setCell ⟨g0, 1, none⟩ v) :=
  ⟨A4, c4, rfl, ((hown.setBelow hgb _).setBelow hgb _).mono (by omega), (L.setCell hg _).setCell hg _⟩
theorem fin_zero {W w4 : World} {f : Int} {g0 : Nat} (L : Below W.heap.size W w4) (hg : W.heap.size ≤ g0) (u v : Value) :
    RetBigErr W 0 f (.returned (.tuple #[.agg #[.bool false, .slice none 0 0], .int .i64 f])) ((w4.setCell ⟨g0, 0, none⟩ u).setCell ⟨g0, 1, none⟩ v) :=
  ⟨none, 0, by rw [limbs_zero]; rfl, by rw [limbs_zero]; exact Own.nil _ _, (L.setCell hg _).setCell hg _⟩
theorem info64 : (Tryz.prog.info? 22).map (fun i => (i.zero, i.size, i.bytes)) = some (some (.int .u64 0), 1, 8) := by kernel_rfl
theorem make64 (n : Nat) (h : n ≤ 35184372088832) : ∀ w : World, (Instr.makeSlice 39 (.int .i64 (n : Int)) (.int .i64 (n : Int))).run Tryz.prog w = .ok (.slice (some ⟨w.heap.size, 0, none⟩) n n) (w.alloc (.cells (madeCells #[.int .u64 0] n) 22)) :=
  fun w => run_make_row' _ _ _ 8 Tryz.underlying39 info64 rfl _ _ n (by omega) (by omega) w
end Go.Proofs.YtljndllhmdpjlaaGreatDoor

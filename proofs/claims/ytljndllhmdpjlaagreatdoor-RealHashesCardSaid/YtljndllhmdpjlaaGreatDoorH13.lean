/- Words for numbers in memory: limbs and digits that a call makes; what a call that answers a number leaves. The walk of whole.Good. The walk of whole.form. The walks of whole.fits, Of. The walk of whole.size. What numbers in form are; the walks of whole.Sign, Neg, Cmp. Words for rows of bytes (printed by gen_bytes.py from the words for rows of uint64). Plain mathematics: the digit at a place; a row of so many digits; limbs against digits. No condition. How many limbs and digits a number in form has. No condition. Numbers in limbs that are in form, by the whole number that they are. The walk of the reference's cut: digits without noughts ahead. What a reference function that answers a number leaves; the walk of the reference's Int. The walk of the reference's Of: limbs to digits. The walk of the reference's Good. -/
import Derived.Test.YtljndllhmdpjlaaGreatDoorH12
import Derived.Test.YtljndllhmdpjlaaGreatDoorRows
import Derived.WalkSpells
import Derived.WalkLawsBesides
import Derived.BigQuiet
import Derived.Deep.QuietTactic
import Derived.Deep.RegionHeld3
import Derived.Deep.DeepCutAuto
import Derived.Lib.Hide
import Derived.Laws.CopyOwn
namespace Go.Proofs.YtljndllhmdpjlaaGreatDoor
open Go.RowKit

/-- The length of a slice in a slot: for a loop's measure. -/
def lenOf : Value → Nat | .slice _ n _ => n | _ => 0
theorem ret_bool {a b : Bool} (h : a = b) : Ending.returned (.bool a) = .returned (.bool b) := by rw [h]
theorem ret_int' {a b : Int} (h : a = b) : Ending.returned (.int .i64 a) = .returned (.int .i64 b) := by rw [h]

theorem nth_lt {b : Nat} (hb : 0 < b) {xs : List Nat} (h : small b xs) (k : Nat) : nth xs k < b := by
  unfold nth; have := small_getD hb h k; omega
theorem nth_past (xs : List Nat) (k : Nat) (h : xs.length ≤ k) : nth xs k = 0 := by
  unfold nth; rw [getD_past xs k h]; rfl
theorem nth_toNat (xs : List Nat) (k : Nat) : (nth xs k).toNat = xs.getD k 0 := by unfold nth; omega
theorem nth_snoc (ys : List Nat) (v : Nat) (j : Nat) : nth (ys ++ [v]) j = if j = ys.length then (v : Int) else nth ys j := by
  unfold nth
  by_cases h : j = ys.length
  · subst h; simp
  · rw [if_neg h]
    by_cases h1 : j < ys.length
    · simp [List.getElem?_append_left h1]
    · simp [List.getElem?_append_right (show ys.length ≤ j by omega), List.getElem?_eq_none (show ys.length ≤ j by omega)]
      rw [List.getElem?_eq_none]; rfl; simp; omega
theorem nth_set (ys : List Nat) (i v : Nat) (h : i < ys.length) (j : Nat) : nth (ys.set i v) j = if j = i then (v : Int) else nth ys j := by
  unfold nth
  by_cases hj : j = i
  · subst hj; simp [h]
  · rw [if_neg hj]; simp [show ¬ i = j from fun e => hj e.symm]
theorem nth_take (ys : List Nat) (k j : Nat) (h : j < k) : nth (ys.take k) j = nth ys j := by
  unfold nth; simp [h]
theorem nth_replicate (n j : Nat) : nth (List.replicate n 0) j = 0 := by
  unfold nth; by_cases h : j < n <;> simp [h]
theorem nth_nil (j : Nat) : nth [] j = 0 := by unfold nth; simp

/-- The cells of a row of uint64. -/
def rowOf (ys : List Nat) (j : Nat) : Value := .int .u64 (nth ys j)
/-- Block g is a row of n uint64, of which the first ones are ys, the others noughts. -/
def Row (w : World) (g n : Nat) (ys : List Nat) : Prop := w.rowIs g 22 n (rowOf ys) ∧ ys.length ≤ n

section
variable {w w' : World} {g n : Nat} {ys : List Nat}
theorem Row.cell (h : Row w g n ys) {j : Nat} (hj : j < n) : w.cell? ⟨g, j, none⟩ = some (.int .u64 (nth ys j)) := h.1.cell hj
theorem Row.frozen (h : Row w g n ys) (j : Nat) : w.frozen? ⟨g, j, none⟩ = false := h.1.frozen j
theorem Row.lt (h : Row w g n ys) : g < w.heap.size := h.1.lt
theorem Row.made (w : World) (n : Nat) : Row (w.alloc (.cells (madeCells #[.int .u64 0] n) 22)) w.heap.size n [] :=
  ⟨(World.rowIs_made w _ n _).congr fun i _ => by unfold rowOf; rw [nth_nil], Nat.zero_le _⟩
theorem Row.snoc (h : Row w g n ys) (v : Nat) (hn : ys.length < n) : Row (w.setCell ⟨g, ys.length, none⟩ (.int .u64 (v : Int))) g n (ys ++ [v]) :=
  ⟨(h.1.set ys.length _).congr fun i _ => by unfold rowOf; rw [nth_snoc]; split <;> rfl, by simp; omega⟩
theorem Row.snocInt (h : Row w g n ys) (v : Int) (h0 : 0 ≤ v) {k : Nat} (hk : ys.length = k) (hn : k < n) : Row (w.setCell ⟨g, k, none⟩ (.int .u64 v)) g n (ys ++ [v.toNat]) := by
  subst hk
  have e : v = ((v.toNat : Nat) : Int) := by omega
  have h1 := h.snoc v.toNat hn
  rw [← e] at h1
  exact h1
theorem Row.set (h : Row w g n ys) (i v : Nat) (hi : i < ys.length) : Row (w.setCell ⟨g, i, none⟩ (.int .u64 (v : Int))) g n (ys.set i v) :=
  ⟨(h.1.set i _).congr fun j _ => by unfold rowOf; rw [nth_set _ _ _ hi]; split <;> rfl, by simpa using h.2⟩
theorem Row.setInt (h : Row w g n ys) (v : Int) (h0 : 0 ≤ v) {i : Nat} (hi : i < ys.length) : Row (w.setCell ⟨g, i, none⟩ (.int .u64 v)) g n (ys.set i v.toNat) := by
  have e : v = ((v.toNat : Nat) : Int) := by omega
  have h1 := h.set i v.toNat hi
  rw [← e] at h1
  exact h1
theorem Row.of_block (h : Row w g n ys) (e : w'.heap[g]? = w.heap[g]?) : Row w' g n ys := ⟨h.1.of_block e, h.2⟩
theorem Row.alloc (h : Row w g n ys) (o : Obj) : Row (w.alloc o) g n ys := ⟨h.1.alloc o, h.2⟩
theorem Row.drew (h : Row w g n ys) : Row w.drew g n ys := h
theorem Row.drewN (h : Row w g n ys) (k : Nat) : Row (w.drewN k) g n ys := h
theorem Row.setOther (h : Row w g n ys) {a : Addr} (ha : g ≠ a.block) (v : Value) : Row (w.setCell a v) g n ys := ⟨h.1.setOther ha v, h.2⟩
theorem Row.below {B : Nat} (h : Row w g n ys) (hb : Below B w w') (hg : g < B) : Row w' g n ys := h.of_block (hb.block g hg)
/-- A row that is filled is one with no noughts told apart. -/
theorem Row.fill (h : Row w g n ys) : Row w g n (ys ++ List.replicate (n - ys.length) 0) := by
  refine ⟨h.1.congr fun i hi => ?_, by have := h.2; simp; omega⟩
  unfold rowOf nth
  by_cases h1 : i < ys.length
  · simp [List.getElem?_append_left h1]
  · simp [List.getElem?_append_right (show ys.length ≤ i by omega), List.getElem?_eq_none (show ys.length ≤ i by omega), List.getElem?_replicate]
    split <;> rfl
end

/-- A slice that a call made, which reads as xs: it begins at the head of a row of its own from block number base on. -/
def Own (w : World) (base : Nat) (A : Option Addr) (c : Nat) (xs : List Nat) : Prop :=
  w.ownsRow base 22 1 (.slice A xs.length c) xs.length (xs.map fun x : Nat => Value.int .u64 (x : Int)) ∧ ∀ x ∈ xs, x < 18446744073709551616

section
variable {w w' : World} {base : Nat} {A : Option Addr} {c : Nat} {xs : List Nat}
theorem nth_bound (h : ∀ x ∈ xs, x < 18446744073709551616) (k : Nat) : nth xs k < 18446744073709551616 := by
  unfold nth
  by_cases hk : k < xs.length
  · have := h _ (List.getElem_mem hk); simp only [List.getD, List.getElem?_eq_getElem hk, Option.getD_some]; omega
  · rw [getD_past xs k (by omega)]; simp
theorem Own.nums (h : Own w base A c xs) : Nums w A xs := by
  refine ⟨nth_bound h.2, fun h0 => ?_⟩
  rcases h.1.2 with ⟨_, hn⟩ | ⟨g, cap, cur, hv, hg, hh, hnc, _, hsz, hcur⟩
  · omega
  · injection hv with hA _ hc
    subst hA
    refine ⟨g, 0, rfl, (Array.getElem?_eq_some_iff.1 hh).1, fun k hk => ?_⟩
    rw [Nat.zero_add, cell_of_row w g k cur _ (0, 0) hh]
    have e : cur[k]? = cur.toList[k]? := by simp
    have e2 : cur.toList[k]? = (cur.toList.take (xs.length * 1))[k]? := by rw [List.getElem?_take, if_pos (by omega)]
    rw [e, e2, hcur]
    simp [nth, hk]
theorem Own.nil (w : World) (base : Nat) : Own w base none 0 [] := ⟨World.ownsRow_nil _ _ _ _, fun _ h => by cases h⟩
theorem Own.of_row {g n : Nat} {ys : List Nat} (h : Row w g n ys) (hb : base ≤ g) (hc : n ≤ maxLen) (hx : xs.length ≤ n) (he : ∀ j, j < xs.length → nth ys j = nth xs j) (h64 : ∀ x ∈ xs, x < 18446744073709551616) : Own w base (some ⟨g, 0, none⟩) n xs := by
  obtain ⟨⟨cur, hh, hsz, hcell⟩, hle⟩ := h
  refine ⟨⟨by simp, .inr ⟨g, n, cur, rfl, hb, hh, hx, hc, by omega, ?_⟩⟩, h64⟩
  apply List.ext_getElem?
  intro j
  rw [List.getElem?_take]
  by_cases hj : j < xs.length
  · rw [if_pos (by omega)]
    have h1 := hcell j (by omega)
    rw [Array.getElem?_toList, h1]
    unfold rowOf
    rw [he j hj]
    simp [nth, hj]
  · rw [if_neg (by omega), List.getElem?_eq_none (by simpa using Nat.le_of_not_lt hj)]
theorem Own.kept {row : Option Nat} (h : Own w base A c xs) (hg : w.grownBy w' row) (hne : (Value.slice A xs.length c).ownBlock = none ∨ (Value.slice A xs.length c).ownBlock ≠ row) : Own w' base A c xs := ⟨h.1.kept hg hne, h.2⟩
theorem Own.below {B : Nat} (h : Own w base A c xs) (hb : Below B w w') (hB : w.heap.size ≤ B) : Own w' base A c xs :=
  h.kept (row := none) ⟨hb.os, hb.tape, hb.output, hb.size, fun k hk _ => hb.block k (by omega)⟩ (by cases (Value.slice A xs.length c).ownBlock <;> simp)
theorem Own.alloc (h : Own w base A c xs) (o : Obj) : Own (w.alloc o) base A c xs := ⟨h.1.alloc o, h.2⟩
theorem Own.drew (h : Own w base A c xs) : Own w.drew base A c xs := h
theorem Own.drewN (h : Own w base A c xs) (k : Nat) : Own (w.drewN k) base A c xs := h
theorem Own.mono {b' : Nat} (h : Own w base A c xs) (hb : b' ≤ base) : Own w b' A c xs := by
  refine ⟨⟨h.1.1, ?_⟩, h.2⟩
  rcases h.1.2 with h2 | ⟨g, cap, cur, hv, hg, r⟩
  · exact .inl h2
  · exact .inr ⟨g, cap, cur, hv, by omega, r⟩
theorem Own.setCell (h : Own w base A c xs) {p : Addr} (hp : ∀ q, A = some q → q.block ≠ p.block) (u : Value) : Own (w.setCell p u) base A c xs := by
  refine ⟨⟨h.1.1, ?_⟩, h.2⟩
  rcases h.1.2 with h2 | ⟨g, cap, cur, hv, hg, hh, r⟩
  · exact .inl h2
  · refine .inr ⟨g, cap, cur, hv, hg, ?_, r⟩
    rw [Below.heap_setCell _ _ _ _ (by injection hv with e1; exact hp _ e1)]
    exact hh
theorem Own.setBelow (h : Own w base A c xs) {p : Addr} (hp : p.block < base) (u : Value) : Own (w.setCell p u) base A c xs :=
  ⟨ownsRow_setCell_below h.1 hp u, h.2⟩
theorem Own.set2 (h : Own w base A c xs) {g : Nat} {t : TypeId} {x y : Value} (hb : Blk w g t #[x, y]) (ht : 22 ≠ t) (u v : Value) : Own ((w.setCell ⟨g, 0, none⟩ u).setCell ⟨g, 1, none⟩ v) base A c xs := by
  have hne : ∀ q, A = some q → q.block ≠ g := fun q hq e => by
    subst hq
    exact own_blk_ne h.1 hb ht (by simp [Value.ownBlock, e])
  exact (h.setCell hne u).setCell hne v
theorem Own.ge (h : Own w base A c xs) : ∀ q, A = some q → base ≤ q.block ∧ q.block < w.heap.size := by
  intro q hq
  subst hq
  exact h.1.lt q.block rfl

theorem Nums.keep (h : Nums w A xs) (hs : w.heap.size ≤ w'.heap.size) (hk : ∀ p : Addr, p.block < w.heap.size → w'.cell? p = w.cell? p) : Nums w' A xs :=
  ⟨h.1, fun h0 => by
    obtain ⟨b, o, rfl, hb, hc⟩ := h.2 h0
    exact ⟨b, o, rfl, by omega, fun k hk' => (hk _ hb).trans (hc k hk')⟩⟩
theorem Nums.alloc (h : Nums w A xs) (o : Obj) : Nums (w.alloc o) A xs := h.keep (by simp) fun p hp => World.cell?_alloc_lt w o p hp
theorem Nums.drew (h : Nums w A xs) : Nums w.drew A xs := h
theorem Nums.drewN (h : Nums w A xs) (k : Nat) : Nums (w.drewN k) A xs := h
theorem Nums.below {B : Nat} (h : Nums w A xs) (hb : Below B w w') (hB : w.heap.size ≤ B) : Nums w' A xs := h.keep hb.size fun _ hp => hb.cell (by omega)
/-- A store into a block that the slice does not lie in. -/
theorem Nums.setCell (h : Nums w A xs) {p : Addr} (hp : ∀ q, A = some q → q.block ≠ p.block) (u : Value) : Nums (w.setCell p u) A xs :=
  ⟨h.1, fun h0 => by
    obtain ⟨b, o, rfl, hb, hc⟩ := h.2 h0
    refine ⟨b, o, rfl, by simpa [World.setCell] using hb, fun k hk' => ?_⟩
    rw [World.cell?_setCell_other _ _ _ _ (fun e => hp _ rfl (by rw [e]))]
    exact hc k hk'⟩
end

theorem bcell {W w1 : World} (hb : Below W.heap.size W w1) : (∀ b o, b < W.heap.size → w1.cell? ⟨b, o, none⟩ = W.cell? ⟨b, o, none⟩) ∧ (∀ b o, b < W.heap.size → w1.frozen? ⟨b, o, none⟩ = W.frozen? ⟨b, o, none⟩) :=
  ⟨fun b o h => hb.cell (p := ⟨b, o, none⟩) h, fun b o h => hb.frozen (p := ⟨b, o, none⟩) h⟩

/-- A block of two cells (a struct of two fields): what the walk reads of it. -/
theorem Blk.two {w : World} {g : Nat} {t : TypeId} {u v : Value} (h : Blk w g t #[u, v]) :
    w.cell? ⟨g, 0, none⟩ = some u ∧ w.cell? ⟨g, 1, none⟩ = some v ∧ w.frozen? ⟨g, 0, none⟩ = false ∧ w.frozen? ⟨g, 1, none⟩ = false :=
  ⟨h.cell 0, h.cell 1, h.frozen 0, h.frozen 1⟩
theorem Blk.first (w : World) (t : TypeId) (cs : Array Value) (o : Obj) : Blk ((w.alloc (.cells cs t)).alloc o) w.heap.size t cs := (Blk.new w t cs).alloc o

theorem Blk.new1 (w : World) (o : Obj) (t : TypeId) (cs : Array Value) : Blk ((w.alloc o).alloc (.cells cs t)) (w.heap.size + 1) t cs := by
  have h := Blk.new (w.alloc o) t cs
  rwa [World.size_alloc] at h
theorem Blk.newAt {w : World} {g : Nat} {t : TypeId} {cs : Array Value} (h : g = w.heap.size) : Blk (w.alloc (.cells cs t)) g t cs := by subst h; exact Blk.new w t cs
theorem Blk.set2 {w : World} {g : Nat} {t : TypeId} {x y : Value} (h : Blk w g t #[x, y]) (u v : Value) : Blk ((w.setCell ⟨g, 0, none⟩ u).setCell ⟨g, 1, none⟩ v) g t #[u, v] := (h.set_ 0 u).set_ 1 v

/-! ### copy into a new row -/
theorem copy_nums {w : World} (g n dCap c : Nat) (A : Option Addr) (xs : List Nat) (hrow : Row w g n []) (hx : Nums w A xs) :
    ∃ w', (Builtin.copy_ #[39, 39] 3 #[.slice (some ⟨g, 0, none⟩) n dCap, .slice A xs.length c]).run Tryz.prog w = .ok (goInt (xs.take n).length) w' ∧
      Row w' g n (xs.take n) ∧ w.grownBy w' (some g) ∧ w'.heap.size = w.heap.size := by
  have hsz : (Tryz.prog.info? 22).map (·.size) = some 1 := by kernel_rfl
  by_cases h0 : (xs.take n).length = 0
  · have hrun := run_copy_none (P := Tryz.prog) w 39 39 3 22 (some ⟨g, 0, none⟩) A n dCap xs.length c Tryz.underlying39 hsz (by rw [List.length_take] at h0; rw [Nat.min_comm] at h0; exact h0)
    have hk : xs.take n = [] := List.eq_nil_of_length_eq_zero h0
    exact ⟨w, by rw [hrun, h0]; rfl, by rw [hk]; exact hrow, World.grownBy.refl w _, rfl⟩
  · have hl : (xs.take n).length = min n xs.length := List.length_take
    obtain ⟨b, off, rfl, hb, hc⟩ := hx.2 (by omega)
    obtain ⟨cur, hg, hsz2, hcur⟩ := hrow.1
    have hrun := run_copy_row (P := Tryz.prog) w 39 39 3 22 g 0 n dCap ⟨b, off, none⟩ xs.length c cur _ ((xs.take n).map fun x : Nat => Value.int .u64 (x : Int)) Tryz.underlying39 hsz hg
      (by rw [List.length_map, hl, Nat.min_comm]) (fun j v hj => ?_) (by rw [List.length_map, hl, hsz2]; omega) (fun v hv => ?_)
    · refine ⟨_, hrun.trans (by rw [List.length_map]), ⟨⟨_, setRow_heap w g _ _ _ _ hg, ?_, fun i hi => ?_⟩, by rw [hl]; omega⟩, ⟨rfl, rfl, rfl, by simp [World.setRow], fun k hk hne => setRow_other w g k _ (fun e => hne (by rw [e]))⟩, by simp [World.setRow]⟩
      · simp [hsz2]; omega
      · simp only [List.take_zero, List.nil_append, Nat.zero_add, List.getElem?_toArray]
        by_cases hik : i < (xs.take n).length
        · rw [List.getElem?_append_left (by simpa using hik), List.getElem?_map, List.getElem?_eq_getElem hik]
          unfold rowOf nth
          rw [List.getD, List.getElem?_eq_getElem hik]; rfl
        · rw [List.getElem?_append_right (by simpa using hik), List.getElem?_drop]
          rw [List.length_map]
          have e2 : (xs.take n).length + (i - (xs.take n).length) = i := by omega
          rw [e2, Array.getElem?_toList, hcur i hi]
          unfold rowOf
          rw [nth_nil, nth_past _ _ (by omega)]
    · rw [List.getElem?_map, List.getElem?_take] at hj
      split at hj
      · by_cases hjx : j < xs.length
        · rw [List.getElem?_eq_getElem hjx] at hj
          simp only [Option.map_some, Option.some.injEq] at hj
          rw [← hj]
          have h2 := hc j hjx
          rw [show (⟨b, off, none⟩ : Addr).add j = ⟨b, off + j, none⟩ from by unfold Addr.add; split <;> simp_all, h2]
          simp [nth, hjx]
        · rw [List.getElem?_eq_none (by omega)] at hj; simp at hj
      · simp at hj
    · rw [List.mem_map] at hv
      obtain ⟨x, _, rfl⟩ := hv
      rfl

/-! ### append of new words to a slice of the call's own -/
theorem infoParts64 : ∃ i, Tryz.prog.info? 22 = some i ∧ i.zero = some (.int .u64 0) ∧ i.size = 1 ∧ i.bytes = 8 := by
  obtain ⟨i, hi, h⟩ := Option.map_eq_some_iff.1 (show (Tryz.prog.info? 22).map (fun i => (i.zero, i.size, i.bytes)) = some (some (.int .u64 0), 1, 8) from by kernel_rfl)
  simp only [Prod.mk.injEq] at h
  exact ⟨i, hi, h.1, h.2.1, h.2.2⟩
theorem Own.of_owns {w : World} {base n : Nat} {v : Value} {xs : List Nat} (h : w.ownsRow base 22 1 v n (xs.map fun x : Nat => Value.int .u64 (x : Int))) (h64 : ∀ x ∈ xs, x < 18446744073709551616) :
    ∃ A c, v = .slice A xs.length c ∧ Own w base A c xs := by
  have hn : xs.length = n := by simpa using h.1
  subst hn
  rcases h.2 with ⟨rfl, hz⟩ | ⟨g, cap, cur, rfl, r⟩
  · exact ⟨none, 0, by rw [hz], by rw [List.eq_nil_of_length_eq_zero hz]; exact Own.nil _ _⟩
  · exact ⟨some ⟨g, 0, none⟩, cap, rfl, h, h64⟩
theorem wpList_app {w : World} {ops : Array Oper} {rest : List Oper} {o : Oper} {a : Act} {Q : Exit → Act → World → Prop} (hgd : o.guard = none) (s x : Operand)
    (ho : o.op = .call { callee := .builtin .append, args := #[s, x], argTypes := #[39, 39] }) (base : Nat) (A : Option Addr) (c : Nat) (xs : List Nat) (hs : a.eval s = .slice A xs.length c)
    (hown : Own w base A c xs) (ys : List Nat) (ad : Addr) (m cc : Nat) (hx : a.eval x = .slice (some ad) m cc) (hm : ys.length = m)
    (hnews : ∀ j u, (ys.map fun x : Nat => Value.int .u64 (x : Int))[j]? = some u → w.cell? (ad.add j) = some u) (h64 : ∀ x ∈ ys, x < 18446744073709551616) (hl : xs.length + ys.length ≤ 17592186044416) (hbase : base ≤ w.heap.size)
    (h : ∀ A' c' w', Own w' base A' c' (xs ++ ys) → w.grownBy w' (Value.slice A xs.length c).ownBlock → wpList Tryz.prog ops Q rest (a.put o.dst (.slice A' (xs ++ ys).length c')) w') : wpList Tryz.prog ops Q (o :: rest) a w := by
  obtain ⟨i, hi, hz, hsz, hby⟩ := infoParts64
  subst hm
  refine wpList_append_own w hgd s x _ ho base 22 i _ 1 8 Tryz.underlying39 hi hz hsz hby rfl (by decide) _ _ _ hs hown.1 ad ys.length cc (ys.map fun x : Nat => Value.int .u64 (x : Int)) hx (by simp) hnews
    (fun u hu => by rw [List.mem_map] at hu; obtain ⟨y, _, rfl⟩ := hu; rfl) (by unfold maxLen; omega) (by omega) hbase ?_
  intro v' w' hown' hg' _
  rw [← List.map_append] at hown'
  obtain ⟨A', c', hv, ho'⟩ := Own.of_owns hown' (fun y hy => by
    rcases List.mem_append.1 hy with h1 | h1
    · exact hown.2 y h1
    · exact h64 y h1)
  rw [hv]
  exact h A' c' w' ho' hg'
theorem Below.own {w0 w w' : World} {base : Nat} {A : Option Addr} {c : Nat} {xs : List Nat} (hb : Below base w0 w) (hown : Own w base A c xs) (hbase : base ≤ w.heap.size) (hg : w.grownBy w' (Value.slice A xs.length c).ownBlock) : Below base w0 w' :=
  hb.grown hg hbase (fun k hk => by
    match A, hown, hk with
    | some q, hown, hk =>
      have h1 := hown.ge q rfl
      simp only [Value.ownBlock, Option.some.injEq] at hk
      omega
    | none, _, hk => simp [Value.ownBlock] at hk)
/-- The first k words of a slice of one's own. -/
theorem Own.cut {w : World} {base : Nat} {A : Option Addr} {c : Nat} {xs : List Nat} (h : Own w base A c xs) (hc : xs ≠ []) {k : Nat} (hk : k ≤ xs.length) : Own w base A c (xs.take k) := by
  refine ⟨⟨by simp, ?_⟩, fun x hx => h.2 x (List.mem_of_mem_take hx)⟩
  rcases h.1.2 with ⟨_, h0⟩ | ⟨g, cap, cur, hv, hg, hh, hle, hcap, hsz, hcur⟩
  · exact absurd (List.eq_nil_of_length_eq_zero h0) hc
  · injection hv with hA hn hcc
    subst hA; subst hcc
    have hkl : (xs.take k).length = k := by rw [List.length_take]; omega
    refine .inr ⟨g, c, cur, rfl, hg, hh, by omega, hcap, hsz, ?_⟩
    rw [hkl, List.map_take, ← hcur, List.take_take, Nat.mul_one, Nat.mul_one, Nat.min_eq_left hk]

/-! ### whole numbers -/
def B18 : Nat := 1000000000000000000
theorem B18_two : 2 ≤ B18 := by unfold B18; omega
theorem B18_eq : B18 = 1000000000000000000 := rfl
/-- The limbs of a number. -/
@[irreducible] def limbs (i : Int) : List Nat := digs B18 i.natAbs
theorem limbs_eq (i : Int) : limbs i = digs B18 i.natAbs := by unfold limbs; rfl
theorem small64 {xs : List Nat} (h : small B18 xs) : ∀ x ∈ xs, x < 18446744073709551616 := fun x hx => by have := h x hx; unfold B18 at this; omega
theorem limbs_small (i : Int) : small B18 (limbs i) := by rw [limbs_eq]; exact small_digs B18_two _
/-- A size with a sign. -/
def sgn (neg : Bool) (n : Nat) : Int := if neg then -(n : Int) else n
theorem sgn_natAbs (neg : Bool) (n : Nat) : (sgn neg n).natAbs = n := by unfold sgn; cases neg <;> simp
theorem sgn_neg (neg : Bool) (n : Nat) : decide (sgn neg n < 0) = (neg && decide (n ≠ 0)) := by
  cases neg
  · simp [sgn]
  · simp only [sgn, if_true, Bool.true_and]; by_cases h : n = 0 <;> simp [h]; omega

/-- What a call that answers the number i leaves. -/
def RetBig (W : World) (i : Int) (e : Ending) (w' : World) : Prop :=
  ∃ A c, e = .returned (.agg #[.bool (decide (i < 0)), .slice A (limbs i).length c]) ∧ Own w' W.heap.size A c (limbs i) ∧ Below W.heap.size W w'
/-- .. with an error's number behind it. -/
def RetBigErr (W : World) (i : Int) (f : Int) (e : Ending) (w' : World) : Prop :=
  ∃ A c, e = .returned (.tuple #[.agg #[.bool (decide (i < 0)), .slice A (limbs i).length c], .int .i64 f]) ∧ Own w' W.heap.size A c (limbs i) ∧ Below W.heap.size W w'

/-- What a call that answers a row of its own leaves: so many digits to the base, which say v. -/
def RetRow (W : World) (b len v : Nat) (e : Ending) (w' : World) : Prop :=
  ∃ g zs, e = .returned (.slice (some ⟨g, 0, none⟩) zs.length zs.length) ∧ Row w' g len zs ∧ zs.length = len ∧ small b zs ∧ val b zs = v ∧ W.heap.size ≤ g ∧ Below W.heap.size W w'
theorem Row.nums {w' : World} {g len : Nat} {zs : List Nat} (h : Row w' g len zs) (hz : zs.length = len) (h64 : ∀ x ∈ zs, x < 18446744073709551616) : Nums w' (some ⟨g, 0, none⟩) zs :=
  ⟨nth_bound h64, fun _ => ⟨g, 0, rfl, h.lt, fun k hk => by rw [Nat.zero_add]; exact h.cell (by omega)⟩⟩

theorem limbs_zero : limbs 0 = [] := by rw [limbs_eq]; rfl
theorem retBig_zero {W w' : World} (hb : Below W.heap.size W w') : RetBig W 0 (.returned (.agg #[.bool false, .slice none 0 0])) w' :=
  ⟨none, 0, by rw [limbs_zero]; rfl, by rw [limbs_zero]; exact Own.nil _ _, hb⟩
theorem fin_big {W w4 : World} {i f : Int} {A4 : Option Addr} {c4 base g0 : Nat} (hown : Own w4 base A4 c4 (limbs i)) (L : Below W.heap.size W w4) (hg : W.heap.size ≤ g0) (hgb : g0 < base) (u v : Value) :
    RetBigErr W i f (.returned (.tuple #[.agg #[.bool (decide (i < 0)), .slice A4 (limbs i).length c4], .int .i64 f])) ((w4.setCell ⟨g0, 0, none⟩ u).setCell ⟨g0, 1, none⟩ v) :=
  ⟨A4, c4, rfl, ((hown.setBelow hgb _).setBelow hgb _).mono (by omega), (L.setCell hg _).setCell hg _⟩
theorem fin_zero {W w4 : World} {f : Int} {g0 : Nat} (L : Below W.heap.size W w4) (hg : W.heap.size ≤ g0) (u v : Value) :
    RetBigErr W 0 f (.returned (.tuple #[.agg #[.bool false, .slice none 0 0], .int .i64 f])) ((w4.setCell ⟨g0, 0, none⟩ u).setCell ⟨g0, 1, none⟩ v) :=
  ⟨none, 0, by rw [limbs_zero]; rfl, by rw [limbs_zero]; exact Own.nil _ _, (L.setCell hg _).setCell hg _⟩
theorem info64 : (Tryz.prog.info? 22).map (fun i => (i.zero, i.size, i.bytes)) = some (some (.int .u64 0), 1, 8) := by kernel_rfl
theorem make64 (n : Nat) (h : n ≤ 35184372088832) : ∀ w : World, (Instr.makeSlice 39 (.int .i64 (n : Int)) (.int .i64 (n : Int))).run Tryz.prog w = .ok (.slice (some ⟨w.heap.size, 0, none⟩) n n) (w.alloc (.cells (madeCells #[.int .u64 0] n) 22)) :=
  fun w => run_make_row' _ _ _ 8 Tryz.underlying39 info64 rfl _ _ n (by omega) (by omega) w
end Go.Proofs.YtljndllhmdpjlaaGreatDoor
namespace Go.Proofs.YtljndllhmdpjlaaGreatDoor
open Go.RowKit

def allLt (xs : List Nat) : Bool := (List.range xs.length).all fun k => decide (nth xs k < 1000000000000000000)
theorem allLt_no {xs : List Nat} {k : Nat} (hk : k < xs.length) (h : 1000000000000000000 ≤ nth xs k) : allLt xs = false := by
  unfold allLt
  rw [List.all_eq_false]
  exact ⟨k, by simpa using hk, by simpa using h⟩
theorem allLt_yes {xs : List Nat} (h : ∀ k, k < xs.length → nth xs k < 1000000000000000000) : allLt xs = true := by
  unfold allLt
  rw [List.all_eq_true]
  intro k hk
  simpa using h k (by simpa using hk)
/-- Is the number in form? -/
def goodB (neg : Bool) (xs : List Nat) : Bool :=
  if xs.length = 0 then !neg else if 30 < xs.length then false else if nth xs (xs.length - 1) = 0 then false else allLt xs

section
variable (neg : Bool) (c : Nat) (w : World)
set_option maxRecDepth 100000
theorem good_nil (A : Option Addr) :
    Calls Tryz.prog 76 #[.agg #[.bool neg, .slice A 0 c]] w fun e w' => e = .returned (.bool !neg) ∧ Below w.heap.size w w' := by
  go_enter Tryz.func76, Tryz.ntmps76
  go_wp2
  go_ret
  exact ⟨rfl, (Below.refl _ _).alloc (Nat.le_refl _) _⟩

theorem good_long (A : Option Addr) (n : Nat) (hn : 30 < n) (hm : n ≤ 9223372036854775807) :
    Calls Tryz.prog 76 #[.agg #[.bool neg, .slice A n c]] w fun e w' => e = .returned (.bool false) ∧ Below w.heap.size w w' := by
  go_enter Tryz.func76, Tryz.ntmps76
  go_wp2
  go_ret
  exact ⟨rfl, (Below.refl _ _).alloc (Nat.le_refl _) _⟩

theorem good_last (b o : Nat) (n : Nat) (h0 : 0 < n) (hn : n ≤ 30) (hb : b < w.heap.size) (hc : w.cell? ⟨b, o + (n - 1), none⟩ = some (.int .u64 0)) :
    Calls Tryz.prog 76 #[.agg #[.bool neg, .slice (some ⟨b, o, none⟩) n c]] w fun e w' => e = .returned (.bool false) ∧ Below w.heap.size w w' := by
  go_enter Tryz.func76, Tryz.ntmps76
  go_wp2
  go_ret
  exact ⟨rfl, (Below.refl _ _).alloc (Nat.le_refl _) _⟩

set_option maxHeartbeats 400000 in
theorem good_body (b o : Nat) (xs : List Nat) (h0 : 0 < xs.length) (hn : xs.length ≤ 30) (hb : b < w.heap.size)
    (hc : ∀ k, k < xs.length → w.cell? ⟨b, o + k, none⟩ = some (.int .u64 (nth xs k))) (hl : nth xs (xs.length - 1) ≠ 0) :
    Calls Tryz.prog 76 #[.agg #[.bool neg, .slice (some ⟨b, o, none⟩) xs.length c]] w fun e w' => e = .returned (.bool (allLt xs)) ∧ Below w.heap.size w w' := by
  have hc1 := hc (xs.length - 1) (by omega)
  have hl0 : (nth xs (xs.length - 1) == 0) = false := by simpa using hl
  have hl1 : ((xs.length : Int) == 0) = false := beq_eq_false_iff_ne.2 (by omega)
  go_enter Tryz.func76, Tryz.ntmps76
  go_wp2
  go_loop [25] (fun i => ∃ k : Nat, k ≤ xs.length ∧ i = .int .i64 k ∧ ∀ j, j < k → nth xs j < 1000000000000000000) (fun i => xs.length - (intOf i).toNat)
  case atStart => exact ⟨0, Nat.zero_le _, rfl, fun j hj => absurd hj (by omega)⟩
  case round =>
    obtain ⟨k, hk, rfl, hlt⟩ := hrel
    have HL := Lib.hid hlt; clear hlt
    have hcell : k < xs.length → w.cell? ⟨b, o + k, none⟩ = some (.int .u64 (nth xs k)) := hc k
    clear hc hc1
    go_wp2
    · go_ret
      exact ⟨ret_bool (allLt_no (by assumption) (by assumption)).symm, (Below.refl _ _).alloc (Nat.le_refl _) _⟩
    · have h1 : k < xs.length := by assumption
      have h2 : nth xs k < 1000000000000000000 := by assumption
      go_round
      case rel => exact ⟨k + 1, by omega, by go_num, fun j hj => by
        by_cases hjk : j = k
        · rw [hjk]; exact h2
        · exact HL.out j (by omega)⟩
      case measure => simp [intOf]; omega
    · have h1 : ¬ k < xs.length := by assumption
      go_ret
      exact ⟨ret_bool (allLt_yes fun j hj => HL.out j (by omega)).symm, (Below.refl _ _).alloc (Nat.le_refl _) _⟩

/-- whole.Good, at every number whose limbs can be read. -/
theorem good_any (A : Option Addr) (xs : List Nat) (hm : xs.length ≤ 9223372036854775807) (hx : Nums w A xs) :
    Calls Tryz.prog 76 #[.agg #[.bool neg, .slice A xs.length c]] w fun e w' => e = .returned (.bool (goodB neg xs)) ∧ Below w.heap.size w w' := by
  unfold goodB
  by_cases h0 : xs.length = 0
  · rw [if_pos h0, h0]; exact good_nil neg c w A
  rw [if_neg h0]
  by_cases h1 : 30 < xs.length
  · rw [if_pos h1]; exact good_long neg c w A _ h1 hm
  rw [if_neg h1]
  obtain ⟨b, o, rfl, hb, hc⟩ := hx.2 (by omega)
  by_cases h2 : nth xs (xs.length - 1) = 0
  · rw [if_pos h2]
    exact good_last neg c w b o _ (by omega) (by omega) hb (by rw [hc _ (by omega), h2])
  rw [if_neg h2]
  exact good_body neg c w b o xs (by omega) (by omega) hb hc h2
end
end Go.Proofs.YtljndllhmdpjlaaGreatDoor
namespace Go.Proofs.YtljndllhmdpjlaaGreatDoor
open Go.RowKit

set_option maxRecDepth 100000 in
set_option maxHeartbeats 400000 in
theorem form_any (neg : Bool) (A : Option Addr) (c : Nat) (xs : List Nat) (w : World) (hx : Nums w A xs) (hs : small B18 xs) (hl : xs.length ≤ 1048576) :
    Calls Tryz.prog 114 #[.bool neg, .slice A xs.length c] w (RetBig w (sgn neg (val B18 xs))) := by
  go_enter Tryz.func114, Tryz.ntmps114
  go_wp2
  go_loop [5] (fun v => ∃ k : Nat, k ≤ xs.length ∧ v = .int .i64 k ∧ ∀ j, k ≤ j → nth xs j = 0) (fun v => (intOf v).toNat)
  case atStart => exact ⟨xs.length, Nat.le_refl _, rfl, fun j hj => nth_past xs j hj⟩
  case round =>
    obtain ⟨k, hk, rfl, hz⟩ := hrel
    have HZ := Lib.hid hz; clear hz
    by_cases hk0 : k = 0
    · subst hk0
      go_wp2
      refine bodyPost_ret (v := .agg #[.bool false, .slice none 0 0]) (by simp [results, Tryz.results114, go_sem]) rfl ?_
      have hv : sgn neg (val B18 xs) = 0 := by
        have h1 := val_take_of_zero (b := B18) xs 0 (fun j _ _ => by have := HZ.out j (by omega); unfold nth at this; omega)
        rw [← h1]; cases neg <;> rfl
      rw [hv]
      exact retBig_zero ((Below.refl _ _).alloc (Nat.le_refl _) _)
    · obtain ⟨m, rfl⟩ : ∃ m, k = m + 1 := ⟨k - 1, by omega⟩
      obtain ⟨b, o, rfl, hb, hc⟩ := hx.2 (by omega)
      have hcell := hc m (by omega)
      have hmk := make64 (m + 1) (by omega)
      rw [show ((m + 1 : Nat) : Int) = (m : Int) + 1 from by omega] at hmk
      obtain ⟨w1, hcp, hrow1, hg1, hz1⟩ := copy_nums (w := (w.alloc (.cells #[.bool false, .slice none 0 0] 41)).alloc (.cells (madeCells #[.int .u64 0] (m + 1)) 22)) (w.heap.size + 1) (m + 1) (m + 1) c (some ⟨b, o, none⟩) xs
        (by have := Row.made (w.alloc (.cells #[.bool false, .slice none 0 0] 41)) (m + 1); simpa using this) ((hx.alloc _).alloc _)
      have hN : w1.heap[w.heap.size]? = some (.cells #[.bool false, .slice none 0 0] 41 (0, 0)) := by
        rw [hg1.block _ (by simp; omega) (by simp), Below.heap_alloc _ _ _ (by simp)]
        exact heap_alloc_new _ _
      have hc0 := cell_of_row w1 _ 0 _ _ _ hN
      have hc1 := cell_of_row w1 _ 1 _ _ _ hN
      have hf0 : w1.frozen? ⟨w.heap.size, 0, none⟩ = false := by simp [World.frozen?, hN]
      have hf1 : w1.frozen? ⟨w.heap.size, 1, none⟩ = false := by simp [World.frozen?, hN]
      have HN := Lib.hid hN
      simp at hc0 hc1
      simp only [World.size_alloc] at hz1
      clear hN
      go_wp2
      · have h0 : (nth xs m == 0) = true := by assumption
        go_round
        case rel => exact ⟨m, by omega, rfl, fun j hj => by
          by_cases e : j = m
          · rw [e]; exact beq_iff_eq.1 h0
          · exact HZ.out j (by omega)⟩
        case measure => simp [intOf]
      · have hne : (nth xs m == 0) = false := by assumption
        have hlast : xs.getD m 0 ≠ 0 := by
          have := beq_eq_false_iff_ne.1 hne
          unfold nth at this; omega
        have hst : xs.take (m + 1) = digs B18 (val B18 xs) :=
          strip_eq B18_two hs hk (fun j hj _ => by have := HZ.out j (by omega); unfold nth at this; omega) (fun _ => hlast)
        have hlim : limbs (sgn neg (val B18 xs)) = xs.take (m + 1) := by rw [limbs_eq, sgn_natAbs, hst]
        have hlen : (xs.take (m + 1)).length = m + 1 := by rw [List.length_take]; omega
        have hv0 : val B18 xs ≠ 0 := fun e => by rw [e, digs_zero] at hst; rw [hst] at hlen; simp at hlen
        have hneg : decide (sgn neg (val B18 xs) < 0) = neg := by rw [sgn_neg]; simp [hv0]
        refine bodyPost_ret (v := .agg #[.bool neg, .slice (some ⟨w.heap.size + 1, 0, none⟩) (m + 1) (m + 1)]) (by simp [results, Tryz.results114, go_sem, hc0, hc1]) rfl ?_
        refine ⟨some ⟨w.heap.size + 1, 0, none⟩, m + 1, by rw [hlim, hneg, hlen], ?_, ?_⟩
        · rw [hlim]
          exact (Own.of_row (base := w.heap.size) hrow1 (by omega) (by unfold maxLen; omega) (by omega) (fun _ _ => rfl) (small64 (small_take hs _))).setCell (by rintro q ⟨⟩; simp) _ |>.setCell (by rintro q ⟨⟩; simp) _
        · exact ((((Below.refl _ _).alloc (Nat.le_refl _) _).alloc (by simp) _).grown hg1 (by simp; omega) (by rintro k ⟨⟩; omega)).setCell (by simp) _ |>.setCell (by simp) _
end Go.Proofs.YtljndllhmdpjlaaGreatDoor
namespace Go.Proofs.YtljndllhmdpjlaaGreatDoor
open Go.RowKit

set_option maxRecDepth 100000 in
set_option maxHeartbeats 400000 in
theorem fits_yes (neg : Bool) (A : Option Addr) (c : Nat) (xs : List Nat) (w : World) (hx : Nums w A xs) (hs : small B18 xs) (hl : xs.length ≤ 1048576) (hf : val B18 xs < B18 ^ 30) :
    Calls Tryz.prog 115 #[.bool neg, .slice A xs.length c] w (RetBigErr w (sgn neg (val B18 xs)) 0) := by
  have hlen : (limbs (sgn neg (val B18 xs))).length ≤ 30 := by rw [limbs_eq, sgn_natAbs]; exact (digs_length_le B18_two _ _).2 hf
  obtain ⟨i, hi⟩ : ∃ i, i = sgn neg (val B18 xs) := ⟨_, rfl⟩
  rw [← hi] at hlen ⊢
  have HI := Lib.hid hi
  clear hi
  go_enter Tryz.func115, Tryz.ntmps115
  go_wp2_with fail
  refine (form_any neg A c xs _ (hx.alloc _) hs hl).mono ?_
  rintro e w1 ⟨A1, c1, rfl, hown, hbel⟩
  rw [← HI.out] at hown ⊢
  have hz : w.heap.size < w1.heap.size := by have := hbel.size; simp at this; omega
  obtain ⟨hc, hf⟩ := bcell hbel
  simp only [World.size_alloc] at hc hf
  go_wp2
  refine bodyPost_ret (v := .tuple #[.agg #[.bool (decide (i < 0)), .slice A1 (limbs i).length c1], .int .i64 0]) (by simp [results, Tryz.results115, go_sem, hc, hz]) rfl ?_
  simp only [World.size_alloc] at hown hbel
  exact ⟨A1, c1, rfl, (((hown.setBelow (by simp) _).setBelow (by simp) _).alloc _).mono (by simp), (((((Below.refl _ _).alloc (Nat.le_refl _) _).trans (hbel.mono (by simp))).setCell (by simp) _).setCell (by simp) _).alloc (by simp; omega) _⟩

set_option maxRecDepth 100000 in
set_option maxHeartbeats 400000 in
theorem fits_no (neg : Bool) (A : Option Addr) (c : Nat) (xs : List Nat) (w : World) (hx : Nums w A xs) (hs : small B18 xs) (hl : xs.length ≤ 1048576) (hf : B18 ^ 30 ≤ val B18 xs) :
    Calls Tryz.prog 115 #[.bool neg, .slice A xs.length c] w (RetBigErr w 0 7) := by
  have hlen : 30 < (limbs (sgn neg (val B18 xs))).length := by
    rw [limbs_eq, sgn_natAbs]
    rcases Nat.lt_or_ge 30 (digs B18 (val B18 xs)).length with h | h
    · exact h
    · have := (digs_length_le B18_two _ _).1 h; omega
  have hlen : (30 : Int) < ((limbs (sgn neg (val B18 xs))).length : Int) := by omega
  obtain ⟨i, hi⟩ : ∃ i, i = sgn neg (val B18 xs) := ⟨_, rfl⟩
  rw [← hi] at hlen
  have HI := Lib.hid hi
  clear hi
  go_enter Tryz.func115, Tryz.ntmps115
  go_wp2_with fail
  refine (form_any neg A c xs _ (hx.alloc _) hs hl).mono ?_
  rintro e w1 ⟨A1, c1, rfl, hown, hbel⟩
  rw [← HI.out] at hown ⊢
  have hz : w.heap.size < w1.heap.size := by have := hbel.size; simp at this; omega
  obtain ⟨hc, hf⟩ := bcell hbel
  simp only [World.size_alloc] at hc hf
  go_wp2
  refine bodyPost_ret (v := .tuple #[.agg #[.bool false, .slice none 0 0], .int .i64 7]) (by simp [results, Tryz.results115, go_sem, hc, hz]) rfl ?_
  simp only [World.size_alloc] at hbel
  exact ⟨none, 0, by rw [limbs_zero]; rfl, by rw [limbs_zero]; exact Own.nil _ _, (((((Below.refl _ _).alloc (Nat.le_refl _) _).trans (hbel.mono (by simp))).setCell (by simp) _).setCell (by simp) _).alloc (by simp; omega) _⟩

theorem nums_two (w : World) (o : Obj) (x y : Nat) (hx : x < 18446744073709551616) (hy : y < 18446744073709551616) :
    Nums ((w.alloc o).alloc (.cells #[.int .u64 (x : Int), .int .u64 (y : Int)] 22)) (some ⟨w.heap.size + 1, 0, none⟩) [x, y] := by
  have h := cell_of_row ((w.alloc o).alloc (.cells #[.int .u64 (x : Int), .int .u64 (y : Int)] 22)) (w.heap.size + 1) 
  refine ⟨nth_bound (by simp; omega), fun _ => ⟨w.heap.size + 1, 0, rfl, by simp, fun k hk => ?_⟩⟩
  have hh : ((w.alloc o).alloc (.cells #[.int .u64 (x : Int), .int .u64 (y : Int)] 22)).heap[w.heap.size + 1]? = some (.cells #[.int .u64 (x : Int), .int .u64 (y : Int)] 22 (0, 0)) := by
    have := heap_alloc_new (w.alloc o) (.cells #[.int .u64 (x : Int), .int .u64 (y : Int)] 22); simpa using this
  rw [h (0 + k) _ _ _ hh]
  match k, hk with
  | 0, _ => simp [nth]
  | 1, _ => simp [nth]
  | k + 2, hk => simp only [List.length_cons, List.length_nil] at hk; omega
theorem wrap_neg (n : Int) (m : Nat) (h0 : -9223372036854775808 ≤ n) (hn : n < 0) (hm : m = n.natAbs) : IntKind.u64.wrap (-IntKind.u64.wrap n) = (m : Int) := by
  simp [IntKind.wrap, IntKind.signed, IntKind.bits]; omega
theorem wrap_pos (n : Int) (m : Nat) (h1 : n ≤ 9223372036854775807) (hn : 0 ≤ n) (hm : m = n.natAbs) : IntKind.u64.wrap n = (m : Int) := by
  simp [IntKind.wrap, IntKind.signed, IntKind.bits]; omega
theorem of_val (n : Int) (m : Nat) (hm : m = n.natAbs) : sgn (decide (n < 0)) (val B18 [m % 1000000000000000000, m / 1000000000000000000]) = n := by
  have e : val B18 [m % 1000000000000000000, m / 1000000000000000000] = m := by simp only [val, Nat.mul_zero, Nat.add_zero]; unfold B18; omega
  rw [e]; unfold sgn
  by_cases h : n < 0
  · simp [h]; omega
  · simp [h]; omega
theorem of_small (m : Nat) (hm : m ≤ 9223372036854775808) : small B18 [m % 1000000000000000000, m / 1000000000000000000] := by
  intro x hx
  simp at hx
  unfold B18
  omega

set_option maxRecDepth 100000 in
set_option maxHeartbeats 400000 in
theorem of_any (n : Int) (w : World) (h0 : -9223372036854775808 ≤ n) (h1 : n ≤ 9223372036854775807) :
    Calls Tryz.prog 82 #[.int .i64 n] w (RetBig w n) := by
  obtain ⟨m, hm⟩ : ∃ m, m = n.natAbs := ⟨_, rfl⟩
  have hmb : m ≤ 9223372036854775808 := by omega
  have hval := of_val n m hm
  have hnums := fun (o : Obj) => nums_two w o (m % 1000000000000000000) (m / 1000000000000000000) (by omega) (by omega)
  have hsm := of_small m hmb
  by_cases hn : n < 0
  · have hwr := wrap_neg n m h0 hn hm
    simp only [hn, decide_true] at hval
    have HV := Lib.hid hval; have HS := Lib.hid hsm; have HN := Lib.hid hnums
    clear hval hsm hnums hm
    go_enter Tryz.func82, Tryz.ntmps82
    go_wp2_with fail
    refine (form_any true _ 2 [m % 1000000000000000000, m / 1000000000000000000] _ (HN.out _) HS.out (by simp)).mono ?_
    rintro e w1 ⟨A1, c1, rfl, hown, hbel⟩
    rw [HV.out] at hown ⊢
    simp only [World.size_alloc] at hown
    have hz : w.heap.size < w1.heap.size := by have := hbel.size; simp at this; omega
    obtain ⟨c0, c1', f0, f1⟩ := ((Blk.first w 41 #[.bool false, .slice none 0 0] _).below hbel (by simp; omega)).two
    go_wp2
    refine bodyPost_ret (v := .agg #[.bool true, .slice A1 (limbs n).length c1]) (by simp [results, Tryz.results82, go_sem, c0, c1']) rfl ?_
    exact ⟨A1, c1, by rw [decide_eq_true hn], ((hown.setBelow (by simp; omega) _).setBelow (by simp; omega) _).mono (by omega), ((((Below.refl _ _).alloc (Nat.le_refl _) _).alloc (by simp) _).trans (hbel.mono (by simp; omega))).setCell (by simp) _ |>.setCell (by simp) _⟩
  · have hwr := wrap_pos n m h1 (by omega) hm
    simp only [hn, decide_false] at hval
    have HV := Lib.hid hval; have HS := Lib.hid hsm; have HN := Lib.hid hnums
    clear hval hsm hnums hm
    go_enter Tryz.func82, Tryz.ntmps82
    go_wp2_with fail
    refine (form_any false _ 2 [m % 1000000000000000000, m / 1000000000000000000] _ (HN.out _) HS.out (by simp)).mono ?_
    rintro e w1 ⟨A1, c1, rfl, hown, hbel⟩
    rw [HV.out] at hown ⊢
    simp only [World.size_alloc] at hown
    have hz : w.heap.size < w1.heap.size := by have := hbel.size; simp at this; omega
    obtain ⟨c0, c1', f0, f1⟩ := ((Blk.first w 41 #[.bool false, .slice none 0 0] _).below hbel (by simp; omega)).two
    go_wp2
    refine bodyPost_ret (v := .agg #[.bool false, .slice A1 (limbs n).length c1]) (by simp [results, Tryz.results82, go_sem, c0, c1']; omega) rfl ?_
    exact ⟨A1, c1, by rw [decide_eq_false (by omega)], ((hown.setBelow (by simp; omega) _).setBelow (by simp; omega) _).mono (by omega), ((((Below.refl _ _).alloc (Nat.le_refl _) _).alloc (by simp) _).trans (hbel.mono (by simp; omega))).setCell (by simp) _ |>.setCell (by simp) _⟩
end Go.Proofs.YtljndllhmdpjlaaGreatDoor
namespace Go.Proofs.YtljndllhmdpjlaaGreatDoor
open Go.RowKit

theorem cmp_length {xs ys : List Nat} (hs : small B18 xs) (hm : noLead ys) (h : xs.length < ys.length) : cmpN (val B18 xs) (val B18 ys) = -1 ∧ cmpN (val B18 ys) (val B18 xs) = 1 := by
  have := val_lt_of_length B18_two hs hm h
  unfold cmpN
  exact ⟨if_pos this, by rw [if_neg (by omega), if_pos this]⟩
theorem nth_lt_iff (xs ys : List Nat) (j k : Nat) : nth xs j < nth ys k ↔ xs.getD j 0 < ys.getD k 0 := by unfold nth; omega
theorem nth_eq_iff (xs ys : List Nat) (j k : Nat) : nth xs j = nth ys k ↔ xs.getD j 0 = ys.getD k 0 := by unfold nth; omega
theorem cmp_digit {xs ys : List Nat} (hs : small B18 xs) (h : xs.length = ys.length) {k : Nat} (hk : k < xs.length) (hd : ∀ j, k + 1 ≤ j → nth xs j = nth ys j) (hlt : nth xs k < nth ys k) :
    cmpN (val B18 xs) (val B18 ys) = -1 ∧ cmpN (val B18 ys) (val B18 xs) = 1 := by
  have := val_lt_of_digit hs h hk (fun j hj _ => (nth_eq_iff _ _ _ _).1 (hd j hj)) ((nth_lt_iff _ _ _ _).1 hlt)
  unfold cmpN
  exact ⟨if_pos this, by rw [if_neg (by omega), if_pos this]⟩
theorem cmp_same {xs ys : List Nat} (h : xs.length = ys.length) (hd : ∀ j, 0 ≤ j → nth xs j = nth ys j) : cmpN (val B18 xs) (val B18 ys) = 0 := by
  have : xs = ys := by
    apply List.ext_getElem h
    intro j h1 h2
    have := (nth_eq_iff _ _ _ _).1 (hd j (Nat.zero_le _))
    simpa [List.getD, List.getElem?_eq_getElem h1, List.getElem?_eq_getElem h2] using this
  subst this
  simp [cmpN]

set_option maxRecDepth 100000 in
set_option maxHeartbeats 400000 in
theorem size_any (A B : Option Addr) (c d : Nat) (xs ys : List Nat) (w : World) (hx : Nums w A xs) (hy : Nums w B ys) (hs : small B18 xs) (ht : small B18 ys) (hn : noLead xs) (hm : noLead ys)
    (hl : xs.length ≤ 1048576) (hl' : ys.length ≤ 1048576) :
    Calls Tryz.prog 121 #[.slice A xs.length c, .slice B ys.length d] w fun e w' => e = .returned (.int .i64 (cmpN (val B18 xs) (val B18 ys))) ∧ ∃ n, w' = w.drewN n := by
  by_cases hlen : xs.length = ys.length
  · have hne : ((xs.length : Int) != (ys.length : Int)) = false := by simp [hlen]
    have HL := Lib.hid hlen; clear hlen
    go_enter Tryz.func121, Tryz.ntmps121
    go_wp2
    go_loopw [5] (fun v wr => ∃ k : Nat, k ≤ xs.length ∧ v = .int .i64 ((k : Int) - 1) ∧ (∀ j, k ≤ j → nth xs j = nth ys j) ∧ ∃ n, wr = w.drewN n) (fun v _ => (intOf v + 1).toNat)
    case atStart => exact ⟨xs.length, Nat.le_refl _, rfl, fun j hj => by rw [nth_past xs j hj, nth_past ys j (by rw [← HL.out]; exact hj)], 0, rfl⟩
    case round =>
      obtain ⟨k, hk, rfl, hz, n, rfl⟩ := hrel
      have HZ := Lib.hid hz; clear hz
      by_cases hk0 : k = 0
      · subst hk0
        go_wp2
        go_ret
        exact ⟨ret_int' (cmp_same HL.out HZ.out).symm, n, rfl⟩
      · obtain ⟨m, rfl⟩ : ∃ m, k = m + 1 := ⟨k - 1, by omega⟩
        obtain ⟨b, o, rfl, hb, hc⟩ := hx.2 (by omega)
        obtain ⟨b', o', rfl, hb', hc'⟩ := hy.2 (by rw [← HL.out]; omega)
        have hcell := hc m (by omega)
        have hcell' := hc' m (by rw [← HL.out]; omega)
        have hm1 : (m : Int) < (xs.length : Int) := by omega
        have hm2 : (m : Int) < (ys.length : Int) := by have := HL.out; omega
        have hm0 : (0 : Int) ≤ (m : Int) := by omega
        clear hc hc'
        rcases Int.lt_trichotomy (nth xs m) (nth ys m) with h | h | h
        · have hne : (nth xs m != nth ys m) = true := by simp; omega
          have hdl : decide (nth xs m < nth ys m) = true := by simpa using h
          have H := Lib.hid h
          clear h
          go_wp2
          go_quiet (fail)
          go_wp2
          go_quiet (fail)
          go_wp2
          go_ret
          exact ⟨ret_int' (cmp_digit hs HL.out (by omega) HZ.out H.out).1.symm, _, by simp only [World.drewN_drewN]; rfl⟩
        · have hne : (nth xs m != nth ys m) = false := by simp [h]
          have H := Lib.hid h
          clear h
          go_wp2
          go_quiet (fail)
          go_wp2
          go_roundw
          case rel => exact ⟨m, by omega, rfl, fun j hj => by
            by_cases e : j = m
            · rw [e]; exact H.out
            · exact HZ.out j (by omega), _, by first | rfl | (simp only [World.drewN_drewN]; rfl)⟩
          case measure => simp [intOf]
        · have hne : (nth xs m != nth ys m) = true := by simp; omega
          have hdl : decide (nth xs m < nth ys m) = false := by simp; omega
          have H := Lib.hid h
          clear h
          go_wp2
          go_quiet (fail)
          go_wp2
          go_quiet (fail)
          go_wp2
          go_ret
          exact ⟨ret_int' (cmp_digit ht HL.out.symm (by have := HL.out; omega) (fun j hj => (HZ.out j hj).symm) H.out).2.symm, _, by simp only [World.drewN_drewN]; rfl⟩
  · rcases Nat.lt_or_ge xs.length ys.length with h | h
    · have hne : ((xs.length : Int) != (ys.length : Int)) = true := by simp; omega
      have hlt : (xs.length : Int) < (ys.length : Int) := by omega
      go_enter Tryz.func121, Tryz.ntmps121
      go_wp2
      go_ret
      exact ⟨ret_int' (cmp_length hs hm h).1.symm, 0, rfl⟩
    · have hne : ((xs.length : Int) != (ys.length : Int)) = true := by simp; omega
      have hlt : ¬ (xs.length : Int) < (ys.length : Int) := by omega
      go_enter Tryz.func121, Tryz.ntmps121
      go_wp2
      go_ret
      exact ⟨ret_int' (cmp_length ht hn (by omega)).2.symm, 0, rfl⟩
end Go.Proofs.YtljndllhmdpjlaaGreatDoor
namespace Go.Proofs.YtljndllhmdpjlaaGreatDoor
open Go.RowKit

/-- The number that a sign and limbs say. -/
@[irreducible] def num (neg : Bool) (xs : List Nat) : Int := sgn neg (val B18 xs)
theorem num_eq (neg : Bool) (xs : List Nat) : num neg xs = sgn neg (val B18 xs) := by unfold num; rfl
theorem good_parts {neg : Bool} {xs : List Nat} (h : goodB neg xs = true) : small B18 xs ∧ noLead xs ∧ xs.length ≤ 30 ∧ (xs.length = 0 → neg = false) := by
  unfold goodB at h
  by_cases h0 : xs.length = 0
  · rw [if_pos h0] at h
    obtain rfl := List.eq_nil_of_length_eq_zero h0
    exact ⟨small_nil, Or.inl rfl, by simp, fun _ => by simpa using h⟩
  rw [if_neg h0] at h
  by_cases h1 : 30 < xs.length
  · rw [if_pos h1] at h; cases h
  rw [if_neg h1] at h
  by_cases h2 : nth xs (xs.length - 1) = 0
  · rw [if_pos h2] at h; cases h
  rw [if_neg h2] at h
  refine ⟨small_of_getD fun k hk => ?_, Or.inr fun e => h2 (by unfold nth; rw [e]; rfl), by omega, fun e => absurd e h0⟩
  unfold allLt at h
  rw [List.all_eq_true] at h
  have := h k (by simpa using hk)
  unfold nth at this
  simp only [decide_eq_true_eq] at this
  unfold B18; omega
theorem good_of_parts {neg : Bool} {xs : List Nat} (hs : small B18 xs) (hn : noLead xs) (hl : xs.length ≤ 30) (h0 : xs.length = 0 → neg = false) : goodB neg xs = true := by
  unfold goodB
  by_cases h : xs.length = 0
  · rw [if_pos h, h0 h]; rfl
  rw [if_neg h, if_neg (by omega)]
  rcases hn with hn | hn
  · exact absurd hn h
  rw [if_neg (by unfold nth; omega)]
  exact allLt_yes fun k _ => nth_lt (by unfold B18; omega) hs k
theorem num_natAbs (neg : Bool) (xs : List Nat) : (num neg xs).natAbs = val B18 xs := by rw [num_eq, sgn_natAbs]
theorem limbs_num {neg : Bool} {xs : List Nat} (h : goodB neg xs = true) : limbs (num neg xs) = xs := by
  obtain ⟨hs, hn, _, _⟩ := good_parts h
  rw [limbs_eq, num_natAbs, ← eq_digs B18_two hs hn]
theorem val_zero_iff {neg : Bool} {xs : List Nat} (h : goodB neg xs = true) : val B18 xs = 0 ↔ xs.length = 0 := by
  obtain ⟨_, hn, _, _⟩ := good_parts h
  constructor
  · intro hv
    rcases Nat.eq_zero_or_pos xs.length with h0 | h0
    · exact h0
    · exact absurd hv (val_ne_zero B18_two hn (by omega))
  · intro h0; rw [List.eq_nil_of_length_eq_zero h0]; rfl
theorem neg_num {neg : Bool} {xs : List Nat} (h : goodB neg xs = true) : decide (num neg xs < 0) = neg := by
  rw [num_eq, sgn_neg]
  by_cases h0 : xs.length = 0
  · rw [(good_parts h).2.2.2 h0]; rfl
  · simp [mt (val_zero_iff h).1 h0]
theorem num_lt {neg : Bool} {xs : List Nat} (h : goodB neg xs = true) : (num neg xs).natAbs < B18 ^ 30 := by
  obtain ⟨hs, _, hl, _⟩ := good_parts h
  rw [num_natAbs]
  exact Nat.lt_of_lt_of_le (val_lt hs) (Nat.pow_le_pow_right (by unfold B18; omega) hl)
theorem good_limbs {i : Int} (h : i.natAbs < B18 ^ 30) : goodB (decide (i < 0)) (limbs i) = true := by
  rw [limbs_eq]
  refine good_of_parts (small_digs B18_two _) (noLead_digs B18_two _) ((digs_length_le B18_two _ _).2 h) fun h0 => ?_
  have hz : i.natAbs = 0 := by
    rcases Nat.eq_zero_or_pos i.natAbs with h1 | h1
    · exact h1
    · have := digs_pos B18_two (n := i.natAbs) (by omega); omega
  simp; omega
theorem num_limbs (i : Int) : num (decide (i < 0)) (limbs i) = i := by
  rw [num_eq, limbs_eq, val_digs B18_two]; unfold sgn
  by_cases h : i < 0 <;> simp [h] <;> omega

/-- -1, 0, 1: how one number stands to another. -/
def cmpI (i j : Int) : Int := if i < j then -1 else if j < i then 1 else 0
theorem Own.nums' {w : World} {base c : Nat} {A : Option Addr} {xs : List Nat} (h : Own w base A c xs) : Nums w A xs := h.nums

section
variable (A : Option Addr) (c : Nat) (xs : List Nat) (w : World)
set_option maxRecDepth 100000
theorem sign_bad (neg : Bool) (hx : Nums w A xs) (hl : xs.length ≤ 9223372036854775807) (hg : goodB neg xs = false) :
    Calls Tryz.prog 49 #[.agg #[.bool neg, .slice A xs.length c]] w fun e w' => e = .returned (.int .i64 0) ∧ Below w.heap.size w w' := by
  go_enter Tryz.func49, Tryz.ntmps49
  go_wp2_with (go_at_call 76; refine (good_any neg c _ A xs hl (hx.alloc _)).mono ?_; rintro e w1 ⟨rfl, hb1⟩)
  go_ret
  exact ⟨rfl, ((Below.refl _ _).alloc (Nat.le_refl _) _).trans (hb1.mono (by simp))⟩
theorem sign_good (neg : Bool) (hx : Nums w A xs) (hg : goodB neg xs = true) :
    Calls Tryz.prog 49 #[.agg #[.bool neg, .slice A xs.length c]] w fun e w' => e = .returned (.int .i64 (cmpI (num neg xs) 0)) ∧ Below w.heap.size w w' := by
  have hl := (good_parts hg).2.2.1
  by_cases h0 : xs.length = 0
  · have hz : ((xs.length : Int) == 0) = true := beq_iff_eq.2 (by omega)
    have hv : num neg xs = 0 := by have := num_natAbs neg xs; rw [(val_zero_iff hg).2 h0] at this; omega
    have HV := Lib.hid hv
    clear h0 hv
    go_enter Tryz.func49, Tryz.ntmps49
    go_wp2_with (go_at_call 76; refine (good_any neg c _ A xs (by omega) (hx.alloc _)).mono ?_; rintro e w1 ⟨rfl, hb1⟩; obtain ⟨c0, c1, f0, f1⟩ := ((Blk.new w 41 #[.bool neg, .slice A xs.length c]).below hb1 (by simp)).two)
    go_ret
    exact ⟨ret_int' (by rw [HV.out]; rfl), ((Below.refl _ _).alloc (Nat.le_refl _) _).trans (hb1.mono (by simp))⟩
  · have hz : ((xs.length : Int) == 0) = false := beq_eq_false_iff_ne.2 (by omega)
    have hv := mt (val_zero_iff hg).1 h0
    have hna := num_natAbs neg xs
    have hneg := neg_num hg
    cases neg
    · have hp : ¬ num false xs < 0 := by simpa using hneg
      have HV : Hid (cmpI (num false xs) 0 = 1) := by show _ = _; unfold cmpI; rw [if_neg hp, if_pos (by omega)]
      clear h0 hv hna hneg hp
      go_enter Tryz.func49, Tryz.ntmps49
      go_wp2_with (go_at_call 76; refine (good_any false c _ A xs (by omega) (hx.alloc _)).mono ?_; rintro e w1 ⟨rfl, hb1⟩; obtain ⟨c0, c1, f0, f1⟩ := ((Blk.new w 41 #[.bool false, .slice A xs.length c]).below hb1 (by simp)).two)
      go_ret
      exact ⟨ret_int' HV.out.symm, ((Below.refl _ _).alloc (Nat.le_refl _) _).trans (hb1.mono (by simp))⟩
    · have hp : num true xs < 0 := by simpa using hneg
      have HV : Hid (cmpI (num true xs) 0 = -1) := by show _ = _; unfold cmpI; rw [if_pos hp]
      clear h0 hv hna hneg hp
      go_enter Tryz.func49, Tryz.ntmps49
      go_wp2_with (go_at_call 76; refine (good_any true c _ A xs (by omega) (hx.alloc _)).mono ?_; rintro e w1 ⟨rfl, hb1⟩; obtain ⟨c0, c1, f0, f1⟩ := ((Blk.new w 41 #[.bool true, .slice A xs.length c]).below hb1 (by simp)).two)
      go_ret
      exact ⟨ret_int' HV.out.symm, ((Below.refl _ _).alloc (Nat.le_refl _) _).trans (hb1.mono (by simp))⟩

end
end Go.Proofs.YtljndllhmdpjlaaGreatDoor
namespace Go.Proofs.YtljndllhmdpjlaaGreatDoor
open Go.RowKit

/-- The bytes of a slice can be read. -/
def Nums8 (w : World) (A : Option Addr) (xs : List Nat) : Prop :=
  (∀ k, nth xs k < 256) ∧ (0 < xs.length → ∃ b o, A = some ⟨b, o, none⟩ ∧ b < w.heap.size ∧ ∀ k, k < xs.length → w.cell? ⟨b, o + k, none⟩ = some (.int .u8 (nth xs k)))

/-- The cells of a row of uint8. -/
def rowOf8 (ys : List Nat) (j : Nat) : Value := .int .u8 (nth ys j)
/-- Block g is a row of n uint8, of which the first ones are ys, the others noughts. -/
def Row8 (w : World) (g n : Nat) (ys : List Nat) : Prop := w.rowIs g 5 n (rowOf8 ys) ∧ ys.length ≤ n

section
variable {w w' : World} {g n : Nat} {ys : List Nat}
theorem Row8.cell (h : Row8 w g n ys) {j : Nat} (hj : j < n) : w.cell? ⟨g, j, none⟩ = some (.int .u8 (nth ys j)) := h.1.cell hj
theorem Row8.frozen (h : Row8 w g n ys) (j : Nat) : w.frozen? ⟨g, j, none⟩ = false := h.1.frozen j
theorem Row8.lt (h : Row8 w g n ys) : g < w.heap.size := h.1.lt
theorem Row8.made (w : World) (n : Nat) : Row8 (w.alloc (.cells (madeCells #[.int .u8 0] n) 5)) w.heap.size n [] :=
  ⟨(World.rowIs_made w _ n _).congr fun i _ => by unfold rowOf8; rw [nth_nil], Nat.zero_le _⟩
theorem Row8.snoc (h : Row8 w g n ys) (v : Nat) (hn : ys.length < n) : Row8 (w.setCell ⟨g, ys.length, none⟩ (.int .u8 (v : Int))) g n (ys ++ [v]) :=
  ⟨(h.1.set ys.length _).congr fun i _ => by unfold rowOf8; rw [nth_snoc]; split <;> rfl, by simp; omega⟩
theorem Row8.snocInt (h : Row8 w g n ys) (v : Int) (h0 : 0 ≤ v) {k : Nat} (hk : ys.length = k) (hn : k < n) : Row8 (w.setCell ⟨g, k, none⟩ (.int .u8 v)) g n (ys ++ [v.toNat]) := by
  subst hk
  have e : v = ((v.toNat : Nat) : Int) := by omega
  have h1 := h.snoc v.toNat hn
  rw [← e] at h1
  exact h1
theorem Row8.set (h : Row8 w g n ys) (i v : Nat) (hi : i < ys.length) : Row8 (w.setCell ⟨g, i, none⟩ (.int .u8 (v : Int))) g n (ys.set i v) :=
  ⟨(h.1.set i _).congr fun j _ => by unfold rowOf8; rw [nth_set _ _ _ hi]; split <;> rfl, by simpa using h.2⟩
theorem Row8.setInt (h : Row8 w g n ys) (v : Int) (h0 : 0 ≤ v) {i : Nat} (hi : i < ys.length) : Row8 (w.setCell ⟨g, i, none⟩ (.int .u8 v)) g n (ys.set i v.toNat) := by
  have e : v = ((v.toNat : Nat) : Int) := by omega
  have h1 := h.set i v.toNat hi
  rw [← e] at h1
  exact h1
theorem Row8.of_block (h : Row8 w g n ys) (e : w'.heap[g]? = w.heap[g]?) : Row8 w' g n ys := ⟨h.1.of_block e, h.2⟩
theorem Row8.alloc (h : Row8 w g n ys) (o : Obj) : Row8 (w.alloc o) g n ys := ⟨h.1.alloc o, h.2⟩
theorem Row8.drew (h : Row8 w g n ys) : Row8 w.drew g n ys := h
theorem Row8.drewN (h : Row8 w g n ys) (k : Nat) : Row8 (w.drewN k) g n ys := h
theorem Row8.setOther (h : Row8 w g n ys) {a : Addr} (ha : g ≠ a.block) (v : Value) : Row8 (w.setCell a v) g n ys := ⟨h.1.setOther ha v, h.2⟩
theorem Row8.below {B : Nat} (h : Row8 w g n ys) (hb : Below B w w') (hg : g < B) : Row8 w' g n ys := h.of_block (hb.block g hg)
/-- A row that is filled is one with no noughts told apart. -/
theorem Row8.fill (h : Row8 w g n ys) : Row8 w g n (ys ++ List.replicate (n - ys.length) 0) := by
  refine ⟨h.1.congr fun i hi => ?_, by have := h.2; simp; omega⟩
  unfold rowOf8 nth
  by_cases h1 : i < ys.length
  · simp [List.getElem?_append_left h1]
  · simp [List.getElem?_append_right (show ys.length ≤ i by omega), List.getElem?_eq_none (show ys.length ≤ i by omega), List.getElem?_replicate]
    split <;> rfl
end

/-- A slice that a call made, which reads as xs: it begins at the head of a row of its own from block number base on. -/
def Own8 (w : World) (base : Nat) (A : Option Addr) (c : Nat) (xs : List Nat) : Prop :=
  w.ownsRow base 5 1 (.slice A xs.length c) xs.length (xs.map fun x : Nat => Value.int .u8 (x : Int)) ∧ ∀ x ∈ xs, x < 256

section
variable {w w' : World} {base : Nat} {A : Option Addr} {c : Nat} {xs : List Nat}
theorem nth_bound8 (h : ∀ x ∈ xs, x < 256) (k : Nat) : nth xs k < 256 := by
  unfold nth
  by_cases hk : k < xs.length
  · have := h _ (List.getElem_mem hk); simp only [List.getD, List.getElem?_eq_getElem hk, Option.getD_some]; omega
  · rw [getD_past xs k (by omega)]; simp
theorem Own8.nums (h : Own8 w base A c xs) : Nums8 w A xs := by
  refine ⟨nth_bound8 h.2, fun h0 => ?_⟩
  rcases h.1.2 with ⟨_, hn⟩ | ⟨g, cap, cur, hv, hg, hh, hnc, _, hsz, hcur⟩
  · omega
  · injection hv with hA _ hc
    subst hA
    refine ⟨g, 0, rfl, (Array.getElem?_eq_some_iff.1 hh).1, fun k hk => ?_⟩
    rw [Nat.zero_add, cell_of_row w g k cur _ (0, 0) hh]
    have e : cur[k]? = cur.toList[k]? := by simp
    have e2 : cur.toList[k]? = (cur.toList.take (xs.length * 1))[k]? := by rw [List.getElem?_take, if_pos (by omega)]
    rw [e, e2, hcur]
    simp [nth, hk]
theorem Own8.nil (w : World) (base : Nat) : Own8 w base none 0 [] := ⟨World.ownsRow_nil _ _ _ _, fun _ h => by cases h⟩
theorem Own8.of_row {g n : Nat} {ys : List Nat} (h : Row8 w g n ys) (hb : base ≤ g) (hc : n ≤ maxLen) (hx : xs.length ≤ n) (he : ∀ j, j < xs.length → nth ys j = nth xs j) (h64 : ∀ x ∈ xs, x < 256) : Own8 w base (some ⟨g, 0, none⟩) n xs := by
  obtain ⟨⟨cur, hh, hsz, hcell⟩, hle⟩ := h
  refine ⟨⟨by simp, .inr ⟨g, n, cur, rfl, hb, hh, hx, hc, by omega, ?_⟩⟩, h64⟩
  apply List.ext_getElem?
  intro j
  rw [List.getElem?_take]
  by_cases hj : j < xs.length
  · rw [if_pos (by omega)]
    have h1 := hcell j (by omega)
    rw [Array.getElem?_toList, h1]
    unfold rowOf8
    rw [he j hj]
    simp [nth, hj]
  · rw [if_neg (by omega), List.getElem?_eq_none (by simpa using Nat.le_of_not_lt hj)]
theorem Own8.kept {row : Option Nat} (h : Own8 w base A c xs) (hg : w.grownBy w' row) (hne : (Value.slice A xs.length c).ownBlock = none ∨ (Value.slice A xs.length c).ownBlock ≠ row) : Own8 w' base A c xs := ⟨h.1.kept hg hne, h.2⟩
theorem Own8.below {B : Nat} (h : Own8 w base A c xs) (hb : Below B w w') (hB : w.heap.size ≤ B) : Own8 w' base A c xs :=
  h.kept (row := none) ⟨hb.os, hb.tape, hb.output, hb.size, fun k hk _ => hb.block k (by omega)⟩ (by cases (Value.slice A xs.length c).ownBlock <;> simp)
theorem Own8.alloc (h : Own8 w base A c xs) (o : Obj) : Own8 (w.alloc o) base A c xs := ⟨h.1.alloc o, h.2⟩
theorem Own8.drew (h : Own8 w base A c xs) : Own8 w.drew base A c xs := h
theorem Own8.drewN (h : Own8 w base A c xs) (k : Nat) : Own8 (w.drewN k) base A c xs := h
theorem Own8.mono {b' : Nat} (h : Own8 w base A c xs) (hb : b' ≤ base) : Own8 w b' A c xs := by
  refine ⟨⟨h.1.1, ?_⟩, h.2⟩
  rcases h.1.2 with h2 | ⟨g, cap, cur, hv, hg, r⟩
  · exact .inl h2
  · exact .inr ⟨g, cap, cur, hv, by omega, r⟩
theorem Own8.setCell (h : Own8 w base A c xs) {p : Addr} (hp : ∀ q, A = some q → q.block ≠ p.block) (u : Value) : Own8 (w.setCell p u) base A c xs := by
  refine ⟨⟨h.1.1, ?_⟩, h.2⟩
  rcases h.1.2 with h2 | ⟨g, cap, cur, hv, hg, hh, r⟩
  · exact .inl h2
  · refine .inr ⟨g, cap, cur, hv, hg, ?_, r⟩
    rw [Below.heap_setCell _ _ _ _ (by injection hv with e1; exact hp _ e1)]
    exact hh
theorem Own8.setBelow (h : Own8 w base A c xs) {p : Addr} (hp : p.block < base) (u : Value) : Own8 (w.setCell p u) base A c xs :=
  ⟨ownsRow_setCell_below h.1 hp u, h.2⟩
theorem Own8.set2 (h : Own8 w base A c xs) {g : Nat} {t : TypeId} {x y : Value} (hb : Blk w g t #[x, y]) (ht : 5 ≠ t) (u v : Value) : Own8 ((w.setCell ⟨g, 0, none⟩ u).setCell ⟨g, 1, none⟩ v) base A c xs := by
  have hne : ∀ q, A = some q → q.block ≠ g := fun q hq e => by
    subst hq
    exact own_blk_ne h.1 hb ht (by simp [Value.ownBlock, e])
  exact (h.setCell hne u).setCell hne v
theorem Own8.ge (h : Own8 w base A c xs) : ∀ q, A = some q → base ≤ q.block ∧ q.block < w.heap.size := by
  intro q hq
  subst hq
  exact h.1.lt q.block rfl

theorem Nums8.keep (h : Nums8 w A xs) (hs : w.heap.size ≤ w'.heap.size) (hk : ∀ p : Addr, p.block < w.heap.size → w'.cell? p = w.cell? p) : Nums8 w' A xs :=
  ⟨h.1, fun h0 => by
    obtain ⟨b, o, rfl, hb, hc⟩ := h.2 h0
    exact ⟨b, o, rfl, by omega, fun k hk' => (hk _ hb).trans (hc k hk')⟩⟩
theorem Nums8.alloc (h : Nums8 w A xs) (o : Obj) : Nums8 (w.alloc o) A xs := h.keep (by simp) fun p hp => World.cell?_alloc_lt w o p hp
theorem Nums8.drew (h : Nums8 w A xs) : Nums8 w.drew A xs := h
theorem Nums8.drewN (h : Nums8 w A xs) (k : Nat) : Nums8 (w.drewN k) A xs := h
theorem Nums8.below {B : Nat} (h : Nums8 w A xs) (hb : Below B w w') (hB : w.heap.size ≤ B) : Nums8 w' A xs := h.keep hb.size fun _ hp => hb.cell (by omega)
/-- A store into a block that the slice does not lie in. -/
theorem Nums8.setCell (h : Nums8 w A xs) {p : Addr} (hp : ∀ q, A = some q → q.block ≠ p.block) (u : Value) : Nums8 (w.setCell p u) A xs :=
  ⟨h.1, fun h0 => by
    obtain ⟨b, o, rfl, hb, hc⟩ := h.2 h0
    refine ⟨b, o, rfl, by simpa [World.setCell] using hb, fun k hk' => ?_⟩
    rw [World.cell?_setCell_other _ _ _ _ (fun e => hp _ rfl (by rw [e]))]
    exact hc k hk'⟩
end

/-! ### copy into a new row -/
theorem copy_nums8 {w : World} (g n dCap c : Nat) (A : Option Addr) (xs : List Nat) (hrow : Row8 w g n []) (hx : Nums8 w A xs) :
    ∃ w', (Builtin.copy_ #[84, 84] 3 #[.slice (some ⟨g, 0, none⟩) n dCap, .slice A xs.length c]).run Tryz.prog w = .ok (goInt (xs.take n).length) w' ∧
      Row8 w' g n (xs.take n) ∧ w.grownBy w' (some g) ∧ w'.heap.size = w.heap.size := by
  have hsz : (Tryz.prog.info? 5).map (·.size) = some 1 := by kernel_rfl
  by_cases h0 : (xs.take n).length = 0
  · have hrun := run_copy_none (P := Tryz.prog) w 84 84 3 5 (some ⟨g, 0, none⟩) A n dCap xs.length c Tryz.underlying84 hsz (by rw [List.length_take] at h0; rw [Nat.min_comm] at h0; exact h0)
    have hk : xs.take n = [] := List.eq_nil_of_length_eq_zero h0
    exact ⟨w, by rw [hrun, h0]; rfl, by rw [hk]; exact hrow, World.grownBy.refl w _, rfl⟩
  · have hl : (xs.take n).length = min n xs.length := List.length_take
    obtain ⟨b, off, rfl, hb, hc⟩ := hx.2 (by omega)
    obtain ⟨cur, hg, hsz2, hcur⟩ := hrow.1
    have hrun := run_copy_row (P := Tryz.prog) w 84 84 3 5 g 0 n dCap ⟨b, off, none⟩ xs.length c cur _ ((xs.take n).map fun x : Nat => Value.int .u8 (x : Int)) Tryz.underlying84 hsz hg
      (by rw [List.length_map, hl, Nat.min_comm]) (fun j v hj => ?_) (by rw [List.length_map, hl, hsz2]; omega) (fun v hv => ?_)
    · refine ⟨_, hrun.trans (by rw [List.length_map]), ⟨⟨_, setRow_heap w g _ _ _ _ hg, ?_, fun i hi => ?_⟩, by rw [hl]; omega⟩, ⟨rfl, rfl, rfl, by simp [World.setRow], fun k hk hne => setRow_other w g k _ (fun e => hne (by rw [e]))⟩, by simp [World.setRow]⟩
      · simp [hsz2]; omega
      · simp only [List.take_zero, List.nil_append, Nat.zero_add, List.getElem?_toArray]
        by_cases hik : i < (xs.take n).length
        · rw [List.getElem?_append_left (by simpa using hik), List.getElem?_map, List.getElem?_eq_getElem hik]
          unfold rowOf8 nth
          rw [List.getD, List.getElem?_eq_getElem hik]; rfl
        · rw [List.getElem?_append_right (by simpa using hik), List.getElem?_drop]
          rw [List.length_map]
          have e2 : (xs.take n).length + (i - (xs.take n).length) = i := by omega
          rw [e2, Array.getElem?_toList, hcur i hi]
          unfold rowOf8
          rw [nth_nil, nth_past _ _ (by omega)]
    · rw [List.getElem?_map, List.getElem?_take] at hj
      split at hj
      · by_cases hjx : j < xs.length
        · rw [List.getElem?_eq_getElem hjx] at hj
          simp only [Option.map_some, Option.some.injEq] at hj
          rw [← hj]
          have h2 := hc j hjx
          rw [show (⟨b, off, none⟩ : Addr).add j = ⟨b, off + j, none⟩ from by unfold Addr.add; split <;> simp_all, h2]
          simp [nth, hjx]
        · rw [List.getElem?_eq_none (by omega)] at hj; simp at hj
      · simp at hj
    · rw [List.mem_map] at hv
      obtain ⟨x, _, rfl⟩ := hv
      rfl

/-! ### append of new words to a slice of the call's own -/
theorem infoParts8 : ∃ i, Tryz.prog.info? 5 = some i ∧ i.zero = some (.int .u8 0) ∧ i.size = 1 ∧ i.bytes = 1 := by
  obtain ⟨i, hi, h⟩ := Option.map_eq_some_iff.1 (show (Tryz.prog.info? 5).map (fun i => (i.zero, i.size, i.bytes)) = some (some (.int .u8 0), 1, 1) from by kernel_rfl)
  simp only [Prod.mk.injEq] at h
  exact ⟨i, hi, h.1, h.2.1, h.2.2⟩
theorem Own8.of_owns {w : World} {base n : Nat} {v : Value} {xs : List Nat} (h : w.ownsRow base 5 1 v n (xs.map fun x : Nat => Value.int .u8 (x : Int))) (h64 : ∀ x ∈ xs, x < 256) :
    ∃ A c, v = .slice A xs.length c ∧ Own8 w base A c xs := by
  have hn : xs.length = n := by simpa using h.1
  subst hn
  rcases h.2 with ⟨rfl, hz⟩ | ⟨g, cap, cur, rfl, r⟩
  · exact ⟨none, 0, by rw [hz], by rw [List.eq_nil_of_length_eq_zero hz]; exact Own8.nil _ _⟩
  · exact ⟨some ⟨g, 0, none⟩, cap, rfl, h, h64⟩
theorem wpList_app8 {w : World} {ops : Array Oper} {rest : List Oper} {o : Oper} {a : Act} {Q : Exit → Act → World → Prop} (hgd : o.guard = none) (s x : Operand)
    (ho : o.op = .call { callee := .builtin .append, args := #[s, x], argTypes := #[84, 84] }) (base : Nat) (A : Option Addr) (c : Nat) (xs : List Nat) (hs : a.eval s = .slice A xs.length c)
    (hown : Own8 w base A c xs) (ys : List Nat) (ad : Addr) (m cc : Nat) (hx : a.eval x = .slice (some ad) m cc) (hm : ys.length = m)
    (hnews : ∀ j u, (ys.map fun x : Nat => Value.int .u8 (x : Int))[j]? = some u → w.cell? (ad.add j) = some u) (h64 : ∀ x ∈ ys, x < 256) (hl : xs.length + ys.length ≤ 17592186044416) (hbase : base ≤ w.heap.size)
    (h : ∀ A' c' w', Own8 w' base A' c' (xs ++ ys) → w.grownBy w' (Value.slice A xs.length c).ownBlock → wpList Tryz.prog ops Q rest (a.put o.dst (.slice A' (xs ++ ys).length c')) w') : wpList Tryz.prog ops Q (o :: rest) a w := by
  obtain ⟨i, hi, hz, hsz, hby⟩ := infoParts8
  subst hm
  refine wpList_append_own w hgd s x _ ho base 5 i _ 1 1 Tryz.underlying84 hi hz hsz hby rfl (by decide) _ _ _ hs hown.1 ad ys.length cc (ys.map fun x : Nat => Value.int .u8 (x : Int)) hx (by simp) hnews
    (fun u hu => by rw [List.mem_map] at hu; obtain ⟨y, _, rfl⟩ := hu; rfl) (by unfold maxLen; omega) (by omega) hbase ?_
  intro v' w' hown' hg' _
  rw [← List.map_append] at hown'
  obtain ⟨A', c', hv, ho'⟩ := Own8.of_owns hown' (fun y hy => by
    rcases List.mem_append.1 hy with h1 | h1
    · exact hown.2 y h1
    · exact h64 y h1)
  rw [hv]
  exact h A' c' w' ho' hg'
theorem Below.own8 {w0 w w' : World} {base : Nat} {A : Option Addr} {c : Nat} {xs : List Nat} (hb : Below base w0 w) (hown : Own8 w base A c xs) (hbase : base ≤ w.heap.size) (hg : w.grownBy w' (Value.slice A xs.length c).ownBlock) : Below base w0 w' :=
  hb.grown hg hbase (fun k hk => by
    match A, hown, hk with
    | some q, hown, hk =>
      have h1 := hown.ge q rfl
      simp only [Value.ownBlock, Option.some.injEq] at hk
      omega
    | none, _, hk => simp [Value.ownBlock] at hk)
/-- The first k words of a slice of one's own. -/
theorem Own8.cut {w : World} {base : Nat} {A : Option Addr} {c : Nat} {xs : List Nat} (h : Own8 w base A c xs) (hc : xs ≠ []) {k : Nat} (hk : k ≤ xs.length) : Own8 w base A c (xs.take k) := by
  refine ⟨⟨by simp, ?_⟩, fun x hx => h.2 x (List.mem_of_mem_take hx)⟩
  rcases h.1.2 with ⟨_, h0⟩ | ⟨g, cap, cur, hv, hg, hh, hle, hcap, hsz, hcur⟩
  · exact absurd (List.eq_nil_of_length_eq_zero h0) hc
  · injection hv with hA hn hcc
    subst hA; subst hcc
    have hkl : (xs.take k).length = k := by rw [List.length_take]; omega
    refine .inr ⟨g, c, cur, rfl, hg, hh, by omega, hcap, hsz, ?_⟩
    rw [hkl, List.map_take, ← hcur, List.take_take, Nat.mul_one, Nat.mul_one, Nat.min_eq_left hk]

theorem Row8.nums {w' : World} {g len : Nat} {zs : List Nat} (h : Row8 w' g len zs) (hz : zs.length = len) (h64 : ∀ x ∈ zs, x < 256) : Nums8 w' (some ⟨g, 0, none⟩) zs :=
  ⟨nth_bound8 h64, fun _ => ⟨g, 0, rfl, h.lt, fun k hk => by rw [Nat.zero_add]; exact h.cell (by omega)⟩⟩

theorem info8 : (Tryz.prog.info? 5).map (fun i => (i.zero, i.size, i.bytes)) = some (some (.int .u8 0), 1, 1) := by kernel_rfl
theorem make8 (n : Nat) (h : n ≤ 35184372088832) : ∀ w : World, (Instr.makeSlice 84 (.int .i64 (n : Int)) (.int .i64 (n : Int))).run Tryz.prog w = .ok (.slice (some ⟨w.heap.size, 0, none⟩) n n) (w.alloc (.cells (madeCells #[.int .u8 0] n) 5)) :=
  fun w => run_make_row' _ _ _ 1 Tryz.underlying84 info8 rfl _ _ n (by omega) (by omega) w
end Go.Proofs.YtljndllhmdpjlaaGreatDoor
namespace Go.Proofs.YtljndllhmdpjlaaGreatDoor

/-- The decimal digits of a number, the lowest first. -/
@[irreducible] def tens (i : Int) : List Nat := digs 10 i.natAbs
theorem tens_eq (i : Int) : tens i = digs 10 i.natAbs := by unfold tens; rfl
theorem tens_small (i : Int) : small 10 (tens i) := by rw [tens_eq]; exact small_digs (by decide) _
theorem val_tens (i : Int) : val 10 (tens i) = i.natAbs := by rw [tens_eq]; exact val_digs (by decide) _
theorem tens_zero : tens 0 = [] := by rw [tens_eq]; rfl

theorem getD_val {b : Nat} (hb : 0 < b) : ∀ {l : List Nat}, small b l → ∀ k, l.getD k 0 = val b l / b ^ k % b
  | [], _, k => by simp [val]
  | x :: l, h, 0 => by
    obtain ⟨h1, _⟩ := small_cons.1 h
    simp [val, Nat.add_mul_mod_self_left, Nat.mod_eq_of_lt h1]
  | x :: l, h, k + 1 => by
    obtain ⟨h1, h2⟩ := small_cons.1 h
    have e : val b (x :: l) / b ^ (k + 1) = val b l / b ^ k := by
      rw [Nat.pow_succ, Nat.mul_comm, ← Nat.div_div_eq_div_mul]
      congr 1
      simp only [val]
      rw [Nat.add_mul_div_left _ _ hb, Nat.div_eq_of_lt h1, Nat.zero_add]
    rw [e, ← getD_val hb h2 k]
    simp
theorem nth_val {b : Nat} (hb : 0 < b) {l : List Nat} (h : small b l) (k : Nat) : nth l k = ((val b l / b ^ k % b : Nat) : Int) := by
  unfold nth; rw [getD_val hb h k]
theorem nth_tens (i : Int) (k : Nat) : nth (tens i) k = ((i.natAbs / 10 ^ k % 10 : Nat) : Int) := by
  rw [nth_val (by decide) (tens_small i), val_tens]

/-- So many digits of a number, the lowest first, noughts ahead too. -/
def pad : Nat → Nat → List Nat
  | 0, _ => []
  | k + 1, n => n % 10 :: pad k (n / 10)
theorem pad_length : ∀ k n, (pad k n).length = k
  | 0, _ => rfl
  | k + 1, n => by simp [pad, pad_length k]
theorem pad_small : ∀ k n, small 10 (pad k n)
  | 0, _ => small_nil
  | k + 1, n => small_cons.2 ⟨Nat.mod_lt _ (by decide), pad_small k _⟩
theorem pad_val : ∀ k n, val 10 (pad k n) = n % 10 ^ k
  | 0, n => by simp [pad, val, Nat.mod_one]
  | k + 1, n => by
    rw [pad, val, pad_val k, Nat.pow_succ, Nat.mul_comm (10 ^ k) 10, Nat.mod_mul]
theorem pad_snoc : ∀ k n, pad (k + 1) n = pad k n ++ [n / 10 ^ k % 10]
  | 0, n => by simp [pad]
  | k + 1, n => by
    rw [pad, pad_snoc k, pad, List.cons_append, Nat.div_div_eq_div_mul, Nat.pow_succ, Nat.mul_comm 10]
theorem B18_pow (k : Nat) : B18 ^ k = 10 ^ (18 * k) := by
  rw [Nat.pow_mul]; rfl
theorem chunk_div (V k j : Nat) : V / 10 ^ (18 * k + j) = V / B18 ^ k / 10 ^ j := by
  rw [B18_pow, Nat.div_div_eq_div_mul, Nat.pow_add]
theorem mod_div_pow (M j : Nat) (hj : j ≤ 18) : M % B18 / 10 ^ j = M / 10 ^ j % 10 ^ (18 - j) := by
  have e : B18 = 10 ^ j * 10 ^ (18 - j) := by rw [← Nat.pow_add, show j + (18 - j) = 18 from by omega]; rfl
  rw [e, Nat.mod_mul_right_div_self]
theorem chunk_digit (M j : Nat) (hj : j < 18) : M % B18 / 10 ^ j % 10 = M / 10 ^ j % 10 := by
  rw [mod_div_pow M j (by omega)]
  refine Nat.mod_mod_of_dvd _ ?_
  obtain ⟨m, hm⟩ : ∃ m, 18 - j = m + 1 := ⟨17 - j, by omega⟩
  rw [hm, Nat.pow_succ]
  exact Nat.dvd_mul_left _ _
/-- The digit of a row of limbs at a place. -/
theorem limb_digit {xs : List Nat} (h : small B18 xs) (k j : Nat) (hj : j < 18) : xs.getD k 0 / 10 ^ j % 10 = val B18 xs / 10 ^ (18 * k + j) % 10 := by
  rw [getD_val (by unfold B18; omega) h k, chunk_div, chunk_digit _ j hj]
theorem val_lt18 {xs : List Nat} (h : small B18 xs) : val B18 xs < 10 ^ (18 * xs.length) := by
  rw [← B18_pow]; exact val_lt h
theorem digs_pad {n k : Nat} (h : n < 10 ^ k) : digs 10 (val 10 (pad k n)) = digs 10 n := by
  rw [pad_val, Nat.mod_eq_of_lt h]
theorem digs_peel {b : Nat} (hb : 2 ≤ b) (n m : Nat) (h : n / b ^ m ≠ 0) : digs b (n / b ^ m) = n / b ^ m % b :: digs b (n / b ^ (m + 1)) := by
  rw [digs_step hb h, Nat.div_div_eq_div_mul, Nat.pow_succ]
theorem tens_le (i : Int) (m : Nat) : (tens i).length ≤ 18 * m ↔ i.natAbs / B18 ^ m = 0 := by
  have h0 : 0 < B18 ^ m := Nat.pow_pos (by unfold B18; omega)
  rw [tens_eq, digs_length_le (by decide), ← B18_pow]
  constructor
  · intro h; exact Nat.div_eq_of_lt h
  · intro h
    rcases Nat.lt_or_ge i.natAbs (B18 ^ m) with h1 | h1
    · exact h1
    · have := Nat.div_pos h1 h0; omega
/-- A limb is built from its digits, the highest first. -/
theorem limb_step (M k : Nat) (hk : k < 18) : M % B18 / 10 ^ k = 10 * (M % B18 / 10 ^ (k + 1)) + M / 10 ^ k % 10 := by
  rw [← chunk_digit M k hk, Nat.pow_succ, ← Nat.div_div_eq_div_mul]
  omega
end Go.Proofs.YtljndllhmdpjlaaGreatDoor
namespace Go.Proofs.YtljndllhmdpjlaaGreatDoor
open Go.RowKit
theorem limbs_length {i : Int} (h : i.natAbs < B18 ^ 30) : (limbs i).length ≤ 30 := by
  rw [limbs_eq]; exact (digs_length_le B18_two _ _).2 h
theorem tens_len_of {i : Int} {k : Nat} (h : i.natAbs < B18 ^ k) : (tens i).length ≤ 18 * k := by
  rw [tens_eq]; exact (digs_length_le (by decide) _ _).2 (by rw [← B18_pow]; exact h)
theorem tens_length {i : Int} (h : i.natAbs < B18 ^ 30) : (tens i).length ≤ 540 := tens_len_of h
end Go.Proofs.YtljndllhmdpjlaaGreatDoor
namespace Go.Proofs.YtljndllhmdpjlaaGreatDoor
open Go.RowKit
theorem Per.nums {X : Nat → Prop} {w : World} {A : Option Addr} {xs : List Nat} (h : Nums w A xs) (hx : ∀ q, A = some q → ¬ X q.block) : Per X w (fun b => Nums b A xs) := fun b hb =>
  ⟨h.1, fun h0 => by
    obtain ⟨g, o, rfl, hg, hc⟩ := h.2 h0
    exact ⟨g, o, rfl, Nat.lt_of_lt_of_le hg hb.size, fun k hk => (hb.cell (p := ⟨g, o + k, none⟩) hg (hx ⟨g, o, none⟩ rfl)).trans (hc k hk)⟩⟩
theorem Per.nums0 {w : World} {A : Option Addr} {xs : List Nat} (h : Nums w A xs) : Per No w (fun b => Nums b A xs) := Per.nums h (fun _ _ => id)
theorem Per.own {X : Nat → Prop} {w : World} {base : Nat} {A : Option Addr} {c : Nat} {xs : List Nat} (h : Own w base A c xs) (hx : ∀ k, X k → k < base) : Per X w (fun b => Nums b A xs) := Per.nums h.nums (fun q hq e => by have := hx _ e; have := (h.ge q hq).1; omega)
theorem good_is {n : Bool} {xs : List Nat} (h : goodB n xs = true) : ∃ i : Int, n = decide (i < 0) ∧ xs = limbs i ∧ i.natAbs < B18 ^ 30 := by
  refine ⟨num n xs, ?_, (limbs_num h).symm, num_lt h⟩
  obtain ⟨hs, hn, _, h0⟩ := good_parts h
  rw [num_eq, sgn_neg]
  cases n
  · rfl
  · have hne : val B18 xs ≠ 0 := val_ne_zero B18_two hn (fun e => by have := h0 e; cases this)
    simp [hne]
/-- A number in limbs, as a value. -/
def big (i : Int) (A : Option Addr) (c : Nat) : Value := .agg #[.bool (decide (i < 0)), .slice A (limbs i).length c]
theorem goodI {i : Int} (A : Option Addr) (c : Nat) (w : World) (hi : i.natAbs < B18 ^ 30) (hx : Nums w A (limbs i)) : Calls Tryz.prog 76 #[.agg #[.bool (decide (i < 0)), .slice A (limbs i).length c]] w fun e w' => e = .returned (.bool true) ∧ Below w.heap.size w w' := by
  have h := good_any (decide (i < 0)) c w A (limbs i) (by have := limbs_length hi; omega) hx
  rwa [good_limbs hi] at h
end Go.Proofs.YtljndllhmdpjlaaGreatDoor
namespace Go.Proofs.YtljndllhmdpjlaaGreatDoor
open Go.RowKit

/-- Slices of one's own have room. -/
theorem Own8.room {w : World} {base : Nat} {A : Option Addr} {c : Nat} {xs : List Nat} (h : Own8 w base A c xs) : xs.length ≤ c := by
  rcases h.1.2 with ⟨hv, h0⟩ | ⟨g, cap, cur, hv, _, _, hle, _⟩
  · omega
  · injection hv; omega
set_option maxRecDepth 100000 in
set_option maxHeartbeats 1000000 in
theorem rcut_any (A : Option Addr) (c : Nat) (ds : List Nat) (w : World) (hx : Nums8 w A ds) (hs : small 10 ds) (hc : ds.length ≤ c) (hl : ds.length ≤ 9223372036854775807) :
    Calls Tryz.prog 110 #[.slice A ds.length c] w fun e w' => e = .returned (.slice A (digs 10 (val 10 ds)).length c) ∧ digs 10 (val 10 ds) = ds.take (digs 10 (val 10 ds)).length ∧ (digs 10 (val 10 ds)).length ≤ ds.length ∧ w' = w := by
  go_enter Tryz.func110, Tryz.ntmps110
  go_wp2
  go_loop [3] (fun v => ∃ k : Nat, k ≤ ds.length ∧ v = .int .i64 k ∧ ∀ j, k ≤ j → nth ds j = 0) (fun v => (intOf v).toNat)
  case atStart => exact ⟨ds.length, Nat.le_refl _, rfl, fun j hj => nth_past ds j hj⟩
  case round =>
    obtain ⟨k, hk, rfl, hz⟩ := hrel
    have HZ := Lib.hid hz; clear hz
    have hend : (k = 0 ∨ nth ds (k - 1) ≠ 0) → ds.take k = digs 10 (val 10 ds) := fun h =>
      strip_eq (by decide) hs hk (fun j hj _ => by have := HZ.out j (by omega); unfold nth at this; omega) (fun h0 => by
        rcases h with h | h
        · omega
        · unfold nth at h; omega)
    have hlen : (ds.take k).length = k := by rw [List.length_take]; omega
    by_cases hk0 : k = 0
    · have he := hend (Or.inl hk0)
      subst hk0
      have HE := Lib.hid he
      clear hend he
      go_wp2
      go_ret
      refine ⟨?_, ?_, ?_, rfl⟩
      · rw [← HE.out]; rfl
      · rw [← HE.out]; rfl
      · rw [← HE.out]; simp
    · obtain ⟨m, rfl⟩ : ∃ m, k = m + 1 := ⟨k - 1, by omega⟩
      obtain ⟨b, o, rfl, hb, hcell'⟩ := hx.2 (by omega)
      have hcell := hcell' m (by omega)
      have hm1 : (m : Int) < (ds.length : Int) := by omega
      have hmc : m + 1 ≤ c := by omega
      clear hcell'
      by_cases hl0 : nth ds m = 0
      · have hb0 : (nth ds m == 0) = true := beq_iff_eq.2 hl0
        have H0 := Lib.hid hl0
        clear hl0 hend
        go_wp2
        go_round
        case rel => exact ⟨m, by omega, by go_num, fun j hj => by
          by_cases e : j = m
          · rw [e]; exact H0.out
          · exact HZ.out j (by omega)⟩
        case measure => simp [intOf]
      · have hb0 : (nth ds m == 0) = false := beq_eq_false_iff_ne.2 hl0
        have he := hend (Or.inr (by rw [Nat.add_sub_cancel]; exact hl0))
        have HE := Lib.hid he; have HL := Lib.hid hlen
        clear hend he hl0 hlen
        go_wp2
        go_ret
        refine ⟨?_, ?_, ?_, rfl⟩
        · rw [← HE.out, HL.out]; rfl
        · rw [← HE.out, HL.out]
        · rw [← HE.out, HL.out]; exact hk
end Go.Proofs.YtljndllhmdpjlaaGreatDoor
namespace Go.Proofs.YtljndllhmdpjlaaGreatDoor
open Go.RowKit

/-- What a call leaves that answers a number in digits. -/
def RetNum (W : World) (i : Int) (e : Ending) (w' : World) : Prop :=
  ∃ A c, e = .returned (.agg #[.bool (decide (i < 0)), .slice A (tens i).length c]) ∧ Own8 w' W.heap.size A c (tens i) ∧ Below W.heap.size W w'
theorem cells_one8 (w : World) (x : Int) (a : Nat) (hx : x = (a : Int)) :
    ∀ j u, ([a].map fun x : Nat => Value.int .u8 (x : Int))[j]? = some u → (w.alloc (.cells #[.int .u8 x] 5)).cell? ((⟨w.heap.size, 0, none⟩ : Addr).add j) = some u := by
  subst hx
  intro j u hj
  match j, hj with
  | 0, hj => simp at hj; subst hj; simp [Addr.add]
theorem wrap8 (u : Int) (h : 0 ≤ u) (h9 : u < 256) : IntKind.u8.wrap u = u := by
  simp [IntKind.wrap, IntKind.signed, IntKind.bits]; omega
theorem digs10_step {u : Int} (h : 0 < u) : digs 10 u.toNat = (u % 10).toNat :: digs 10 (u / 10).toNat := by
  rw [digs_step (by decide) (by omega : u.toNat ≠ 0)]
  have e1 : (u % 10).toNat = u.toNat % 10 := by omega
  have e2 : (u / 10).toNat = u.toNat / 10 := by omega
  rw [e1, e2]
theorem u64_abs_neg (n : Int) (h0 : -9223372036854775808 ≤ n) (hn : n < 0) : IntKind.u64.wrap (-IntKind.u64.wrap n) = ((n.natAbs : Nat) : Int) := by
  simp [IntKind.wrap, IntKind.signed, IntKind.bits]; omega
theorem u64_abs_pos (n : Int) (h1 : n ≤ 9223372036854775807) (hn : 0 ≤ n) : IntKind.u64.wrap n = ((n.natAbs : Nat) : Int) := by
  simp [IntKind.wrap, IntKind.signed, IntKind.bits]; omega

set_option maxRecDepth 100000
set_option maxHeartbeats 1000000 in
theorem rint_any (n : Int) (w : World) (h0 : -9223372036854775808 ≤ n) (h1 : n ≤ 9223372036854775807) :
    Calls Tryz.prog 119 #[.int .i64 n] w (RetNum w n) := by
  have hm64 : n.natAbs ≤ 9223372036854775808 := by omega
  by_cases hn : n < 0
  all_goals
    first | have hw := u64_abs_neg n h0 hn | have hw := u64_abs_pos n h1 (by omega)
    obtain ⟨m, hm⟩ : ∃ m, m = n.natAbs := ⟨_, rfl⟩
    rw [← hm] at hw hm64
    have HM := Lib.hid hm
    clear hm
    go_enter Tryz.func119, Tryz.ntmps119
    go_wp2_with fail
    go_loopw [3, 4] (fun uv dv wr => ∃ (u : Int) (A' : Option Addr) (c' : Nat) (zs : List Nat), uv = .int .u64 u ∧ 0 ≤ u ∧ u ≤ 9223372036854775808 ∧ dv = .slice A' zs.length c' ∧ Own8 wr (w.heap.size + 1) A' c' zs ∧ zs.length + u.toNat ≤ 17592186044416 + 9223372036854775808 ∧ small 10 zs ∧
        Hid (zs ++ digs 10 u.toNat = digs 10 m) ∧ Below (w.heap.size + 1) (w.alloc (.cells #[.bool false, .slice none 0 0] 86)) wr) (fun uv _ _ => (intOf uv).toNat)
    case atStart => exact ⟨(m : Int), none, 0, [], rfl, by omega, by omega, rfl, Own8.nil _ _, by simp; omega, small_nil, rfl, Below.refl _ _⟩
    case round =>
      obtain ⟨u, A', c', zs, rfl, hu0, hu1, rfl, hown, hzl, hzs, HZ, hbel⟩ := hrel
      have hlen : zs.length ≤ 20 := by
        have h1 : (digs 10 m).length ≤ 20 := (digs_length_le (by decide) m 20).2 (Nat.lt_of_le_of_lt hm64 (by decide))
        have h2 := HZ.out
        rw [← h2, List.length_append] at h1; omega
      have R1 := (Blk.new w 86 #[.bool false, .slice none 0 0]).below hbel (by omega)
      have hsz := hbel.size
      simp only [World.size_alloc] at hsz
      by_cases hu : 0 < u
      · have hd := digs10_step hu
        have hw8 := wrap8 (u % 10) (by omega) (by omega)
        have e1 : u % 10 = (((u % 10).toNat : Nat) : Int) := by omega
        have HC := Lib.hid (cells_one8 wr _ _ e1)
        have H8 : Hid (∀ x ∈ [(u % 10).toNat], x < 256) := by intro x hx'; simp only [List.mem_cons, List.not_mem_nil, or_false] at hx'; omega
        have HN : Hid (zs.length + [(u % 10).toNat].length ≤ 17592186044416) := by show zs.length + 1 ≤ _; omega
        have HD := Lib.hid hd
        clear e1 hd hzl
        go_wp2_with (at_builtin; go_loud (refine wpList_app8 rfl (.tmp 13) (.tmp 17) rfl (w.heap.size + 1) A' c' zs rfl (hown.alloc _) [(u % 10).toNat] ⟨wr.heap.size, 0, none⟩ 1 1 rfl rfl (by exact HC.out) H8.out HN.out (by simp; omega) (fun A2 c2 w2 hown2 hg2 => ?_)))
        go_roundw
        case rel => exact ⟨u / 10, A2, c2, zs ++ [(u % 10).toNat], by go_num, by omega, by omega, by simp, hown2, by simp; omega,
          small_append.2 ⟨hzs, by intro y hy; simp only [List.mem_cons, List.not_mem_nil, or_false] at hy; omega⟩, by show _ = _; rw [List.append_assoc, List.singleton_append, ← HD.out]; exact HZ.out, Below.own8 (hbel.alloc (by simpa using hsz) _) (hown.alloc _) (by simp; omega) hg2⟩
        case measure => simp [intOf]; omega
      · obtain rfl : u = 0 := by omega
        have hz : zs = tens n := by
          have := HZ.out
          rw [show (0 : Int).toNat = 0 from rfl, digs_zero, List.append_nil] at this
          rw [this, tens_eq, HM.out]
        obtain ⟨r0, r1, r2, r3⟩ := R1.two
        subst hz
        clear hzl HZ
        go_wp2_with fail
        refine bodyPost_ret (v := .agg #[.bool (decide (n < 0)), .slice A' (tens n).length c']) (by simp [results, Tryz.results119, go_sem, r0, r1, hn]) rfl ?_
        exact ⟨A', c', rfl, ((hown.setBelow (by show w.heap.size < w.heap.size + 1; omega) _).setBelow (by show w.heap.size < w.heap.size + 1; omega) _).mono (by omega),
          (((Below.refl _ _).alloc (Nat.le_refl _) _).trans (hbel.mono (by omega))).setCell (Nat.le_refl _) _ |>.setCell (Nat.le_refl _) _⟩
end Go.Proofs.YtljndllhmdpjlaaGreatDoor
namespace Go.Proofs.YtljndllhmdpjlaaGreatDoor
open Go.RowKit

theorem rcut_long (base : Nat) (A : Option Addr) (c : Nat) (ds : List Nat) (i : Int) (w : World) (hown : Own8 w base A c ds) (hs : small 10 ds) (hv : val 10 ds = i.natAbs) (hl : ds.length ≤ 9223372036854775807) :
    Calls Tryz.prog 110 #[.slice A ds.length c] w fun e w' => e = .returned (.slice A (tens i).length c) ∧ Own8 w base A c (tens i) ∧ w = w' := by
  refine (rcut_any A c ds w hown.nums hs hown.room hl).mono fun e w' h => ?_
  obtain ⟨rfl, h2, h3, rfl⟩ := h
  rw [hv, ← tens_eq] at h2 h3 ⊢
  refine ⟨rfl, ?_, rfl⟩
  by_cases h0 : ds = []
  · subst h0
    have : tens i = [] := List.eq_nil_of_length_eq_zero (by simpa using h3)
    rw [this]; exact hown
  · rw [h2]; exact hown.cut h0 h3
theorem rcut_tens (base : Nat) (A : Option Addr) (c : Nat) (ds : List Nat) (i : Int) (w : World) (hown : Own8 w base A c ds) (hs : small 10 ds) (hv : val 10 ds = i.natAbs) (hl : ds.length ≤ 1048576) :
    Calls Tryz.prog 110 #[.slice A ds.length c] w fun e w' => e = .returned (.slice A (tens i).length c) ∧ Own8 w base A c (tens i) ∧ w = w' := rcut_long base A c ds i w hown hs hv (by omega)
theorem of_step {xs : List Nat} (h : small B18 xs) {k j : Nat} (hj : j < 18) {l : Int} (hl : l = ((xs.getD k 0 / 10 ^ j : Nat) : Int)) :
    pad (18 * k + j) (val B18 xs) ++ [(l % 10).toNat] = pad (18 * k + (j + 1)) (val B18 xs) ∧ l / 10 = ((xs.getD k 0 / 10 ^ (j + 1) : Nat) : Int) := by
  have h1 := limb_digit h k j hj
  have h2 := pad_snoc (18 * k + j) (val B18 xs)
  rw [← h1] at h2
  have h3 : xs.getD k 0 / 10 ^ (j + 1) = xs.getD k 0 / 10 ^ j / 10 := by rw [Nat.pow_succ, Nat.div_div_eq_div_mul]
  subst hl
  refine ⟨?_, by rw [h3]; omega⟩
  rw [show 18 * k + (j + 1) = 18 * k + j + 1 from by omega, h2]
  congr 2
theorem limb_zero (xs : List Nat) (k : Nat) : nth xs k = ((xs.getD k 0 / 10 ^ 0 : Nat) : Int) := by unfold nth; simp

set_option maxRecDepth 100000
set_option maxHeartbeats 1000000 in
theorem rof_any (n1 : Bool) (A : Option Addr) (c : Nat) (xs : List Nat) (w : World) (hx : Nums w A xs) (hg : goodB n1 xs = true) :
    Calls Tryz.prog 78 #[.agg #[.bool n1, .slice A xs.length c]] w (RetNum w (num n1 xs)) := by
  obtain ⟨hs, hn, hl, _⟩ := good_parts hg
  have HS := Lib.hid hs
  have HN := Lib.hid (neg_num hg)
  have HA := Lib.hid (num_natAbs n1 xs)
  clear hs hn hg
  generalize num n1 xs = i at *
  go_enter Tryz.func78, Tryz.ntmps78
  go_wp2_with fail
  go_loopw [3, 4, 5, 6] (fun dv iv _ _ wr => ∃ (k : Nat) (A' : Option Addr) (c' : Nat) (zs : List Nat), k ≤ xs.length ∧ iv = .int .i64 k ∧ dv = .slice A' zs.length c' ∧ zs.length ≤ 18 * k ∧ Own8 wr (w.heap.size + 2) A' c' zs ∧
      Hid (zs = pad (18 * k) (val B18 xs)) ∧ Below (w.heap.size + 2) ((w.alloc (.cells #[.bool n1, .slice A xs.length c] 41)).alloc (.cells #[.bool false, .slice none 0 0] 86)) wr) (fun _ iv _ _ _ => xs.length - (intOf iv).toNat)
  case atStart => exact ⟨0, none, 0, [], Nat.zero_le _, rfl, rfl, by simp, Own8.nil _ _, rfl, Below.refl _ _⟩
  case round =>
    obtain ⟨k, A', c', zs, hk, rfl, rfl, hzl, hown, HZ, hbel⟩ := hrel
    have R0 := (Blk.first w 41 #[.bool n1, .slice A xs.length c] (.cells #[.bool false, .slice none 0 0] 86)).below hbel (by omega)
    have R1 := (Blk.new1 w (.cells #[.bool n1, .slice A xs.length c] 41) 86 #[.bool false, .slice none 0 0]).below hbel (by omega)
    have hxr : Nums wr A xs := hx.below (w := w) (B := w.heap.size) ((((Below.refl _ _).alloc (Nat.le_refl _) _).alloc (by simp) _).trans (hbel.mono (by omega))) (Nat.le_refl _)
    obtain ⟨r0, r1, r2, r3⟩ := R0.two
    have hsz := hbel.size
    simp only [World.size_alloc] at hsz
    by_cases hkn : k < xs.length
    · obtain ⟨b, o, rfl, hb, hc⟩ := hxr.2 (by omega)
      have hcell := hc k hkn
      have hm1 : (k : Int) < (xs.length : Int) := by omega
      have hm0 : (0 : Int) ≤ (k : Int) := by omega
      have hnn := nth_nonneg xs k
      have hnl := nth_lt (by unfold B18; omega) HS.out k
      rw [B18_eq] at hnl
      have HL0 := Lib.hid (limb_zero xs k)
      clear hc
      go_wp2_with fail
      obtain ⟨wo, rfl⟩ : ∃ wo : World, wo = wr := ⟨_, rfl⟩
      go_loopw [3, 5, 6] (fun dv lv jv wi => ∃ (j : Nat) (l : Int) (A' : Option Addr) (c' : Nat) (zs : List Nat), j ≤ 18 ∧ jv = .int .i64 j ∧ lv = .int .u64 l ∧ 0 ≤ l ∧ l < 1000000000000000000 ∧ dv = .slice A' zs.length c' ∧ zs.length ≤ 18 * k + j ∧ Own8 wi (w.heap.size + 2) A' c' zs ∧
          Hid (l = ((xs.getD k 0 / 10 ^ j : Nat) : Int)) ∧ Hid (zs = pad (18 * k + j) (val B18 xs)) ∧ Below (w.heap.size + 2) ((w.alloc (.cells #[.bool n1, .slice (some ⟨b, o, none⟩) xs.length c] 41)).alloc (.cells #[.bool false, .slice none 0 0] 86)) wi) (fun _ _ jv _ => 18 - (intOf jv).toNat)
      case atStart => exact ⟨0, nth xs k, A', c', zs, by omega, rfl, rfl, hnn, by omega, rfl, by omega, hown, HL0, HZ, hbel⟩
      case round =>
        obtain ⟨j, l, A2, c2, ys, hj, rfl, rfl, hl0, hl1, rfl, hyl, hown2, HL, HY, hbel2⟩ := hrel
        have hsz2 := hbel2.size
        simp only [World.size_alloc] at hsz2
        by_cases hj18 : j < 18
        · have hstep := of_step HS.out hj18 HL.out
          have hw8 := wrap8 (l % 10) (by omega) (by omega)
          have e1 : l % 10 = (((l % 10).toNat : Nat) : Int) := by omega
          have HC := Lib.hid (cells_one8 wr _ _ e1)
          have H8 : Hid (∀ x ∈ [(l % 10).toNat], x < 256) := by intro x hx'; simp only [List.mem_cons, List.not_mem_nil, or_false] at hx'; omega
          have HN : Hid (ys.length + [(l % 10).toNat].length ≤ 17592186044416) := by show ys.length + 1 ≤ _; omega
          have HST := Lib.hid hstep
          have hj18' : (j : Int) < 18 := by omega
          clear e1 hstep
          go_wp2_with (at_builtin; go_loud (refine wpList_app8 rfl (.tmp 23) (.tmp 27) rfl (w.heap.size + 2) A2 c2 ys rfl (hown2.alloc _) [(l % 10).toNat] ⟨wr.heap.size, 0, none⟩ 1 1 rfl rfl (by exact HC.out) H8.out HN.out (by simp; omega) (fun A3 c3 w3 hown3 hg3 => ?_)))
          go_roundw
          case rel => exact ⟨j + 1, l / 10, A3, c3, ys ++ [(l % 10).toNat], by omega, by go_num, by go_num, by omega, by omega, by simp, by simp; omega, hown3, HST.out.2, by show _ = _; rw [HY.out]; exact HST.out.1, Below.own8 (hbel2.alloc (by simpa using hsz2) _) (hown2.alloc _) (by simp; omega) hg3⟩
          case measure => simp [intOf]; omega
        · obtain rfl : j = 18 := by omega
          have HY2 : Hid (ys = pad (18 * (k + 1)) (val B18 xs)) := HY
          clear HY
          go_wp2_with fail
          go_roundw
          case rel => exact ⟨k + 1, A2, c2, ys, by omega, by go_num, rfl, by omega, hown2, HY2, hbel2⟩
          case measure => simp [intOf]; omega
    · obtain rfl : k = xs.length := by omega
      have hvz : val 10 zs = i.natAbs := by
        rw [HZ.out, pad_val, Nat.mod_eq_of_lt (val_lt18 HS.out), HA.out]
      have hsz10 : small 10 zs := by rw [HZ.out]; exact pad_small _ _
      have HV := Lib.hid hvz; have H10 := Lib.hid hsz10
      clear hvz hsz10
      obtain ⟨q0, q1, q2, q3⟩ := R1.two
      go_wp2_with fail
      go_region_with (go_at_call 110; refine (rcut_tens (w.heap.size + 2) _ _ _ i _ (by first | exact hown | exact hown.drew) H10.out HV.out (by omega)).mono ?_; rintro e w' ⟨rfl, hown3, rfl⟩)
      all_goals
        go_wp2_with fail
        refine bodyPost_ret (v := .agg #[.bool n1, .slice A' (tens i).length c']) (by simp [results, Tryz.results78, go_sem, q0, q1]) rfl ?_
        exact ⟨A', c', by rw [HN.out], ((hown3.setBelow (by show w.heap.size + 1 < w.heap.size + 2; omega) _).setBelow (by show w.heap.size + 1 < w.heap.size + 2; omega) _).mono (by omega),
          ((((((Below.refl _ _).alloc (Nat.le_refl _) _).alloc (by simp) _).trans (hbel.mono (by omega))).drew).setCell (by show w.heap.size ≤ w.heap.size + 1; omega) _).setCell (by show w.heap.size ≤ w.heap.size + 1; omega) _⟩
end Go.Proofs.YtljndllhmdpjlaaGreatDoor
namespace Go.Proofs.YtljndllhmdpjlaaGreatDoor
open Go.RowKit

section
variable (neg : Bool) (c : Nat) (w : World)
set_option maxRecDepth 100000
theorem rgood_nil (A : Option Addr) :
    Calls Tryz.prog 51 #[.agg #[.bool neg, .slice A 0 c]] w fun e w' => e = .returned (.bool !neg) ∧ Below w.heap.size w w' := by
  go_enter Tryz.func51, Tryz.ntmps51
  go_wp2
  go_ret
  exact ⟨rfl, (Below.refl _ _).alloc (Nat.le_refl _) _⟩

theorem rgood_long (A : Option Addr) (n : Nat) (hn : 30 < n) (hm : n ≤ 9223372036854775807) :
    Calls Tryz.prog 51 #[.agg #[.bool neg, .slice A n c]] w fun e w' => e = .returned (.bool false) ∧ Below w.heap.size w w' := by
  go_enter Tryz.func51, Tryz.ntmps51
  go_wp2
  go_ret
  exact ⟨rfl, (Below.refl _ _).alloc (Nat.le_refl _) _⟩

set_option maxHeartbeats 400000 in
theorem rgood_body (b o : Nat) (xs : List Nat) (h0 : 0 < xs.length) (hn : xs.length ≤ 30) (hb : b < w.heap.size)
    (hc : ∀ k, k < xs.length → w.cell? ⟨b, o + k, none⟩ = some (.int .u64 (nth xs k))) :
    Calls Tryz.prog 51 #[.agg #[.bool neg, .slice (some ⟨b, o, none⟩) xs.length c]] w fun e w' => e = .returned (.bool (if nth xs (xs.length - 1) = 0 then false else allLt xs)) ∧ Below w.heap.size w w' := by
  have hc1 := hc (xs.length - 1) (by omega)
  have hl1 : ((xs.length : Int) == 0) = false := beq_eq_false_iff_ne.2 (by omega)
  obtain ⟨last, hlast⟩ : ∃ v, v = nth xs (xs.length - 1) := ⟨_, rfl⟩
  rw [← hlast] at hc1
  rw [show (if nth xs (xs.length - 1) = 0 then false else allLt xs) = (last != 0 && allLt xs) from by rw [← hlast]; by_cases h : last = 0 <;> simp [h]]
  go_enter Tryz.func51, Tryz.ntmps51
  go_wp2
  go_loop [4] (fun i => ∃ k : Nat, k ≤ xs.length ∧ i = .int .i64 k ∧ ∀ j, j < k → nth xs j < 1000000000000000000) (fun i => xs.length - (intOf i).toNat)
  case atStart => exact ⟨0, Nat.zero_le _, rfl, fun j hj => absurd hj (by omega)⟩
  case round =>
    obtain ⟨k, hk, rfl, hlt⟩ := hrel
    have HL := Lib.hid hlt; clear hlt
    have hcell : k < xs.length → w.cell? ⟨b, o + k, none⟩ = some (.int .u64 (nth xs k)) := hc k
    clear hc hlast
    go_wp2
    · go_ret
      exact ⟨ret_bool (by rw [allLt_no (by assumption) (by assumption), Bool.and_false]), (Below.refl _ _).alloc (Nat.le_refl _) _⟩
    · have h1 : k < xs.length := by assumption
      have h2 : nth xs k < 1000000000000000000 := by assumption
      go_round
      case rel => exact ⟨k + 1, by omega, by go_num, fun j hj => by
        by_cases hjk : j = k
        · rw [hjk]; exact h2
        · exact HL.out j (by omega)⟩
      case measure => simp [intOf]; omega
    · have h1 : ¬ k < xs.length := by assumption
      go_ret
      exact ⟨ret_bool (by rw [allLt_yes fun j hj => HL.out j (by omega), Bool.and_true]), (Below.refl _ _).alloc (Nat.le_refl _) _⟩

/-- The reference's Good, at every number whose limbs can be read. -/
theorem rgood_any (A : Option Addr) (xs : List Nat) (hm : xs.length ≤ 9223372036854775807) (hx : Nums w A xs) :
    Calls Tryz.prog 51 #[.agg #[.bool neg, .slice A xs.length c]] w fun e w' => e = .returned (.bool (goodB neg xs)) ∧ Below w.heap.size w w' := by
  unfold goodB
  by_cases h0 : xs.length = 0
  · rw [if_pos h0, h0]; exact rgood_nil neg c w A
  rw [if_neg h0]
  by_cases h1 : 30 < xs.length
  · rw [if_pos h1]; exact rgood_long neg c w A _ h1 hm
  rw [if_neg h1]
  obtain ⟨b, o, rfl, hb, hc⟩ := hx.2 (by omega)
  exact rgood_body neg c w b o xs (by omega) (by omega) hb hc
end
end Go.Proofs.YtljndllhmdpjlaaGreatDoor

/- Words for rows of bytes (printed by gen_bytes.py from the words for rows of uint64). -/
import Derived.Test.YteggjfmcpodepaaDoorNumWords
namespace Go.Proofs.YteggjfmcpodepaaDoor
open Go.RowKit

/-- The bytes of a slice can be read. -/
def Nums8 (w : World) (A : Option Addr) (xs : List Nat) : Prop :=
  (∀ k, nth xs k < 256) ∧ (0 < xs.length → ∃ b o, A = some ⟨b, o, none⟩ ∧ b < w.heap.size ∧ ∀ k, k < xs.length → w.cell? ⟨b, o + k, none⟩ = some (.int .u8 (nth xs k)))

/-- The cells of a row of uint8. -/
def rowOf8 (ys : List Nat) (j : Nat) : Value := .int .u8 (nth ys j)
/-- Block g is a row of n uint8, of which the first ones are ys, the others noughts. -/
def Row8 (w : World) (g n : Nat) (ys : List Nat) : Prop := w.rowIs g 5 n (rowOf8 ys) ∧ ys.length ≤ n

section
variable {w w' : World} {g n : Nat} {ys : List Nat}
theorem Row8.cell (h : Row8 w g n ys) {j : Nat} (hj : j < n) : w.cell? ⟨g, j, none⟩ = some (.int .u8 (nth ys j)) := h.1.cell hj
theorem Row8.frozen (h : Row8 w g n ys) (j : Nat) : w.frozen? ⟨g, j, none⟩ = false := h.1.frozen j
theorem Row8.lt (h : Row8 w g n ys) : g < w.heap.size := h.1.lt
theorem Row8.made (w : World) (n : Nat) : Row8 (w.alloc (.cells (madeCells #[.int .u8 0] n) 5)) w.heap.size n [] :=
  ⟨(World.rowIs_made w _ n _).congr fun i _ => by unfold rowOf8; rw [nth_nil], Nat.zero_le _⟩
theorem Row8.snoc (h : Row8 w g n ys) (v : Nat) (hn : ys.length < n) : Row8 (w.setCell ⟨g, ys.length, none⟩ (.int .u8 (v : Int))) g n (ys ++ [v]) :=
  ⟨(h.1.set ys.length _).congr fun i _ => by unfold rowOf8; rw [nth_snoc]; split <;> rfl, by simp; omega⟩
theorem Row8.snocInt (h : Row8 w g n ys) (v : Int) (h0 : 0 ≤ v) {k : Nat} (hk : ys.length = k) (hn : k < n) : Row8 (w.setCell ⟨g, k, none⟩ (.int .u8 v)) g n (ys ++ [v.toNat]) := by
  subst hk
  have e : v = ((v.toNat : Nat) : Int) := by omega
  have h1 := h.snoc v.toNat hn
  rw [← e] at h1
  exact h1
theorem Row8.set (h : Row8 w g n ys) (i v : Nat) (hi : i < ys.length) : Row8 (w.setCell ⟨g, i, none⟩ (.int .u8 (v : Int))) g n (ys.set i v) :=
  ⟨(h.1.set i _).congr fun j _ => by unfold rowOf8; rw [nth_set _ _ _ hi]; split <;> rfl, by simpa using h.2⟩
theorem Row8.setInt (h : Row8 w g n ys) (v : Int) (h0 : 0 ≤ v) {i : Nat} (hi : i < ys.length) : Row8 (w.setCell ⟨g, i, none⟩ (.int .u8 v)) g n (ys.set i v.toNat) := by
  have e : v = ((v.toNat : Nat) : Int) := by omega
  have h1 := h.set i v.toNat hi
  rw [← e] at h1
  exact h1
theorem Row8.of_block (h : Row8 w g n ys) (e : w'.heap[g]? = w.heap[g]?) : Row8 w' g n ys := ⟨h.1.of_block e, h.2⟩
theorem Row8.alloc (h : Row8 w g n ys) (o : Obj) : Row8 (w.alloc o) g n ys := ⟨h.1.alloc o, h.2⟩
theorem Row8.drew (h : Row8 w g n ys) : Row8 w.drew g n ys := h
theorem Row8.drewN (h : Row8 w g n ys) (k : Nat) : Row8 (w.drewN k) g n ys := h
theorem Row8.setOther (h : Row8 w g n ys) {a : Addr} (ha : g ≠ a.block) (v : Value) : Row8 (w.setCell a v) g n ys := ⟨h.1.setOther ha v, h.2⟩
theorem Row8.below {B : Nat} (h : Row8 w g n ys) (hb : Below B w w') (hg : g < B) : Row8 w' g n ys := h.of_block (hb.block g hg)
/-- A row that is filled is one with no noughts told apart. -/
theorem Row8.fill (h : Row8 w g n ys) : Row8 w g n (ys ++ List.replicate (n - ys.length) 0) := by
  refine ⟨h.1.congr fun i hi => ?_, by have := h.2; simp; omega⟩
  unfold rowOf8 nth
  by_cases h1 : i < ys.length
  · simp [List.getElem?_append_left h1]
  · simp [List.getElem?_append_right (show ys.length ≤ i by omega), List.getElem?_eq_none (show ys.length ≤ i by omega), List.getElem?_replicate]
    split <;> rfl
end

/-- A slice that a call made, which reads as xs: it begins at the head of a row of its own from block number base on. -/
def Own8 (w : World) (base : Nat) (A : Option Addr) (c : Nat) (xs : List Nat) : Prop :=
  w.ownsRow base 5 1 (.slice A xs.length c) xs.length (xs.map fun x : Nat => Value.int .u8 (x : Int)) ∧ ∀ x ∈ xs, x < 256

section
variable {w w' : World} {base : Nat} {A : Option Addr} {c : Nat} {xs : List Nat}
theorem nth_bound8 (h : ∀ x ∈ xs, x < 256) (k : Nat) : nth xs k < 256 := by
  unfold nth
  by_cases hk : k < xs.length
  · have := h _ (List.getElem_mem hk); simp only [List.getD, List.getElem?_eq_getElem hk, Option.getD_some]; omega
  · rw [getD_past xs k (by omega)]; simp
theorem Own8.nums (h : Own8 w base A c xs) : Nums8 w A xs := by
  refine ⟨nth_bound8 h.2, fun h0 => ?_⟩
  rcases h.1.2 with ⟨_, hn⟩ | ⟨g, cap, cur, hv, hg, hh, hnc, _, hsz, hcur⟩
  · omega
  · injection hv with hA _ hc
    subst hA
    refine ⟨g, 0, rfl, (Array.getElem?_eq_some_iff.1 hh).1, fun k hk => ?_⟩
    rw [Nat.zero_add, cell_of_row w g k cur _ (0, 0) hh]
    have e : cur[k]? = cur.toList[k]? := by simp
    have e2 : cur.toList[k]? = (cur.toList.take (xs.length * 1))[k]? := by rw [List.getElem?_take, if_pos (by omega)]
    rw [e, e2, hcur]
    simp [nth, hk]
theorem Own8.nil (w : World) (base : Nat) : Own8 w base none 0 [] := ⟨World.ownsRow_nil _ _ _ _, fun _ h => by cases h⟩
theorem Own8.of_row {g n : Nat} {ys : List Nat} (h : Row8 w g n ys) (hb : base ≤ g) (hc : n ≤ maxLen) (hx : xs.length ≤ n) (he : ∀ j, j < xs.length → nth ys j = nth xs j) (h64 : ∀ x ∈ xs, x < 256) : Own8 w base (some ⟨g, 0, none⟩) n xs := by
  obtain ⟨⟨cur, hh, hsz, hcell⟩, hle⟩ := h
  refine ⟨⟨by simp, .inr ⟨g, n, cur, rfl, hb, hh, hx, hc, by omega, ?_⟩⟩, h64⟩
  apply List.ext_getElem?
  intro j
  rw [List.getElem?_take]
  by_cases hj : j < xs.length
  · rw [if_pos (by omega)]
    have h1 := hcell j (by omega)
    rw [Array.getElem?_toList, h1]
    unfold rowOf8
    rw [he j hj]
    simp [nth, hj]
  · rw [if_neg (by omega), List.getElem?_eq_none (by simpa using Nat.le_of_not_lt hj)]
theorem Own8.kept {row : Option Nat} (h : Own8 w base A c xs) (hg : w.grownBy w' row) (hne : (Value.slice A xs.length c).ownBlock = none ∨ (Value.slice A xs.length c).ownBlock ≠ row) : Own8 w' base A c xs := ⟨h.1.kept hg hne, h.2⟩
theorem Own8.below {B : Nat} (h : Own8 w base A c xs) (hb : Below B w w') (hB : w.heap.size ≤ B) : Own8 w' base A c xs :=
  h.kept (row := none) ⟨hb.os, hb.tape, hb.output, hb.size, fun k hk _ => hb.block k (by omega)⟩ (by cases (Value.slice A xs.length c).ownBlock <;> simp)
theorem Own8.alloc (h : Own8 w base A c xs) (o : Obj) : Own8 (w.alloc o) base A c xs := ⟨h.1.alloc o, h.2⟩
theorem Own8.drew (h : Own8 w base A c xs) : Own8 w.drew base A c xs := h
theorem Own8.drewN (h : Own8 w base A c xs) (k : Nat) : Own8 (w.drewN k) base A c xs := h
theorem Own8.mono {b' : Nat} (h : Own8 w base A c xs) (hb : b' ≤ base) : Own8 w b' A c xs := by
  refine ⟨⟨h.1.1, ?_⟩, h.2⟩
  rcases h.1.2 with h2 | ⟨g, cap, cur, hv, hg, r⟩
  · exact .inl h2
  · exact .inr ⟨g, cap, cur, hv, by omega, r⟩
theorem Own8.setCell (h : Own8 w base A c xs) {p : Addr} (hp : ∀ q, A = some q → q.block ≠ p.block) (u : Value) : Own8 (w.setCell p u) base A c xs := by
  refine ⟨⟨h.1.1, ?_⟩, h.2⟩
  rcases h.1.2 with h2 | ⟨g, cap, cur, hv, hg, hh, r⟩
  · exact .inl h2
  · refine .inr ⟨g, cap, cur, hv, hg, ?_, r⟩
    rw [Below.heap_setCell _ _ _ _ (by injection hv with e1; exact hp _ e1)]
    exact hh
theorem Own8.setBelow (h : Own8 w base A c xs) {p : Addr} (hp : p.block < base) (u : Value) : Own8 (w.setCell p u) base A c xs :=
  ⟨ownsRow_setCell_below h.1 hp u, h.2⟩
theorem Own8.set2 (h : Own8 w base A c xs) {g : Nat} {t : TypeId} {x y : Value} (hb : Blk w g t #[x, y]) (ht : 5 ≠ t) (u v : Value) : Own8 ((w.setCell ⟨g, 0, none⟩ u).setCell ⟨g, 1, none⟩ v) base A c xs := by
  have hne : ∀ q, A = some q → q.block ≠ g := fun q hq e => by
    subst hq
    exact own_blk_ne h.1 hb ht (by simp [Value.ownBlock, e])
  exact (h.setCell hne u).setCell hne v
theorem Own8.ge (h : Own8 w base A c xs) : ∀ q, A = some q → base ≤ q.block ∧ q.block < w.heap.size := by
  intro q hq
  subst hq
  exact h.1.lt q.block rfl

theorem Nums8.keep (h : Nums8 w A xs) (hs : w.heap.size ≤ w'.heap.size) (hk : ∀ p : Addr, p.block < w.heap.size → w'.cell? p = w.cell? p) : Nums8 w' A xs :=
  ⟨h.1, fun h0 => by
    obtain ⟨b, o, rfl, hb, hc⟩ := h.2 h0
    exact ⟨b, o, rfl, by omega, fun k hk' => (hk _ hb).trans (hc k hk')⟩⟩
theorem Nums8.alloc (h : Nums8 w A xs) (o : Obj) : Nums8 (w.alloc o) A xs := h.keep (by simp) fun p hp => World.cell?_alloc_lt w o p hp
theorem Nums8.drew (h : Nums8 w A xs) : Nums8 w.drew A xs := h
theorem Nums8.drewN (h : Nums8 w A xs) (k : Nat) : Nums8 (w.drewN k) A xs := h
theorem Nums8.below {B : Nat} (h : Nums8 w A xs) (hb : Below B w w') (hB : w.heap.size ≤ B) : Nums8 w' A xs := h.keep hb.size fun _ hp => hb.cell (by omega)
/-- A store into a block that the slice does not lie in. -/
theorem Nums8.setCell (h : Nums8 w A xs) {p : Addr} (hp : ∀ q, A = some q → q.block ≠ p.block) (u : Value) : Nums8 (w.setCell p u) A xs :=
  ⟨h.1, fun h0 => by
    obtain ⟨b, o, rfl, hb, hc⟩ := h.2 h0
    refine ⟨b, o, rfl, by simpa [World.setCell] using hb, fun k hk' => ?_⟩
    rw [World.cell?_setCell_other _ _ _ _ (fun e => hp _ rfl (by rw [e]))]
    exact hc k hk'⟩
end

/-! ### copy into a new row -/
theorem copy_nums8 {w : World} (g n dCap c : Nat) (A : Option Addr) (xs : List Nat) (hrow : Row8 w g n []) (hx : Nums8 w A xs) :
    ∃ w', (Builtin.copy_ #[31, 31] 3 #[.slice (some ⟨g, 0, none⟩) n dCap, .slice A xs.length c]).run Tryd.prog w = .ok (goInt (xs.take n).length) w' ∧
      Row8 w' g n (xs.take n) ∧ w.grownBy w' (some g) ∧ w'.heap.size = w.heap.size := by
  have hsz : (Tryd.prog.info? 5).map (·.size) = some 1 := by kernel_rfl
  by_cases h0 : (xs.take n).length = 0
  · have hrun := run_copy_none (P := Tryd.prog) w 31 31 3 5 (some ⟨g, 0, none⟩) A n dCap xs.length c Tryd.underlying31 hsz (by rw [List.length_take] at h0; rw [Nat.min_comm] at h0; exact h0)
    have hk : xs.take n = [] := List.eq_nil_of_length_eq_zero h0
    exact ⟨w, by rw [hrun, h0]; rfl, by rw [hk]; exact hrow, World.grownBy.refl w _, rfl⟩
  · have hl : (xs.take n).length = min n xs.length := List.length_take
    obtain ⟨b, off, rfl, hb, hc⟩ := hx.2 (by omega)
    obtain ⟨cur, hg, hsz2, hcur⟩ := hrow.1
    have hrun := run_copy_row (P := Tryd.prog) w 31 31 3 5 g 0 n dCap ⟨b, off, none⟩ xs.length c cur _ ((xs.take n).map fun x : Nat => Value.int .u8 (x : Int)) Tryd.underlying31 hsz hg
      (by rw [List.length_map, hl, Nat.min_comm]) (fun j v hj => ?_) (by rw [List.length_map, hl, hsz2]; omega) (fun v hv => ?_)
    · refine ⟨_, hrun.trans (by rw [List.length_map]), ⟨⟨_, setRow_heap w g _ _ _ _ hg, ?_, fun i hi => ?_⟩, by rw [hl]; omega⟩, ⟨rfl, rfl, rfl, by simp [World.setRow], fun k hk hne => setRow_other w g k _ (fun e => hne (by rw [e]))⟩, by simp [World.setRow]⟩
      · simp [hsz2]; omega
      · simp only [List.take_zero, List.nil_append, Nat.zero_add, List.getElem?_toArray]
        by_cases hik : i < (xs.take n).length
        · rw [List.getElem?_append_left (by simpa using hik), List.getElem?_map, List.getElem?_eq_getElem hik]
          unfold rowOf8 nth
          rw [List.getD, List.getElem?_eq_getElem hik]; rfl
        · rw [List.getElem?_append_right (by simpa using hik), List.getElem?_drop]
          rw [List.length_map]
          have e2 : (xs.take n).length + (i - (xs.take n).length) = i := by omega
          rw [e2, Array.getElem?_toList, hcur i hi]
          unfold rowOf8
          rw [nth_nil, nth_past _ _ (by omega)]
    · rw [List.getElem?_map, List.getElem?_take] at hj
      split at hj
      · by_cases hjx : j < xs.length
        · rw [List.getElem?_eq_getElem hjx] at hj
          simp only [Option.map_some, Option.some.injEq] at hj
          rw [← hj]
          have h2 := hc j hjx
          rw [show (⟨b, off, none⟩ : Addr).add j = ⟨b, off + j, none⟩ from by unfold Addr.add; split <;> simp_all, h2]
          simp [nth, hjx]
        · rw [List.getElem?_eq_none (by omega)] at hj; simp at hj
      · simp at hj
    · rw [List.mem_map] at hv
      obtain ⟨x, _, rfl⟩ := hv
      rfl

/-! ### append of new words to a slice of the call's own -/
theorem infoParts8 : ∃ i, Tryd.prog.info? 5 = some i ∧ i.zero = some (.int .u8 0) ∧ i.size = 1 ∧ i.bytes = 1 := by
  obtain ⟨i, hi, h⟩ := Option.map_eq_some_iff.1 (show (Tryd.prog.info? 5).map (fun i => (i.zero, i.size, i.bytes)) = some (some (.int .u8 0), 1, 1) from by kernel_rfl)
  simp only [Prod.mk.injEq] at h
  exact ⟨i, hi, h.1, h.2.1, h.2.2⟩
theorem Own8.of_owns {w : World} {base n : Nat} {v : Value} {xs : List Nat} (h : w.ownsRow base 5 1 v n (xs.map fun x : Nat => Value.int .u8 (x : Int))) (h64 : ∀ x ∈ xs, x < 256) :
    ∃ A c, v = .slice A xs.length c ∧ Own8 w base A c xs := by
  have hn : xs.length = n := by simpa using h.1
  subst hn
  rcases h.2 with ⟨rfl, hz⟩ | ⟨g, cap, cur, rfl, r⟩
  · exact ⟨none, 0, by rw [hz], by rw [List.eq_nil_of_length_eq_zero hz]; exact Own8.nil _ _⟩
  · exact ⟨some ⟨g, 0, none⟩, cap, rfl, h, h64⟩
theorem wpList_app8 {w : World} {ops : Array Oper} {rest : List Oper} {o : Oper} {a : Act} {Q : Exit → Act → World → Prop} (hgd : o.guard = none) (s x : Operand)
    (ho : o.op = .call { callee := .builtin .append, args := #[s, x], argTypes := #[31, 31] }) (base : Nat) (A : Option Addr) (c : Nat) (xs : List Nat) (hs : a.eval s = .slice A xs.length c)
    (hown : Own8 w base A c xs) (ys : List Nat) (ad : Addr) (m cc : Nat) (hx : a.eval x = .slice (some ad) m cc) (hm : ys.length = m)
    (hnews : ∀ j u, (ys.map fun x : Nat => Value.int .u8 (x : Int))[j]? = some u → w.cell? (ad.add j) = some u) (h64 : ∀ x ∈ ys, x < 256) (hl : xs.length + ys.length ≤ 17592186044416) (hbase : base ≤ w.heap.size)
    (h : ∀ A' c' w', Own8 w' base A' c' (xs ++ ys) → w.grownBy w' (Value.slice A xs.length c).ownBlock → wpList Tryd.prog ops Q rest (a.put o.dst (.slice A' (xs ++ ys).length c')) w') : wpList Tryd.prog ops Q (o :: rest) a w := by
  obtain ⟨i, hi, hz, hsz, hby⟩ := infoParts8
  subst hm
  refine wpList_append_own w hgd s x _ ho base 5 i _ 1 1 Tryd.underlying31 hi hz hsz hby rfl (by decide) _ _ _ hs hown.1 ad ys.length cc (ys.map fun x : Nat => Value.int .u8 (x : Int)) hx (by simp) hnews
    (fun u hu => by rw [List.mem_map] at hu; obtain ⟨y, _, rfl⟩ := hu; rfl) (by unfold maxLen; omega) (by omega) hbase ?_
  intro v' w' hown' hg' _
  rw [← List.map_append] at hown'
  obtain ⟨A', c', hv, ho'⟩ := Own8.of_owns hown' (fun y hy => by
    rcases List.mem_append.1 hy with h1 | h1
    · exact hown.2 y h1
    · exact h64 y h1)
  rw [hv]
  exact h A' c' w' ho' hg'
theorem Below.own8 {w0 w w' : World} {base : Nat} {A : Option Addr} {c : Nat} {xs : List Nat} (hb : Below base w0 w) (hown : Own8 w base A c xs) (hbase : base ≤ w.heap.size) (hg : w.grownBy w' (Value.slice A xs.length c).ownBlock) : Below base w0 w' :=
  hb.grown hg hbase (fun k hk => by
    match A, hown, hk with
    | some q, hown, hk =>
      have h1 := hown.ge q rfl
      simp only [Value.ownBlock, Option.some.injEq] at hk
      omega
    | none, _, hk => simp [Value.ownBlock] at hk)
/-- The first k words of a slice of one's own. -/
theorem Own8.cut {w : World} {base : Nat} {A : Option Addr} {c : Nat} {xs : List Nat} (h : Own8 w base A c xs) (hc : xs ≠ []) {k : Nat} (hk : k ≤ xs.length) : Own8 w base A c (xs.take k) := by
  refine ⟨⟨by simp, ?_⟩, fun x hx => h.2 x (List.mem_of_mem_take hx)⟩
  rcases h.1.2 with ⟨_, h0⟩ | ⟨g, cap, cur, hv, hg, hh, hle, hcap, hsz, hcur⟩
  · exact absurd (List.eq_nil_of_length_eq_zero h0) hc
  · injection hv with hA hn hcc
    subst hA; subst hcc
    have hkl : (xs.take k).length = k := by rw [List.length_take]; omega
    refine .inr ⟨g, c, cur, rfl, hg, hh, by omega, hcap, hsz, ?_⟩
    rw [hkl, List.map_take, ← hcur, List.take_take, Nat.mul_one, Nat.mul_one, Nat.min_eq_left hk]

theorem Row8.nums {w' : World} {g len : Nat} {zs : List Nat} (h : Row8 w' g len zs) (hz : zs.length = len) (h64 : ∀ x ∈ zs, x < 256) : Nums8 w' (some ⟨g, 0, none⟩) zs :=
  ⟨nth_bound8 h64, fun _ => ⟨g, 0, rfl, h.lt, fun k hk => by rw [Nat.zero_add]; exact h.cell (by omega)⟩⟩

theorem info8 : (Tryd.prog.info? 5).map (fun i => (i.zero, i.size, i.bytes)) = some (some (.int .u8 0), 1, 1) := by kernel_rfl
theorem make8 (n : Nat) (h : n ≤ 35184372088832) : ∀ w : World, (Instr.makeSlice 31 (.int .i64 (n : Int)) (.int .i64 (n : Int))).run Tryd.prog w = .ok (.slice (some ⟨w.heap.size, 0, none⟩) n n) (w.alloc (.cells (madeCells #[.int .u8 0] n) 5)) :=
  fun w => run_make_row' _ _ _ 1 Tryd.underlying31 info8 rfl _ _ n (by omega) (by omega) w
end Go.Proofs.YteggjfmcpodepaaDoor

/- Words for rows of bytes (printed by gen_bytes.py from the words for rows of uint64). The walk of the reference's cut: digits without noughts ahead. Plain mathematics: the digit at a place; a row of so many digits; limbs against digits. No condition. What a reference function that answers a number leaves; the walk of the reference's Int. The walk of the reference's Of: limbs to digits. The walk of the reference's To: digits to limbs. The walk of the reference's Good. The walk of the reference's Same. Words for what stands since a world. Add in one statement; the walk of whole.Sub. The walk of whole.Cmp; Neg and Sign in one statement each. The walks of the reference's plus and minus: rows of digits added and subtracted. The walk of the reference's sizes. -/
import Derived.Test.YteggjfmcpodepaaDoorK9
namespace Go.Proofs.YteggjfmcpodepaaDoor
open Go.RowKit

/-- The bytes of a slice can be read. -/
def Nums8 (w : World) (A : Option Addr) (xs : List Nat) : Prop :=
  (∀ k, nth xs k < 256) ∧ (0 < xs.length → ∃ b o, A = some ⟨b, o, none⟩ ∧ b < w.heap.size ∧ ∀ k, k < xs.length → w.cell? ⟨b, o + k, none⟩ = some (.int .u8 (nth xs k)))

/-- The cells of a row of uint8. -/
def rowOf8 (ys : List Nat) (j : Nat) : Value := .int .u8 (nth ys j)
/-- Block g is a row of n uint8, of which the first ones are ys, the others noughts. -/
def Row8 (w : World) (g n : Nat) (ys : List Nat) : Prop := w.rowIs g 5 n (rowOf8 ys) ∧ ys.length ≤ n

section
variable {w w' : World} {g n : Nat} {ys : List Nat}
theorem Row8.cell (h : Row8 w g n ys) {j : Nat} (hj : j < n) : w.cell? ⟨g, j, none⟩ = some (.int .u8 (nth ys j)) := h.1.cell hj
theorem Row8.frozen (h : Row8 w g n ys) (j : Nat) : w.frozen? ⟨g, j, none⟩ = false := h.1.frozen j
theorem Row8.lt (h : Row8 w g n ys) : g < w.heap.size := h.1.lt
theorem Row8.made (w : World) (n : Nat) : Row8 (w.alloc (.cells (madeCells #[.int .u8 0] n) 5)) w.heap.size n [] :=
  ⟨(World.rowIs_made w _ n _).congr fun i _ => by unfold rowOf8; rw [nth_nil], Nat.zero_le _⟩
theorem Row8.snoc (h : Row8 w g n ys) (v : Nat) (hn : ys.length < n) : Row8 (w.setCell ⟨g, ys.length, none⟩ (.int .u8 (v : Int))) g n (ys ++ [v]) :=
  ⟨(h.1.set ys.length _).congr fun i _ => by unfold rowOf8; rw [nth_snoc]; split <;> rfl, by simp; omega⟩
theorem Row8.snocInt (h : Row8 w g n ys) (v : Int) (h0 : 0 ≤ v) {k : Nat} (hk : ys.length = k) (hn : k < n) : Row8 (w.setCell ⟨g, k, none⟩ (.int .u8 v)) g n (ys ++ [v.toNat]) := by
  subst hk
  have e : v = ((v.toNat : Nat) : Int) := by omega
  have h1 := h.snoc v.toNat hn
  rw [← e] at h1
  exact h1
theorem Row8.set (h : Row8 w g n ys) (i v : Nat) (hi : i < ys.length) : Row8 (w.setCell ⟨g, i, none⟩ (.int .u8 (v : Int))) g n (ys.set i v) :=
  ⟨(h.1.set i _).congr fun j _ => by unfold rowOf8; rw [nth_set _ _ _ hi]; split <;> rfl, by simpa using h.2⟩
theorem Row8.setInt (h : Row8 w g n ys) (v : Int) (h0 : 0 ≤ v) {i : Nat} (hi : i < ys.length) : Row8 (w.setCell ⟨g, i, none⟩ (.int .u8 v)) g n (ys.set i v.toNat) := by
  have e : v = ((v.toNat : Nat) : Int) := by omega
  have h1 := h.set i v.toNat hi
  rw [← e] at h1
  exact h1
theorem Row8.of_block (h : Row8 w g n ys) (e : w'.heap[g]? = w.heap[g]?) : Row8 w' g n ys := ⟨h.1.of_block e, h.2⟩
theorem Row8.alloc (h : Row8 w g n ys) (o : Obj) : Row8 (w.alloc o) g n ys := ⟨h.1.alloc o, h.2⟩
theorem Row8.drew (h : Row8 w g n ys) : Row8 w.drew g n ys := h
theorem Row8.drewN (h : Row8 w g n ys) (k : Nat) : Row8 (w.drewN k) g n ys := h
theorem Row8.setOther (h : Row8 w g n ys) {a : Addr} (ha : g ≠ a.block) (v : Value) : Row8 (w.setCell a v) g n ys := ⟨h.1.setOther ha v, h.2⟩
theorem Row8.below {B : Nat} (h : Row8 w g n ys) (hb : Below B w w') (hg : g < B) : Row8 w' g n ys := h.of_block (hb.block g hg)
/-- A row that is filled is one with no noughts told apart. -/
theorem Row8.fill (h : Row8 w g n ys) : Row8 w g n (ys ++ List.replicate (n - ys.length) 0) := by
  refine ⟨h.1.congr fun i hi => ?_, by have := h.2; simp; omega⟩
  unfold rowOf8 nth
  by_cases h1 : i < ys.length
  · simp [List.getElem?_append_left h1]
  · simp [List.getElem?_append_right (show ys.length ≤ i by omega), List.getElem?_eq_none (show ys.length ≤ i by omega), List.getElem?_replicate]
    split <;> rfl
end

/-- A slice that a call made, which reads as xs: it begins at the head of a row of its own from block number base on. -/
def Own8 (w : World) (base : Nat) (A : Option Addr) (c : Nat) (xs : List Nat) : Prop :=
  w.ownsRow base 5 1 (.slice A xs.length c) xs.length (xs.map fun x : Nat => Value.int .u8 (x : Int)) ∧ ∀ x ∈ xs, x < 256

section
variable {w w' : World} {base : Nat} {A : Option Addr} {c : Nat} {xs : List Nat}
theorem nth_bound8 (h : ∀ x ∈ xs, x < 256) (k : Nat) : nth xs k < 256 := by
  unfold nth
  by_cases hk : k < xs.length
  · have := h _ (List.getElem_mem hk); simp only [List.getD, List.getElem?_eq_getElem hk, Option.getD_some]; omega
  · rw [getD_past xs k (by omega)]; simp
theorem Own8.nums (h : Own8 w base A c xs) : Nums8 w A xs := by
  refine ⟨nth_bound8 h.2, fun h0 => ?_⟩
  rcases h.1.2 with ⟨_, hn⟩ | ⟨g, cap, cur, hv, hg, hh, hnc, _, hsz, hcur⟩
  · omega
  · injection hv with hA _ hc
    subst hA
    refine ⟨g, 0, rfl, (Array.getElem?_eq_some_iff.1 hh).1, fun k hk => ?_⟩
    rw [Nat.zero_add, cell_of_row w g k cur _ (0, 0) hh]
    have e : cur[k]? = cur.toList[k]? := by simp
    have e2 : cur.toList[k]? = (cur.toList.take (xs.length * 1))[k]? := by rw [List.getElem?_take, if_pos (by omega)]
    rw [e, e2, hcur]
    simp [nth, hk]
theorem Own8.nil (w : World) (base : Nat) : Own8 w base none 0 [] := ⟨World.ownsRow_nil _ _ _ _, fun _ h => by cases h⟩
theorem Own8.of_row {g n : Nat} {ys : List Nat} (h : Row8 w g n ys) (hb : base ≤ g) (hc : n ≤ maxLen) (hx : xs.length ≤ n) (he : ∀ j, j < xs.length → nth ys j = nth xs j) (h64 : ∀ x ∈ xs, x < 256) : Own8 w base (some ⟨g, 0, none⟩) n xs := by
  obtain ⟨⟨cur, hh, hsz, hcell⟩, hle⟩ := h
  refine ⟨⟨by simp, .inr ⟨g, n, cur, rfl, hb, hh, hx, hc, by omega, ?_⟩⟩, h64⟩
  apply List.ext_getElem?
  intro j
  rw [List.getElem?_take]
  by_cases hj : j < xs.length
  · rw [if_pos (by omega)]
    have h1 := hcell j (by omega)
    rw [Array.getElem?_toList, h1]
    unfold rowOf8
    rw [he j hj]
    simp [nth, hj]
  · rw [if_neg (by omega), List.getElem?_eq_none (by simpa using Nat.le_of_not_lt hj)]
theorem Own8.kept {row : Option Nat} (h : Own8 w base A c xs) (hg : w.grownBy w' row) (hne : (Value.slice A xs.length c).ownBlock = none ∨ (Value.slice A xs.length c).ownBlock ≠ row) : Own8 w' base A c xs := ⟨h.1.kept hg hne, h.2⟩
theorem Own8.below {B : Nat} (h : Own8 w base A c xs) (hb : Below B w w') (hB : w.heap.size ≤ B) : Own8 w' base A c xs :=
  h.kept (row := none) ⟨hb.os, hb.tape, hb.output, hb.size, fun k hk _ => hb.block k (by omega)⟩ (by cases (Value.slice A xs.length c).ownBlock <;> simp)
theorem Own8.alloc (h : Own8 w base A c xs) (o : Obj) : Own8 (w.alloc o) base A c xs := ⟨h.1.alloc o, h.2⟩
theorem Own8.drew (h : Own8 w base A c xs) : Own8 w.drew base A c xs := h
theorem Own8.drewN (h : Own8 w base A c xs) (k : Nat) : Own8 (w.drewN k) base A c xs := h
theorem Own8.mono {b' : Nat} (h : Own8 w base A c xs) (hb : b' ≤ base) : Own8 w b' A c xs := by
  refine ⟨⟨h.1.1, ?_⟩, h.2⟩
  rcases h.1.2 with h2 | ⟨g, cap, cur, hv, hg, r⟩
  · exact .inl h2
  · exact .inr ⟨g, cap, cur, hv, by omega, r⟩
theorem Own8.setCell (h : Own8 w base A c xs) {p : Addr} (hp : ∀ q, A = some q → q.block ≠ p.block) (u : Value) : Own8 (w.setCell p u) base A c xs := by
  refine ⟨⟨h.1.1, ?_⟩, h.2⟩
  rcases h.1.2 with h2 | ⟨g, cap, cur, hv, hg, hh, r⟩
  · exact .inl h2
  · refine .inr ⟨g, cap, cur, hv, hg, ?_, r⟩
    rw [Below.heap_setCell _ _ _ _ (by injection hv with e1; exact hp _ e1)]
    exact hh
theorem Own8.setBelow (h : Own8 w base A c xs) {p : Addr} (hp : p.block < base) (u : Value) : Own8 (w.setCell p u) base A c xs :=
  ⟨ownsRow_setCell_below h.1 hp u, h.2⟩
theorem Own8.set2 (h : Own8 w base A c xs) {g : Nat} {t : TypeId} {x y : Value} (hb : Blk w g t #[x, y]) (ht : 5 ≠ t) (u v : Value) : Own8 ((w.setCell ⟨g, 0, none⟩ u).setCell ⟨g, 1, none⟩ v) base A c xs := by
  have hne : ∀ q, A = some q → q.block ≠ g := fun q hq e => by
    subst hq
    exact own_blk_ne h.1 hb ht (by simp [Value.ownBlock, e])
  exact (h.setCell hne u).setCell hne v
theorem Own8.ge (h : Own8 w base A c xs) : ∀ q, A = some q → base ≤ q.block ∧ q.block < w.heap.size := by
  intro q hq
  subst hq
  exact h.1.lt q.block rfl

theorem Nums8.keep (h : Nums8 w A xs) (hs : w.heap.size ≤ w'.heap.size) (hk : ∀ p : Addr, p.block < w.heap.size → w'.cell? p = w.cell? p) : Nums8 w' A xs :=
  ⟨h.1, fun h0 => by
    obtain ⟨b, o, rfl, hb, hc⟩ := h.2 h0
    exact ⟨b, o, rfl, by omega, fun k hk' => (hk _ hb).trans (hc k hk')⟩⟩
theorem Nums8.alloc (h : Nums8 w A xs) (o : Obj) : Nums8 (w.alloc o) A xs := h.keep (by simp) fun p hp => World.cell?_alloc_lt w o p hp
theorem Nums8.drew (h : Nums8 w A xs) : Nums8 w.drew A xs := h
theorem Nums8.drewN (h : Nums8 w A xs) (k : Nat) : Nums8 (w.drewN k) A xs := h
theorem Nums8.below {B : Nat} (h : Nums8 w A xs) (hb : Below B w w') (hB : w.heap.size ≤ B) : Nums8 w' A xs := h.keep hb.size fun _ hp => hb.cell (by omega)
/-- A store into a block that the slice does not lie in. -/
theorem Nums8.setCell (h : Nums8 w A xs) {p : Addr} (hp : ∀ q, A = some q → q.block ≠ p.block) (u : Value) : Nums8 (w.setCell p u) A xs :=
  ⟨h.1, fun h0 => by
    obtain ⟨b, o, rfl, hb, hc⟩ := h.2 h0
    refine ⟨b, o, rfl, by simpa [World.setCell] using hb, fun k hk' => ?_⟩
    rw [World.cell?_setCell_other _ _ _ _ (fun e => hp _ rfl (by rw [e]))]
    exact hc k hk'⟩
end

/-! ### copy into a new row -/
theorem copy_nums8 {w : World} (g n dCap c : Nat) (A : Option Addr) (xs : List Nat) (hrow : Row8 w g n []) (hx : Nums8 w A xs) :
    ∃ w', (Builtin.copy_ #[31, 31] 3 #[.slice (some ⟨g, 0, none⟩) n dCap, .slice A xs.length c]).run Tryd.prog w = .ok (goInt (xs.take n).length) w' ∧
      Row8 w' g n (xs.take n) ∧ w.grownBy w' (some g) ∧ w'.heap.size = w.heap.size := by
  have hsz : (Tryd.prog.info? 5).map (·.size) = some 1 := by kernel_rfl
  by_cases h0 : (xs.take n).length = 0
  · have hrun := run_copy_none (P := Tryd.prog) w 31 31 3 5 (some ⟨g, 0, none⟩) A n dCap xs.length c Tryd.underlying31 hsz (by rw [List.length_take] at h0; rw [Nat.min_comm] at h0; exact h0)
    have hk : xs.take n = [] := List.eq_nil_of_length_eq_zero h0
    exact ⟨w, by rw [hrun, h0]; rfl, by rw [hk]; exact hrow, World.grownBy.refl w _, rfl⟩
  · have hl : (xs.take n).length = min n xs.length := List.length_take
    obtain ⟨b, off, rfl, hb, hc⟩ := hx.2 (by omega)
    obtain ⟨cur, hg, hsz2, hcur⟩ := hrow.1
    have hrun := run_copy_row (P := Tryd.prog) w 31 31 3 5 g 0 n dCap ⟨b, off, none⟩ xs.length c cur _ ((xs.take n).map fun x : Nat => Value.int .u8 (x : Int)) Tryd.underlying31 hsz hg
      (by rw [List.length_map, hl, Nat.min_comm]) (fun j v hj => ?_) (by rw [List.length_map, hl, hsz2]; omega) (fun v hv => ?_)
    · refine ⟨_, hrun.trans (by rw [List.length_map]), ⟨⟨_, setRow_heap w g _ _ _ _ hg, ?_, fun i hi => ?_⟩, by rw [hl]; omega⟩, ⟨rfl, rfl, rfl, by simp [World.setRow], fun k hk hne => setRow_other w g k _ (fun e => hne (by rw [e]))⟩, by simp [World.setRow]⟩
      · simp [hsz2]; omega
      · simp only [List.take_zero, List.nil_append, Nat.zero_add, List.getElem?_toArray]
        by_cases hik : i < (xs.take n).length
        · rw [List.getElem?_append_left (by simpa using hik), List.getElem?_map, List.getElem?_eq_getElem hik]
          unfold rowOf8 nth
          rw [List.getD, List.getElem?_eq_getElem hik]; rfl
        · rw [List.getElem?_append_right (by simpa using hik), List.getElem?_drop]
          rw [List.length_map]
          have e2 : (xs.take n).length + (i - (xs.take n).length) = i := by omega
          rw [e2, Array.getElem?_toList, hcur i hi]
          unfold rowOf8
          rw [nth_nil, nth_past _ _ (by omega)]
    · rw [List.getElem?_map, List.getElem?_take] at hj
      split at hj
      · by_cases hjx : j < xs.length
        · rw [List.getElem?_eq_getElem hjx] at hj
          simp only [Option.map_some, Option.some.injEq] at hj
          rw [← hj]
          have h2 := hc j hjx
          rw [show (⟨b, off, none⟩ : Addr).add j = ⟨b, off + j, none⟩ from by unfold Addr.add; split <;> simp_all, h2]
          simp [nth, hjx]
        · rw [List.getElem?_eq_none (by omega)] at hj; simp at hj
      · simp at hj
    · rw [List.mem_map] at hv
      obtain ⟨x, _, rfl⟩ := hv
      rfl

/-! ### append of new words to a slice of the call's own -/
theorem infoParts8 : ∃ i, Tryd.prog.info? 5 = some i ∧ i.zero = some (.int .u8 0) ∧ i.size = 1 ∧ i.bytes = 1 := by
  obtain ⟨i, hi, h⟩ := Option.map_eq_some_iff.1 (show (Tryd.prog.info? 5).map (fun i => (i.zero, i.size, i.bytes)) = some (some (.int .u8 0), 1, 1) from by kernel_rfl)
  simp only [Prod.mk.injEq] at h
  exact ⟨i, hi, h.1, h.2.1, h.2.2⟩
theorem Own8.of_owns {w : World} {base n : Nat} {v : Value} {xs : List Nat} (h : w.ownsRow base 5 1 v n (xs.map fun x : Nat => Value.int .u8 (x : Int))) (h64 : ∀ x ∈ xs, x < 256) :
    ∃ A c, v = .slice A xs.length c ∧ Own8 w base A c xs := by
  have hn : xs.length = n := by simpa using h.1
  subst hn
  rcases h.2 with ⟨rfl, hz⟩ | ⟨g, cap, cur, rfl, r⟩
  · exact ⟨none, 0, by rw [hz], by rw [List.eq_nil_of_length_eq_zero hz]; exact Own8.nil _ _⟩
  · exact ⟨some ⟨g, 0, none⟩, cap, rfl, h, h64⟩
theorem wpList_app8 {w : World} {ops : Array Oper} {rest : List Oper} {o : Oper} {a : Act} {Q : Exit → Act → World → Prop} (hgd : o.guard = none) (s x : Operand)
    (ho : o.op = .call { callee := .builtin .append, args := #[s, x], argTypes := #[31, 31] }) (base : Nat) (A : Option Addr) (c : Nat) (xs : List Nat) (hs : a.eval s = .slice A xs.length c)
    (hown : Own8 w base A c xs) (ys : List Nat) (ad : Addr) (m cc : Nat) (hx : a.eval x = .slice (some ad) m cc) (hm : ys.length = m)
    (hnews : ∀ j u, (ys.map fun x : Nat => Value.int .u8 (x : Int))[j]? = some u → w.cell? (ad.add j) = some u) (h64 : ∀ x ∈ ys, x < 256) (hl : xs.length + ys.length ≤ 17592186044416) (hbase : base ≤ w.heap.size)
    (h : ∀ A' c' w', Own8 w' base A' c' (xs ++ ys) → w.grownBy w' (Value.slice A xs.length c).ownBlock → wpList Tryd.prog ops Q rest (a.put o.dst (.slice A' (xs ++ ys).length c')) w') : wpList Tryd.prog ops Q (o :: rest) a w := by
  obtain ⟨i, hi, hz, hsz, hby⟩ := infoParts8
  subst hm
  refine wpList_append_own w hgd s x _ ho base 5 i _ 1 1 Tryd.underlying31 hi hz hsz hby rfl (by decide) _ _ _ hs hown.1 ad ys.length cc (ys.map fun x : Nat => Value.int .u8 (x : Int)) hx (by simp) hnews
    (fun u hu => by rw [List.mem_map] at hu; obtain ⟨y, _, rfl⟩ := hu; rfl) (by unfold maxLen; omega) (by omega) hbase ?_
  intro v' w' hown' hg' _
  rw [← List.map_append] at hown'
  obtain ⟨A', c', hv, ho'⟩ := Own8.of_owns hown' (fun y hy => by
    rcases List.mem_append.1 hy with h1 | h1
    · exact hown.2 y h1
    · exact h64 y h1)
  rw [hv]
  exact h A' c' w' ho' hg'
theorem Below.own8 {w0 w w' : World} {base : Nat} {A : Option Addr} {c : Nat} {xs : List Nat} (hb : Below base w0 w) (hown : Own8 w base A c xs) (hbase : base ≤ w.heap.size) (hg : w.grownBy w' (Value.slice A xs.length c).ownBlock) : Below base w0 w' :=
  hb.grown hg hbase (fun k hk => by
    match A, hown, hk with
    | some q, hown, hk =>
      have h1 := hown.ge q rfl
      simp only [Value.ownBlock, Option.some.injEq] at hk
      omega
    | none, _, hk => simp [Value.ownBlock] at hk)
/-- The first k words of a slice of one's own. -/
theorem Own8.cut {w : World} {base : Nat} {A : Option Addr} {c : Nat} {xs : List Nat} (h : Own8 w base A c xs) (hc : xs ≠ []) {k : Nat} (hk : k ≤ xs.length) : Own8 w base A c (xs.take k) := by
  refine ⟨⟨by simp, ?_⟩, fun x hx => h.2 x (List.mem_of_mem_take hx)⟩
  rcases h.1.2 with ⟨_, h0⟩ | ⟨g, cap, cur, hv, hg, hh, hle, hcap, hsz, hcur⟩
  · exact absurd (List.eq_nil_of_length_eq_zero h0) hc
  · injection hv with hA hn hcc
    subst hA; subst hcc
    have hkl : (xs.take k).length = k := by rw [List.length_take]; omega
    refine .inr ⟨g, c, cur, rfl, hg, hh, by omega, hcap, hsz, ?_⟩
    rw [hkl, List.map_take, ← hcur, List.take_take, Nat.mul_one, Nat.mul_one, Nat.min_eq_left hk]

theorem Row8.nums {w' : World} {g len : Nat} {zs : List Nat} (h : Row8 w' g len zs) (hz : zs.length = len) (h64 : ∀ x ∈ zs, x < 256) : Nums8 w' (some ⟨g, 0, none⟩) zs :=
  ⟨nth_bound8 h64, fun _ => ⟨g, 0, rfl, h.lt, fun k hk => by rw [Nat.zero_add]; exact h.cell (by omega)⟩⟩

theorem info8 : (Tryd.prog.info? 5).map (fun i => (i.zero, i.size, i.bytes)) = some (some (.int .u8 0), 1, 1) := by kernel_rfl
theorem make8 (n : Nat) (h : n ≤ 35184372088832) : ∀ w : World, (Instr.makeSlice 31 (.int .i64 (n : Int)) (.int .i64 (n : Int))).run Tryd.prog w = .ok (.slice (some ⟨w.heap.size, 0, none⟩) n n) (w.alloc (.cells (madeCells #[.int .u8 0] n) 5)) :=
  fun w => run_make_row' _ _ _ 1 Tryd.underlying31 info8 rfl _ _ n (by omega) (by omega) w
end Go.Proofs.YteggjfmcpodepaaDoor
namespace Go.Proofs.YteggjfmcpodepaaDoor
open Go.RowKit

/-- Slices of one's own have room. -/
theorem Own8.room {w : World} {base : Nat} {A : Option Addr} {c : Nat} {xs : List Nat} (h : Own8 w base A c xs) : xs.length ≤ c := by
  rcases h.1.2 with ⟨hv, h0⟩ | ⟨g, cap, cur, hv, _, _, hle, _⟩
  · omega
  · injection hv; omega
set_option maxRecDepth 100000 in
set_option maxHeartbeats 1000000 in
theorem rcut_any (A : Option Addr) (c : Nat) (ds : List Nat) (w : World) (hx : Nums8 w A ds) (hs : small 10 ds) (hc : ds.length ≤ c) (hl : ds.length ≤ 9223372036854775807) :
    Calls Tryd.prog 55 #[.slice A ds.length c] w fun e w' => e = .returned (.slice A (digs 10 (val 10 ds)).length c) ∧ digs 10 (val 10 ds) = ds.take (digs 10 (val 10 ds)).length ∧ (digs 10 (val 10 ds)).length ≤ ds.length ∧ w' = w := by
  go_enter Tryd.func55, Tryd.ntmps55
  go_wp2
  go_loop [3] (fun v => ∃ k : Nat, k ≤ ds.length ∧ v = .int .i64 k ∧ ∀ j, k ≤ j → nth ds j = 0) (fun v => (intOf v).toNat)
  case atStart => exact ⟨ds.length, Nat.le_refl _, rfl, fun j hj => nth_past ds j hj⟩
  case round =>
    obtain ⟨k, hk, rfl, hz⟩ := hrel
    have HZ := Lib.hid hz; clear hz
    have hend : (k = 0 ∨ nth ds (k - 1) ≠ 0) → ds.take k = digs 10 (val 10 ds) := fun h =>
      strip_eq (by decide) hs hk (fun j hj _ => by have := HZ.out j (by omega); unfold nth at this; omega) (fun h0 => by
        rcases h with h | h
        · omega
        · unfold nth at h; omega)
    have hlen : (ds.take k).length = k := by rw [List.length_take]; omega
    by_cases hk0 : k = 0
    · have he := hend (Or.inl hk0)
      subst hk0
      have HE := Lib.hid he
      clear hend he
      go_wp2
      go_ret
      refine ⟨?_, ?_, ?_, rfl⟩
      · rw [← HE.out]; rfl
      · rw [← HE.out]; rfl
      · rw [← HE.out]; simp
    · obtain ⟨m, rfl⟩ : ∃ m, k = m + 1 := ⟨k - 1, by omega⟩
      obtain ⟨b, o, rfl, hb, hcell'⟩ := hx.2 (by omega)
      have hcell := hcell' m (by omega)
      have hm1 : (m : Int) < (ds.length : Int) := by omega
      have hmc : m + 1 ≤ c := by omega
      clear hcell'
      by_cases hl0 : nth ds m = 0
      · have hb0 : (nth ds m == 0) = true := beq_iff_eq.2 hl0
        have H0 := Lib.hid hl0
        clear hl0 hend
        go_wp2
        go_round
        case rel => exact ⟨m, by omega, by go_num, fun j hj => by
          by_cases e : j = m
          · rw [e]; exact H0.out
          · exact HZ.out j (by omega)⟩
        case measure => simp [intOf]
      · have hb0 : (nth ds m == 0) = false := beq_eq_false_iff_ne.2 hl0
        have he := hend (Or.inr (by rw [Nat.add_sub_cancel]; exact hl0))
        have HE := Lib.hid he; have HL := Lib.hid hlen
        clear hend he hl0 hlen
        go_wp2
        go_ret
        refine ⟨?_, ?_, ?_, rfl⟩
        · rw [← HE.out, HL.out]; rfl
        · rw [← HE.out, HL.out]
        · rw [← HE.out, HL.out]; exact hk
end Go.Proofs.YteggjfmcpodepaaDoor
namespace Go.Proofs.YteggjfmcpodepaaDoor

/-- The decimal digits of a number, the lowest first. -/
@[irreducible] def tens (i : Int) : List Nat := digs 10 i.natAbs
theorem tens_eq (i : Int) : tens i = digs 10 i.natAbs := by unfold tens; rfl
theorem tens_small (i : Int) : small 10 (tens i) := by rw [tens_eq]; exact small_digs (by decide) _
theorem val_tens (i : Int) : val 10 (tens i) = i.natAbs := by rw [tens_eq]; exact val_digs (by decide) _
theorem tens_zero : tens 0 = [] := by rw [tens_eq]; rfl

theorem getD_val {b : Nat} (hb : 0 < b) : ∀ {l : List Nat}, small b l → ∀ k, l.getD k 0 = val b l / b ^ k % b
  | [], _, k => by simp [val]
  | x :: l, h, 0 => by
    obtain ⟨h1, _⟩ := small_cons.1 h
    simp [val, Nat.add_mul_mod_self_left, Nat.mod_eq_of_lt h1]
  | x :: l, h, k + 1 => by
    obtain ⟨h1, h2⟩ := small_cons.1 h
    have e : val b (x :: l) / b ^ (k + 1) = val b l / b ^ k := by
      rw [Nat.pow_succ, Nat.mul_comm, ← Nat.div_div_eq_div_mul]
      congr 1
      simp only [val]
      rw [Nat.add_mul_div_left _ _ hb, Nat.div_eq_of_lt h1, Nat.zero_add]
    rw [e, ← getD_val hb h2 k]
    simp
theorem nth_val {b : Nat} (hb : 0 < b) {l : List Nat} (h : small b l) (k : Nat) : nth l k = ((val b l / b ^ k % b : Nat) : Int) := by
  unfold nth; rw [getD_val hb h k]
theorem nth_tens (i : Int) (k : Nat) : nth (tens i) k = ((i.natAbs / 10 ^ k % 10 : Nat) : Int) := by
  rw [nth_val (by decide) (tens_small i), val_tens]

/-- So many digits of a number, the lowest first, noughts ahead too. -/
def pad : Nat → Nat → List Nat
  | 0, _ => []
  | k + 1, n => n % 10 :: pad k (n / 10)
theorem pad_length : ∀ k n, (pad k n).length = k
  | 0, _ => rfl
  | k + 1, n => by simp [pad, pad_length k]
theorem pad_small : ∀ k n, small 10 (pad k n)
  | 0, _ => small_nil
  | k + 1, n => small_cons.2 ⟨Nat.mod_lt _ (by decide), pad_small k _⟩
theorem pad_val : ∀ k n, val 10 (pad k n) = n % 10 ^ k
  | 0, n => by simp [pad, val, Nat.mod_one]
  | k + 1, n => by
    rw [pad, val, pad_val k, Nat.pow_succ, Nat.mul_comm (10 ^ k) 10, Nat.mod_mul]
theorem pad_snoc : ∀ k n, pad (k + 1) n = pad k n ++ [n / 10 ^ k % 10]
  | 0, n => by simp [pad]
  | k + 1, n => by
    rw [pad, pad_snoc k, pad, List.cons_append, Nat.div_div_eq_div_mul, Nat.pow_succ, Nat.mul_comm 10]
theorem B18_pow (k : Nat) : B18 ^ k = 10 ^ (18 * k) := by
  rw [Nat.pow_mul]; rfl
theorem chunk_div (V k j : Nat) : V / 10 ^ (18 * k + j) = V / B18 ^ k / 10 ^ j := by
  rw [B18_pow, Nat.div_div_eq_div_mul, Nat.pow_add]
theorem mod_div_pow (M j : Nat) (hj : j ≤ 18) : M % B18 / 10 ^ j = M / 10 ^ j % 10 ^ (18 - j) := by
  have e : B18 = 10 ^ j * 10 ^ (18 - j) := by rw [← Nat.pow_add, show j + (18 - j) = 18 from by omega]; rfl
  rw [e, Nat.mod_mul_right_div_self]
theorem chunk_digit (M j : Nat) (hj : j < 18) : M % B18 / 10 ^ j % 10 = M / 10 ^ j % 10 := by
  rw [mod_div_pow M j (by omega)]
  refine Nat.mod_mod_of_dvd _ ?_
  obtain ⟨m, hm⟩ : ∃ m, 18 - j = m + 1 := ⟨17 - j, by omega⟩
  rw [hm, Nat.pow_succ]
  exact Nat.dvd_mul_left _ _
/-- The digit of a row of limbs at a place. -/
theorem limb_digit {xs : List Nat} (h : small B18 xs) (k j : Nat) (hj : j < 18) : xs.getD k 0 / 10 ^ j % 10 = val B18 xs / 10 ^ (18 * k + j) % 10 := by
  rw [getD_val (by unfold B18; omega) h k, chunk_div, chunk_digit _ j hj]
theorem val_lt18 {xs : List Nat} (h : small B18 xs) : val B18 xs < 10 ^ (18 * xs.length) := by
  rw [← B18_pow]; exact val_lt h
theorem digs_pad {n k : Nat} (h : n < 10 ^ k) : digs 10 (val 10 (pad k n)) = digs 10 n := by
  rw [pad_val, Nat.mod_eq_of_lt h]
theorem digs_peel {b : Nat} (hb : 2 ≤ b) (n m : Nat) (h : n / b ^ m ≠ 0) : digs b (n / b ^ m) = n / b ^ m % b :: digs b (n / b ^ (m + 1)) := by
  rw [digs_step hb h, Nat.div_div_eq_div_mul, Nat.pow_succ]
theorem tens_le (i : Int) (m : Nat) : (tens i).length ≤ 18 * m ↔ i.natAbs / B18 ^ m = 0 := by
  have h0 : 0 < B18 ^ m := Nat.pow_pos (by unfold B18; omega)
  rw [tens_eq, digs_length_le (by decide), ← B18_pow]
  constructor
  · intro h; exact Nat.div_eq_of_lt h
  · intro h
    rcases Nat.lt_or_ge i.natAbs (B18 ^ m) with h1 | h1
    · exact h1
    · have := Nat.div_pos h1 h0; omega
/-- A limb is built from its digits, the highest first. -/
theorem limb_step (M k : Nat) (hk : k < 18) : M % B18 / 10 ^ k = 10 * (M % B18 / 10 ^ (k + 1)) + M / 10 ^ k % 10 := by
  rw [← chunk_digit M k hk, Nat.pow_succ, ← Nat.div_div_eq_div_mul]
  omega
end Go.Proofs.YteggjfmcpodepaaDoor
namespace Go.Proofs.YteggjfmcpodepaaDoor
open Go.RowKit

/-- What a call leaves that answers a number in digits. -/
def RetNum (W : World) (i : Int) (e : Ending) (w' : World) : Prop :=
  ∃ A c, e = .returned (.agg #[.bool (decide (i < 0)), .slice A (tens i).length c]) ∧ Own8 w' W.heap.size A c (tens i) ∧ Below W.heap.size W w'
theorem cells_one8 (w : World) (x : Int) (a : Nat) (hx : x = (a : Int)) :
    ∀ j u, ([a].map fun x : Nat => Value.int .u8 (x : Int))[j]? = some u → (w.alloc (.cells #[.int .u8 x] 5)).cell? ((⟨w.heap.size, 0, none⟩ : Addr).add j) = some u := by
  subst hx
  intro j u hj
  match j, hj with
  | 0, hj => simp at hj; subst hj; simp [Addr.add]
theorem wrap8 (u : Int) (h : 0 ≤ u) (h9 : u < 256) : IntKind.u8.wrap u = u := by
  simp [IntKind.wrap, IntKind.signed, IntKind.bits]; omega
theorem digs10_step {u : Int} (h : 0 < u) : digs 10 u.toNat = (u % 10).toNat :: digs 10 (u / 10).toNat := by
  rw [digs_step (by decide) (by omega : u.toNat ≠ 0)]
  have e1 : (u % 10).toNat = u.toNat % 10 := by omega
  have e2 : (u / 10).toNat = u.toNat / 10 := by omega
  rw [e1, e2]
theorem u64_abs_neg (n : Int) (h0 : -9223372036854775808 ≤ n) (hn : n < 0) : IntKind.u64.wrap (-IntKind.u64.wrap n) = ((n.natAbs : Nat) : Int) := by
  simp [IntKind.wrap, IntKind.signed, IntKind.bits]; omega
theorem u64_abs_pos (n : Int) (h1 : n ≤ 9223372036854775807) (hn : 0 ≤ n) : IntKind.u64.wrap n = ((n.natAbs : Nat) : Int) := by
  simp [IntKind.wrap, IntKind.signed, IntKind.bits]; omega

set_option maxRecDepth 100000
set_option maxHeartbeats 1000000 in
theorem rint_any (n : Int) (w : World) (h0 : -9223372036854775808 ≤ n) (h1 : n ≤ 9223372036854775807) :
    Calls Tryd.prog 24 #[.int .i64 n] w (RetNum w n) := by
  have hm64 : n.natAbs ≤ 9223372036854775808 := by omega
  by_cases hn : n < 0
  all_goals
    first | have hw := u64_abs_neg n h0 hn | have hw := u64_abs_pos n h1 (by omega)
    obtain ⟨m, hm⟩ : ∃ m, m = n.natAbs := ⟨_, rfl⟩
    rw [← hm] at hw hm64
    have HM := Lib.hid hm
    clear hm
    go_enter Tryd.func24, Tryd.ntmps24
    go_wp2_with fail
    go_loopw [3, 4] (fun uv dv wr => ∃ (u : Int) (A' : Option Addr) (c' : Nat) (zs : List Nat), uv = .int .u64 u ∧ 0 ≤ u ∧ u ≤ 9223372036854775808 ∧ dv = .slice A' zs.length c' ∧ Own8 wr (w.heap.size + 1) A' c' zs ∧ zs.length + u.toNat ≤ 17592186044416 + 9223372036854775808 ∧ small 10 zs ∧
        Hid (zs ++ digs 10 u.toNat = digs 10 m) ∧ Below (w.heap.size + 1) (w.alloc (.cells #[.bool false, .slice none 0 0] 33)) wr) (fun uv _ _ => (intOf uv).toNat)
    case atStart => exact ⟨(m : Int), none, 0, [], rfl, by omega, by omega, rfl, Own8.nil _ _, by simp; omega, small_nil, rfl, Below.refl _ _⟩
    case round =>
      obtain ⟨u, A', c', zs, rfl, hu0, hu1, rfl, hown, hzl, hzs, HZ, hbel⟩ := hrel
      have hlen : zs.length ≤ 20 := by
        have h1 : (digs 10 m).length ≤ 20 := (digs_length_le (by decide) m 20).2 (Nat.lt_of_le_of_lt hm64 (by decide))
        have h2 := HZ.out
        rw [← h2, List.length_append] at h1; omega
      have R1 := (Blk.new w 33 #[.bool false, .slice none 0 0]).below hbel (by omega)
      have hsz := hbel.size
      simp only [World.size_alloc] at hsz
      by_cases hu : 0 < u
      · have hd := digs10_step hu
        have hw8 := wrap8 (u % 10) (by omega) (by omega)
        have e1 : u % 10 = (((u % 10).toNat : Nat) : Int) := by omega
        have HC := Lib.hid (cells_one8 wr _ _ e1)
        have H8 : Hid (∀ x ∈ [(u % 10).toNat], x < 256) := by intro x hx'; simp only [List.mem_cons, List.not_mem_nil, or_false] at hx'; omega
        have HN : Hid (zs.length + [(u % 10).toNat].length ≤ 17592186044416) := by show zs.length + 1 ≤ _; omega
        have HD := Lib.hid hd
        clear e1 hd hzl
        go_wp2_with (at_builtin; go_loud (refine wpList_app8 rfl (.tmp 13) (.tmp 17) rfl (w.heap.size + 1) A' c' zs rfl (hown.alloc _) [(u % 10).toNat] ⟨wr.heap.size, 0, none⟩ 1 1 rfl rfl (by exact HC.out) H8.out HN.out (by simp; omega) (fun A2 c2 w2 hown2 hg2 => ?_)))
        go_roundw
        case rel => exact ⟨u / 10, A2, c2, zs ++ [(u % 10).toNat], by go_num, by omega, by omega, by simp, hown2, by simp; omega,
          small_append.2 ⟨hzs, by intro y hy; simp only [List.mem_cons, List.not_mem_nil, or_false] at hy; omega⟩, by show _ = _; rw [List.append_assoc, List.singleton_append, ← HD.out]; exact HZ.out, Below.own8 (hbel.alloc (by simpa using hsz) _) (hown.alloc _) (by simp; omega) hg2⟩
        case measure => simp [intOf]; omega
      · obtain rfl : u = 0 := by omega
        have hz : zs = tens n := by
          have := HZ.out
          rw [show (0 : Int).toNat = 0 from rfl, digs_zero, List.append_nil] at this
          rw [this, tens_eq, HM.out]
        obtain ⟨r0, r1, r2, r3⟩ := R1.two
        subst hz
        clear hzl HZ
        go_wp2_with fail
        refine bodyPost_ret (v := .agg #[.bool (decide (n < 0)), .slice A' (tens n).length c']) (by simp [results, Tryd.results24, go_sem, r0, r1, hn]) rfl ?_
        exact ⟨A', c', rfl, ((hown.setBelow (by show w.heap.size < w.heap.size + 1; omega) _).setBelow (by show w.heap.size < w.heap.size + 1; omega) _).mono (by omega),
          (((Below.refl _ _).alloc (Nat.le_refl _) _).trans (hbel.mono (by omega))).setCell (Nat.le_refl _) _ |>.setCell (Nat.le_refl _) _⟩
end Go.Proofs.YteggjfmcpodepaaDoor
namespace Go.Proofs.YteggjfmcpodepaaDoor
open Go.RowKit

theorem rcut_long (base : Nat) (A : Option Addr) (c : Nat) (ds : List Nat) (i : Int) (w : World) (hown : Own8 w base A c ds) (hs : small 10 ds) (hv : val 10 ds = i.natAbs) (hl : ds.length ≤ 9223372036854775807) :
    Calls Tryd.prog 55 #[.slice A ds.length c] w fun e w' => e = .returned (.slice A (tens i).length c) ∧ Own8 w base A c (tens i) ∧ w = w' := by
  refine (rcut_any A c ds w hown.nums hs hown.room hl).mono fun e w' h => ?_
  obtain ⟨rfl, h2, h3, rfl⟩ := h
  rw [hv, ← tens_eq] at h2 h3 ⊢
  refine ⟨rfl, ?_, rfl⟩
  by_cases h0 : ds = []
  · subst h0
    have : tens i = [] := List.eq_nil_of_length_eq_zero (by simpa using h3)
    rw [this]; exact hown
  · rw [h2]; exact hown.cut h0 h3
theorem rcut_tens (base : Nat) (A : Option Addr) (c : Nat) (ds : List Nat) (i : Int) (w : World) (hown : Own8 w base A c ds) (hs : small 10 ds) (hv : val 10 ds = i.natAbs) (hl : ds.length ≤ 1048576) :
    Calls Tryd.prog 55 #[.slice A ds.length c] w fun e w' => e = .returned (.slice A (tens i).length c) ∧ Own8 w base A c (tens i) ∧ w = w' := rcut_long base A c ds i w hown hs hv (by omega)
theorem of_step {xs : List Nat} (h : small B18 xs) {k j : Nat} (hj : j < 18) {l : Int} (hl : l = ((xs.getD k 0 / 10 ^ j : Nat) : Int)) :
    pad (18 * k + j) (val B18 xs) ++ [(l % 10).toNat] = pad (18 * k + (j + 1)) (val B18 xs) ∧ l / 10 = ((xs.getD k 0 / 10 ^ (j + 1) : Nat) : Int) := by
  have h1 := limb_digit h k j hj
  have h2 := pad_snoc (18 * k + j) (val B18 xs)
  rw [← h1] at h2
  have h3 : xs.getD k 0 / 10 ^ (j + 1) = xs.getD k 0 / 10 ^ j / 10 := by rw [Nat.pow_succ, Nat.div_div_eq_div_mul]
  subst hl
  refine ⟨?_, by rw [h3]; omega⟩
  rw [show 18 * k + (j + 1) = 18 * k + j + 1 from by omega, h2]
  congr 2
theorem limb_zero (xs : List Nat) (k : Nat) : nth xs k = ((xs.getD k 0 / 10 ^ 0 : Nat) : Int) := by unfold nth; simp

set_option maxRecDepth 100000
set_option maxHeartbeats 1000000 in
theorem rof_any (n1 : Bool) (A : Option Addr) (c : Nat) (xs : List Nat) (w : World) (hx : Nums w A xs) (hg : goodB n1 xs = true) :
    Calls Tryd.prog 18 #[.agg #[.bool n1, .slice A xs.length c]] w (RetNum w (num n1 xs)) := by
  obtain ⟨hs, hn, hl, _⟩ := good_parts hg
  have HS := Lib.hid hs
  have HN := Lib.hid (neg_num hg)
  have HA := Lib.hid (num_natAbs n1 xs)
  clear hs hn hg
  generalize num n1 xs = i at *
  go_enter Tryd.func18, Tryd.ntmps18
  go_wp2_with fail
  go_loopw [3, 4, 5, 6] (fun dv iv _ _ wr => ∃ (k : Nat) (A' : Option Addr) (c' : Nat) (zs : List Nat), k ≤ xs.length ∧ iv = .int .i64 k ∧ dv = .slice A' zs.length c' ∧ zs.length ≤ 18 * k ∧ Own8 wr (w.heap.size + 2) A' c' zs ∧
      Hid (zs = pad (18 * k) (val B18 xs)) ∧ Below (w.heap.size + 2) ((w.alloc (.cells #[.bool n1, .slice A xs.length c] 24)).alloc (.cells #[.bool false, .slice none 0 0] 33)) wr) (fun _ iv _ _ _ => xs.length - (intOf iv).toNat)
  case atStart => exact ⟨0, none, 0, [], Nat.zero_le _, rfl, rfl, by simp, Own8.nil _ _, rfl, Below.refl _ _⟩
  case round =>
    obtain ⟨k, A', c', zs, hk, rfl, rfl, hzl, hown, HZ, hbel⟩ := hrel
    have R0 := (Blk.first w 24 #[.bool n1, .slice A xs.length c] (.cells #[.bool false, .slice none 0 0] 33)).below hbel (by omega)
    have R1 := (Blk.new1 w (.cells #[.bool n1, .slice A xs.length c] 24) 33 #[.bool false, .slice none 0 0]).below hbel (by omega)
    have hxr : Nums wr A xs := hx.below (w := w) (B := w.heap.size) ((((Below.refl _ _).alloc (Nat.le_refl _) _).alloc (by simp) _).trans (hbel.mono (by omega))) (Nat.le_refl _)
    obtain ⟨r0, r1, r2, r3⟩ := R0.two
    have hsz := hbel.size
    simp only [World.size_alloc] at hsz
    by_cases hkn : k < xs.length
    · obtain ⟨b, o, rfl, hb, hc⟩ := hxr.2 (by omega)
      have hcell := hc k hkn
      have hm1 : (k : Int) < (xs.length : Int) := by omega
      have hm0 : (0 : Int) ≤ (k : Int) := by omega
      have hnn := nth_nonneg xs k
      have hnl := nth_lt (by unfold B18; omega) HS.out k
      rw [B18_eq] at hnl
      have HL0 := Lib.hid (limb_zero xs k)
      clear hc
      go_wp2_with fail
      obtain ⟨wo, rfl⟩ : ∃ wo : World, wo = wr := ⟨_, rfl⟩
      go_loopw [3, 5, 6] (fun dv lv jv wi => ∃ (j : Nat) (l : Int) (A' : Option Addr) (c' : Nat) (zs : List Nat), j ≤ 18 ∧ jv = .int .i64 j ∧ lv = .int .u64 l ∧ 0 ≤ l ∧ l < 1000000000000000000 ∧ dv = .slice A' zs.length c' ∧ zs.length ≤ 18 * k + j ∧ Own8 wi (w.heap.size + 2) A' c' zs ∧
          Hid (l = ((xs.getD k 0 / 10 ^ j : Nat) : Int)) ∧ Hid (zs = pad (18 * k + j) (val B18 xs)) ∧ Below (w.heap.size + 2) ((w.alloc (.cells #[.bool n1, .slice (some ⟨b, o, none⟩) xs.length c] 24)).alloc (.cells #[.bool false, .slice none 0 0] 33)) wi) (fun _ _ jv _ => 18 - (intOf jv).toNat)
      case atStart => exact ⟨0, nth xs k, A', c', zs, by omega, rfl, rfl, hnn, by omega, rfl, by omega, hown, HL0, HZ, hbel⟩
      case round =>
        obtain ⟨j, l, A2, c2, ys, hj, rfl, rfl, hl0, hl1, rfl, hyl, hown2, HL, HY, hbel2⟩ := hrel
        have hsz2 := hbel2.size
        simp only [World.size_alloc] at hsz2
        by_cases hj18 : j < 18
        · have hstep := of_step HS.out hj18 HL.out
          have hw8 := wrap8 (l % 10) (by omega) (by omega)
          have e1 : l % 10 = (((l % 10).toNat : Nat) : Int) := by omega
          have HC := Lib.hid (cells_one8 wr _ _ e1)
          have H8 : Hid (∀ x ∈ [(l % 10).toNat], x < 256) := by intro x hx'; simp only [List.mem_cons, List.not_mem_nil, or_false] at hx'; omega
          have HN : Hid (ys.length + [(l % 10).toNat].length ≤ 17592186044416) := by show ys.length + 1 ≤ _; omega
          have HST := Lib.hid hstep
          have hj18' : (j : Int) < 18 := by omega
          clear e1 hstep
          go_wp2_with (at_builtin; go_loud (refine wpList_app8 rfl (.tmp 23) (.tmp 27) rfl (w.heap.size + 2) A2 c2 ys rfl (hown2.alloc _) [(l % 10).toNat] ⟨wr.heap.size, 0, none⟩ 1 1 rfl rfl (by exact HC.out) H8.out HN.out (by simp; omega) (fun A3 c3 w3 hown3 hg3 => ?_)))
          go_roundw
          case rel => exact ⟨j + 1, l / 10, A3, c3, ys ++ [(l % 10).toNat], by omega, by go_num, by go_num, by omega, by omega, by simp, by simp; omega, hown3, HST.out.2, by show _ = _; rw [HY.out]; exact HST.out.1, Below.own8 (hbel2.alloc (by simpa using hsz2) _) (hown2.alloc _) (by simp; omega) hg3⟩
          case measure => simp [intOf]; omega
        · obtain rfl : j = 18 := by omega
          have HY2 : Hid (ys = pad (18 * (k + 1)) (val B18 xs)) := HY
          clear HY
          go_wp2_with fail
          go_roundw
          case rel => exact ⟨k + 1, A2, c2, ys, by omega, by go_num, rfl, by omega, hown2, HY2, hbel2⟩
          case measure => simp [intOf]; omega
    · obtain rfl : k = xs.length := by omega
      have hvz : val 10 zs = i.natAbs := by
        rw [HZ.out, pad_val, Nat.mod_eq_of_lt (val_lt18 HS.out), HA.out]
      have hsz10 : small 10 zs := by rw [HZ.out]; exact pad_small _ _
      have HV := Lib.hid hvz; have H10 := Lib.hid hsz10
      clear hvz hsz10
      obtain ⟨q0, q1, q2, q3⟩ := R1.two
      go_wp2_with fail
      go_region_with (go_at_call 55; refine (rcut_tens (w.heap.size + 2) _ _ _ i _ (by first | exact hown | exact hown.drew) H10.out HV.out (by omega)).mono ?_; rintro e w' ⟨rfl, hown3, rfl⟩)
      all_goals
        go_wp2_with fail
        refine bodyPost_ret (v := .agg #[.bool n1, .slice A' (tens i).length c']) (by simp [results, Tryd.results18, go_sem, q0, q1]) rfl ?_
        exact ⟨A', c', by rw [HN.out], ((hown3.setBelow (by show w.heap.size + 1 < w.heap.size + 2; omega) _).setBelow (by show w.heap.size + 1 < w.heap.size + 2; omega) _).mono (by omega),
          ((((((Below.refl _ _).alloc (Nat.le_refl _) _).alloc (by simp) _).trans (hbel.mono (by omega))).drew).setCell (by show w.heap.size ≤ w.heap.size + 1; omega) _).setCell (by show w.heap.size ≤ w.heap.size + 1; omega) _⟩
end Go.Proofs.YteggjfmcpodepaaDoor
namespace Go.Proofs.YteggjfmcpodepaaDoor
open Go.RowKit

theorem to_step (n : Int) (m j : Nat) (hj : j < 18) {l : Int} (hl : l = ((n.natAbs / B18 ^ m % B18 / 10 ^ (j + 1) : Nat) : Int)) :
    l * 10 + nth (tens n) (18 * m + j) = ((n.natAbs / B18 ^ m % B18 / 10 ^ j : Nat) : Int) ∧ 0 ≤ l ∧ l < 100000000000000000 := by
  have h1 := limb_step (n.natAbs / B18 ^ m) j hj
  have h2 : nth (tens n) (18 * m + j) = ((n.natAbs / B18 ^ m / 10 ^ j % 10 : Nat) : Int) := by rw [nth_tens, chunk_div]
  have h3 : n.natAbs / B18 ^ m % B18 / 10 ^ (j + 1) < 100000000000000000 := by
    have h4 : n.natAbs / B18 ^ m % B18 < B18 := Nat.mod_lt _ (by unfold B18; omega)
    have h5 : n.natAbs / B18 ^ m % B18 / 10 ^ (j + 1) ≤ n.natAbs / B18 ^ m % B18 / 10 := by
      rw [Nat.pow_succ, Nat.mul_comm, ← Nat.div_div_eq_div_mul]; exact Nat.div_le_self _ _
    unfold B18 at h4 h5 ⊢
    omega
  subst hl
  rw [h2]
  refine ⟨?_, by omega, by omega⟩
  rw [h1]
  omega
theorem Blk.app {w w3 : World} {g : Nat} {t : TypeId} {cs : Array Value} {base : Nat} {A : Option Addr} {c : Nat} {xs : List Nat} (h : Blk w g t cs) (hown : Own w base A c xs) (hg : w.grownBy w3 (Value.slice A xs.length c).ownBlock) (ht : 63 ≠ t) : Blk w3 g t cs :=
  h.grown hg (fun e => own_blk_ne hown.1 h ht e.symm)
theorem ne_big : (63 : TypeId) ≠ 24 := by decide
theorem to_top (n : Int) (m : Nat) : (0 : Int) = ((n.natAbs / B18 ^ m % B18 / 10 ^ 18 : Nat) : Int) := by
  have h4 : n.natAbs / B18 ^ m % B18 < 10 ^ 18 := Nat.mod_lt _ (by unfold B18; omega)
  rw [Nat.div_eq_of_lt h4]; rfl
theorem to_peel (n : Int) (m : Nat) (h : ¬ (tens n).length ≤ 18 * m) {zs : List Nat} (hz : zs ++ digs B18 (n.natAbs / B18 ^ m) = limbs n) {l : Int} (hl : l = ((n.natAbs / B18 ^ m % B18 / 10 ^ 0 : Nat) : Int)) :
    (zs ++ [l.toNat]) ++ digs B18 (n.natAbs / B18 ^ (m + 1)) = limbs n ∧ l.toNat < 1000000000000000000 := by
  rw [digs_peel B18_two _ _ (fun e => h ((tens_le n m).2 e))] at hz
  subst hl
  refine ⟨?_, ?_⟩
  · rw [List.append_assoc, ← hz, Nat.pow_zero, Nat.div_one, Int.toNat_natCast, List.singleton_append]
  · have h4 : n.natAbs / B18 ^ m % B18 < B18 := Nat.mod_lt _ (by unfold B18; omega)
    unfold B18 at h4 ⊢
    simp only [Nat.pow_zero, Nat.div_one]
    omega
theorem to_end (n : Int) (m : Nat) (h : (tens n).length ≤ 18 * m) {zs : List Nat} (hz : zs ++ digs B18 (n.natAbs / B18 ^ m) = limbs n) : zs = limbs n := by
  rw [(tens_le n m).1 h, digs_zero, List.append_nil] at hz
  exact hz
theorem tens_pos {n : Int} (h : n < 0) : 0 < (tens n).length := by
  rw [tens_eq]; exact digs_pos (by decide) (by omega)

set_option maxRecDepth 100000
set_option maxHeartbeats 1000000 in
theorem rto_any (A : Option Addr) (c : Nat) (n : Int) (w : World) (hx : Nums8 w A (tens n)) (hl : (tens n).length ≤ 1048576) :
    Calls Tryd.prog 23 #[.agg #[.bool (decide (n < 0)), .slice A (tens n).length c]] w (RetBig w n) := by
  obtain ⟨bn, hbn⟩ : ∃ bn, bn = decide (n < 0) := ⟨_, rfl⟩
  rw [← hbn]
  have HB := Lib.hid hbn
  have hpos : bn = true → 0 < (tens n).length := fun e => tens_pos (by rw [e] at hbn; simpa using hbn.symm)
  have HP := Lib.hid hpos
  clear hbn hpos
  have hsm := tens_small n
  have HS := Lib.hid hsm
  clear hsm
  go_enter Tryd.func23, Tryd.ntmps23
  go_wp2_with fail
  go_loopw [4, 5, 6] (fun iv _ _ wr => ∃ (I : Int) (m : Nat) (A' : Option Addr) (c' : Nat) (zs : List Nat), iv = .int .i64 I ∧ 0 ≤ I ∧ I ≤ 2000000 ∧ zs.length ≤ m ∧ Hid (I = 18 * (m : Int)) ∧ Blk wr (w.heap.size + 2) 24 #[.bool false, .slice A' zs.length c'] ∧ Own wr (w.heap.size + 3) A' c' zs ∧
      Hid (zs ++ digs B18 (n.natAbs / B18 ^ m) = limbs n) ∧ Below (w.heap.size + 2) ((w.alloc (.cells #[.bool bn, .slice A (tens n).length c] 33)).alloc (.cells #[.bool false, .slice none 0 0] 24)) wr) (fun iv _ _ _ => 2000000 - (intOf iv).toNat)
  case atStart => exact ⟨0, 0, none, 0, [], rfl, by omega, by omega, by simp, by show _ = _; rfl, Blk.newAt (by simp), Own.nil _ _, by show _ = _; rw [limbs_eq]; simp, (Below.refl _ _).alloc (by simp) _⟩
  case round =>
    obtain ⟨I, m, A', c', zs, rfl, hI0, hI1, hzm, HI, RX, hown, HZ, hbel⟩ := hrel
    have R0 := (Blk.first w 33 #[.bool bn, .slice A (tens n).length c] (.cells #[.bool false, .slice none 0 0] 24)).below hbel (by omega)
    have R1 := (Blk.new1 w (.cells #[.bool bn, .slice A (tens n).length c] 33) 24 #[.bool false, .slice none 0 0]).below hbel (by omega)
    have hxr : Nums8 wr A (tens n) := hx.below (w := w) (B := w.heap.size) ((((Below.refl _ _).alloc (Nat.le_refl _) _).alloc (by simp) _).trans (hbel.mono (by omega))) (Nat.le_refl _)
    obtain ⟨r0, r1, r2, r3⟩ := R0.two
    obtain ⟨q0, q1, q2, q3⟩ := R1.two
    obtain ⟨x0, x1, x2, x3⟩ := RX.two
    have hsz := RX.lt
    by_cases hkn : I < ((tens n).length : Int)
    · have HN1 : Hid (¬ (tens n).length ≤ 18 * m) := by have := HI.out; show ¬ _; omega
      obtain ⟨b, o, rfl, hb, hc⟩ := hxr.2 (by omega)
      have HC := Lib.hid hc
      clear hc
      go_wp2_with fail
      go_loop [5, 6] (fun lv kv => ∃ (j : Nat) (l K : Int), lv = .int .u64 l ∧ kv = .int .i64 K ∧ j ≤ 18 ∧ Hid (K = I + (j : Int) - 1) ∧ Hid (l = ((n.natAbs / B18 ^ m % B18 / 10 ^ j : Nat) : Int)) ∧ 0 ≤ l ∧ l < 1000000000000000000 ∧ I - 1 ≤ K ∧ K ≤ I + 17) (fun _ kv => (intOf kv + 1).toNat)
      case atStart => exact ⟨18, 0, I + 17, rfl, rfl, by omega, by show _ = _; omega, to_top n m, by omega, by omega, by omega, by omega⟩
      case round =>
        obtain ⟨j, l, K, rfl, rfl, hj, HK, HL, hl0, hl1, hK0, hK1⟩ := hrel
        by_cases hj0 : j = 0
        · subst hj0
          have hKI : K < I := by have := HK.out; omega
          have hpeel := to_peel n m HN1.out HZ.out HL.out
          have HPL := Lib.hid hpeel
          have e1 : l = ((l.toNat : Nat) : Int) := by omega
          have hC1 := cells_one wr _ _ e1
          have H64 : Hid (∀ x ∈ [l.toNat], x < 18446744073709551616) := by intro x hx'; simp only [List.mem_cons, List.not_mem_nil, or_false] at hx'; omega
          have HN : Hid (zs.length + [l.toNat].length ≤ 17592186044416) := by have := HI.out; show zs.length + 1 ≤ _; omega
          have HC1 := Lib.hid hC1
          have hmI : Hid (I + 18 = 18 * ((m + 1 : Nat) : Int)) := by have := HI.out; show _ = _; omega
          have hIl : I < 1048576 := by omega
          have HB0 : Hid (w.heap.size + 3 ≤ (wr.alloc (.cells #[.int .u64 l] 63)).heap.size) := by show _ ≤ _; simp; omega
          clear e1 hC1 hpeel hl
          go_wp2_with (at_builtin; (refine wpList_app rfl (.tmp 37) (.tmp 39) rfl (w.heap.size + 3) A' c' zs rfl (hown.alloc _) [l.toNat] ⟨wr.heap.size, 0, none⟩ 1 1 rfl rfl (by exact HC1.out) H64.out HN.out HB0.out (fun A3 c3 w3 hown3 hg3 => ?_)); (have RX3 := (RX.alloc _).app (hown.alloc _) hg3 ne_big); obtain ⟨y0, y1, y2, y3⟩ := RX3.two)
          go_roundw
          case rel => exact ⟨I + 18, m + 1, A3, c3, zs ++ [l.toNat], rfl, by omega, by omega, by simp; omega, hmI, by simpa using RX3.set_ 1 (.slice A3 (zs ++ [l.toNat]).length c3), hown3.setBelow (by show w.heap.size + 2 < w.heap.size + 3; omega) _, HPL.out.1,
            (Below.own (hbel.alloc (by omega) _) ((hown.alloc _).mono (by omega)) (by simp; omega) hg3).setCell (by show w.heap.size + 2 ≤ w.heap.size + 2; omega) _⟩
          case measure => simp [intOf]; omega
        · obtain ⟨j, rfl⟩ : ∃ j', j = j' + 1 := ⟨j - 1, by omega⟩
          have hKI : I ≤ K := by have := HK.out; omega
          obtain ⟨hs1, _, hs3⟩ := to_step n m j (by omega) HL.out
          have hKj : K.toNat = 18 * m + j := by have := HK.out; have := HI.out; omega
          have hKj2 : K - 1 = I + (j : Int) - 1 := by have := HK.out; omega
          rw [← hKj] at hs1
          have hnn := nth_nonneg (tens n) K.toNat
          have hn10 := nth_lt (by omega) HS.out K.toNat
          have hKp : 0 ≤ K := by omega
          have hw10 : IntKind.u64.wrap (l * 10) = l * 10 := by simp [IntKind.wrap, IntKind.signed, IntKind.bits]; omega
          have HS1 := Lib.hid hs1; have HKJ2 := Lib.hid hKj2
          clear hKj hs1 hKj2
          by_cases hKl : K < ((tens n).length : Int)
          · have hcell := HC.out K.toNat (by omega)
            go_wp2
            go_round
            case rel => exact ⟨j, _, K - 1, rfl, rfl, by omega, HKJ2, HS1, by omega, by omega, by omega, by omega⟩
            case measure => simp [intOf]; omega
          · have hz0 : nth (tens n) K.toNat = 0 := nth_past _ _ (by omega)
            have HS2 : Hid (l * 10 = ((n.natAbs / B18 ^ m % B18 / 10 ^ j : Nat) : Int)) := by have := HS1.out; rw [hz0] at this; show _ = _; omega
            clear hz0
            go_wp2
            go_round
            case rel => exact ⟨j, _, K - 1, rfl, rfl, by omega, HKJ2, HS2, by omega, by omega, by omega, by omega⟩
            case measure => simp [intOf]; omega
    · have hze := to_end n m (by have := HI.out; omega) HZ.out
      subst hze
      clear HZ
      cases bn
      · go_wp2_with fail
        refine bodyPost_ret (v := .agg #[.bool false, .slice A' (limbs n).length c']) (by simp [results, Tryd.results23, go_sem, q0, q1]) rfl ?_
        exact ⟨A', c', by rw [← HB.out], (((hown.setBelow (by show w.heap.size + 2 < w.heap.size + 3; omega) _).setBelow (by show w.heap.size + 1 < w.heap.size + 3; omega) _).setBelow (by show w.heap.size + 1 < w.heap.size + 3; omega) _).mono (by omega),
          ((((((Below.refl _ _).alloc (Nat.le_refl _) _).alloc (by simp) _).trans (hbel.mono (by omega))).setCell (by show w.heap.size ≤ w.heap.size + 2; omega) _).setCell (by show w.heap.size ≤ w.heap.size + 1; omega) _).setCell (by show w.heap.size ≤ w.heap.size + 1; omega) _⟩
      · have hp0 : 0 < (tens n).length := HP.out rfl
        go_wp2_with fail
        refine bodyPost_ret (v := .agg #[.bool true, .slice A' (limbs n).length c']) (by simp [results, Tryd.results23, go_sem, q0, q1]) rfl ?_
        exact ⟨A', c', by rw [← HB.out], (((hown.setBelow (by show w.heap.size + 2 < w.heap.size + 3; omega) _).setBelow (by show w.heap.size + 1 < w.heap.size + 3; omega) _).setBelow (by show w.heap.size + 1 < w.heap.size + 3; omega) _).mono (by omega),
          ((((((Below.refl _ _).alloc (Nat.le_refl _) _).alloc (by simp) _).trans (hbel.mono (by omega))).setCell (by show w.heap.size ≤ w.heap.size + 2; omega) _).setCell (by show w.heap.size ≤ w.heap.size + 1; omega) _).setCell (by show w.heap.size ≤ w.heap.size + 1; omega) _⟩
end Go.Proofs.YteggjfmcpodepaaDoor
namespace Go.Proofs.YteggjfmcpodepaaDoor
open Go.RowKit

section
variable (neg : Bool) (c : Nat) (w : World)
set_option maxRecDepth 100000
theorem rgood_nil (A : Option Addr) :
    Calls Tryd.prog 20 #[.agg #[.bool neg, .slice A 0 c]] w fun e w' => e = .returned (.bool !neg) ∧ Below w.heap.size w w' := by
  go_enter Tryd.func20, Tryd.ntmps20
  go_wp2
  go_ret
  exact ⟨rfl, (Below.refl _ _).alloc (Nat.le_refl _) _⟩

theorem rgood_long (A : Option Addr) (n : Nat) (hn : 30 < n) (hm : n ≤ 9223372036854775807) :
    Calls Tryd.prog 20 #[.agg #[.bool neg, .slice A n c]] w fun e w' => e = .returned (.bool false) ∧ Below w.heap.size w w' := by
  go_enter Tryd.func20, Tryd.ntmps20
  go_wp2
  go_ret
  exact ⟨rfl, (Below.refl _ _).alloc (Nat.le_refl _) _⟩

set_option maxHeartbeats 400000 in
theorem rgood_body (b o : Nat) (xs : List Nat) (h0 : 0 < xs.length) (hn : xs.length ≤ 30) (hb : b < w.heap.size)
    (hc : ∀ k, k < xs.length → w.cell? ⟨b, o + k, none⟩ = some (.int .u64 (nth xs k))) :
    Calls Tryd.prog 20 #[.agg #[.bool neg, .slice (some ⟨b, o, none⟩) xs.length c]] w fun e w' => e = .returned (.bool (if nth xs (xs.length - 1) = 0 then false else allLt xs)) ∧ Below w.heap.size w w' := by
  have hc1 := hc (xs.length - 1) (by omega)
  have hl1 : ((xs.length : Int) == 0) = false := beq_eq_false_iff_ne.2 (by omega)
  obtain ⟨last, hlast⟩ : ∃ v, v = nth xs (xs.length - 1) := ⟨_, rfl⟩
  rw [← hlast] at hc1
  rw [show (if nth xs (xs.length - 1) = 0 then false else allLt xs) = (last != 0 && allLt xs) from by rw [← hlast]; by_cases h : last = 0 <;> simp [h]]
  go_enter Tryd.func20, Tryd.ntmps20
  go_wp2
  go_loop [4] (fun i => ∃ k : Nat, k ≤ xs.length ∧ i = .int .i64 k ∧ ∀ j, j < k → nth xs j < 1000000000000000000) (fun i => xs.length - (intOf i).toNat)
  case atStart => exact ⟨0, Nat.zero_le _, rfl, fun j hj => absurd hj (by omega)⟩
  case round =>
    obtain ⟨k, hk, rfl, hlt⟩ := hrel
    have HL := Lib.hid hlt; clear hlt
    have hcell : k < xs.length → w.cell? ⟨b, o + k, none⟩ = some (.int .u64 (nth xs k)) := hc k
    clear hc hlast
    go_wp2
    · go_ret
      exact ⟨ret_bool (by rw [allLt_no (by assumption) (by assumption), Bool.and_false]), (Below.refl _ _).alloc (Nat.le_refl _) _⟩
    · have h1 : k < xs.length := by assumption
      have h2 : nth xs k < 1000000000000000000 := by assumption
      go_round
      case rel => exact ⟨k + 1, by omega, by go_num, fun j hj => by
        by_cases hjk : j = k
        · rw [hjk]; exact h2
        · exact HL.out j (by omega)⟩
      case measure => simp [intOf]; omega
    · have h1 : ¬ k < xs.length := by assumption
      go_ret
      exact ⟨ret_bool (by rw [allLt_yes fun j hj => HL.out j (by omega), Bool.and_true]), (Below.refl _ _).alloc (Nat.le_refl _) _⟩

/-- The reference's Good, at every number whose limbs can be read. -/
theorem rgood_any (A : Option Addr) (xs : List Nat) (hm : xs.length ≤ 9223372036854775807) (hx : Nums w A xs) :
    Calls Tryd.prog 20 #[.agg #[.bool neg, .slice A xs.length c]] w fun e w' => e = .returned (.bool (goodB neg xs)) ∧ Below w.heap.size w w' := by
  unfold goodB
  by_cases h0 : xs.length = 0
  · rw [if_pos h0, h0]; exact rgood_nil neg c w A
  rw [if_neg h0]
  by_cases h1 : 30 < xs.length
  · rw [if_pos h1]; exact rgood_long neg c w A _ h1 hm
  rw [if_neg h1]
  obtain ⟨b, o, rfl, hb, hc⟩ := hx.2 (by omega)
  exact rgood_body neg c w b o xs (by omega) (by omega) hb hc
end
end Go.Proofs.YteggjfmcpodepaaDoor
namespace Go.Proofs.YteggjfmcpodepaaDoor
open Go.RowKit

/-- Is it the same number, limb for limb? -/
def sameB (n1 : Bool) (xs : List Nat) (n2 : Bool) (ys : List Nat) : Bool := (n1 == n2) && (xs == ys)
theorem list_eq_of_nth {xs ys : List Nat} (hl : xs.length = ys.length) (h : ∀ j, j < xs.length → nth xs j = nth ys j) : xs = ys := by
  apply List.ext_getElem hl
  intro j h1 h2
  have := (nth_eq_iff xs ys j j).1 (h j h1)
  simpa [List.getD, List.getElem?_eq_getElem h1, List.getElem?_eq_getElem h2] using this
theorem sameB_neg {n1 n2 : Bool} {xs ys : List Nat} (h : n1 ≠ n2) : sameB n1 xs n2 ys = false := by unfold sameB; simp [h]
theorem sameB_len {n1 n2 : Bool} {xs ys : List Nat} (h : xs.length ≠ ys.length) : sameB n1 xs n2 ys = false := by
  unfold sameB
  have : (xs == ys) = false := beq_eq_false_iff_ne.2 fun e => h (by rw [e])
  rw [this, Bool.and_false]
theorem sameB_digit {n1 n2 : Bool} {xs ys : List Nat} {k : Nat} (h : nth xs k ≠ nth ys k) : sameB n1 xs n2 ys = false := by
  unfold sameB
  have : (xs == ys) = false := beq_eq_false_iff_ne.2 fun e => h (by rw [e])
  rw [this, Bool.and_false]
theorem sameB_yes {n : Bool} {xs ys : List Nat} (hl : xs.length = ys.length) (h : ∀ j, j < xs.length → nth xs j = nth ys j) : sameB n xs n ys = true := by
  rw [list_eq_of_nth hl h]; unfold sameB; simp

section
variable (A B : Option Addr) (c d : Nat) (xs ys : List Nat) (w : World)
set_option maxRecDepth 100000
set_option maxHeartbeats 1000000 in
theorem rsame_any (n1 n2 : Bool) (hx : Nums w A xs) (hy : Nums w B ys) (hl : xs.length ≤ 1048576) (hl' : ys.length ≤ 1048576) :
    Calls Tryd.prog 21 #[.agg #[.bool n1, .slice A xs.length c], .agg #[.bool n2, .slice B ys.length d]] w fun e w' => e = .returned (.bool (sameB n1 xs n2 ys)) ∧ Below w.heap.size w w' := by
  have L0 : Below w.heap.size w ((w.alloc (.cells #[.bool n1, .slice A xs.length c] 24)).alloc (.cells #[.bool n2, .slice B ys.length d] 24)) := ((Below.refl _ _).alloc (Nat.le_refl _) _).alloc (by simp) _
  by_cases hn : n1 = n2
  · subst hn
    by_cases hlen : xs.length = ys.length
    · have hne : ((xs.length : Int) != (ys.length : Int)) = false := by simp [hlen]
      have hnn : (n1 != n1) = false := by simp
      have HL := Lib.hid hlen; clear hlen
      go_enter Tryd.func21, Tryd.ntmps21
      go_wp2
      go_loopw [5] (fun v wr => ∃ k : Nat, k ≤ xs.length ∧ v = .int .i64 k ∧ (∀ j, j < k → nth xs j = nth ys j) ∧ ∃ n, wr = ((w.alloc (.cells #[.bool n1, .slice A xs.length c] 24)).alloc (.cells #[.bool n1, .slice B ys.length d] 24)).drewN n) (fun v _ => xs.length - (intOf v).toNat)
      case atStart => exact ⟨0, Nat.zero_le _, rfl, fun j hj => absurd hj (by omega), 0, rfl⟩
      case round =>
        obtain ⟨k, hk, rfl, hz, n, rfl⟩ := hrel
        have HZ := Lib.hid hz; clear hz
        rcases Nat.lt_or_ge k xs.length with hk' | hk'
        · obtain ⟨b, o, rfl, hb, hc⟩ := hx.2 (by omega)
          obtain ⟨b', o', rfl, hb', hc'⟩ := hy.2 (by rw [← HL.out]; omega)
          have hcell := hc k (by omega)
          have hcell' := hc' k (by rw [← HL.out]; omega)
          have hm1 : (k : Int) < (xs.length : Int) := by omega
          have hm2 : (k : Int) < (ys.length : Int) := by have := HL.out; omega
          have hm0 : (0 : Int) ≤ (k : Int) := by omega
          clear hc hc'
          by_cases h : nth xs k = nth ys k
          · have hne' : (nth xs k != nth ys k) = false := by simp [h]
            have H := Lib.hid h
            clear h
            go_wp2
            go_quiet (fail)
            go_wp2
            go_roundw
            case rel => exact ⟨k + 1, by omega, by go_num, fun j hj => by
              by_cases e : j = k
              · rw [e]; exact H.out
              · exact HZ.out j (by omega), _, by first | rfl | (simp only [World.drewN_drewN]; rfl)⟩
            case measure => simp [intOf]; omega
          · have hne' : (nth xs k != nth ys k) = true := by simpa using h
            have H := Lib.hid h
            clear h
            go_wp2
            go_quiet (fail)
            go_wp2
            go_ret
            exact ⟨ret_bool (sameB_digit H.out).symm, by first | exact L0.drewN _ | exact ⟨L0.os, L0.tape, L0.output, L0.size, L0.block⟩⟩
        · obtain rfl : k = xs.length := by omega
          go_wp2
          go_ret
          exact ⟨ret_bool (sameB_yes HL.out HZ.out).symm, by exact ⟨L0.os, L0.tape, L0.output, L0.size, L0.block⟩⟩
    · have hne : ((xs.length : Int) != (ys.length : Int)) = true := by simp; omega
      have hnn : (n1 != n1) = false := by simp
      have H := Lib.hid hlen
      clear hlen
      go_enter Tryd.func21, Tryd.ntmps21
      go_wp2
      go_ret
      exact ⟨ret_bool (sameB_len H.out).symm, L0⟩
  · have hnn : (n1 != n2) = true := by simpa using hn
    have H := Lib.hid hn
    clear hn
    go_enter Tryd.func21, Tryd.ntmps21
    go_wp2
    go_ret
    exact ⟨ret_bool (sameB_neg H.out).symm, L0⟩
end
end Go.Proofs.YteggjfmcpodepaaDoor
namespace Go.Proofs.YteggjfmcpodepaaDoor
open Go.RowKit
theorem below_on {a b w' : World} (h : Below a.heap.size a b) (k : Below b.heap.size b w') : Below a.heap.size a w' := h.trans (k.mono h.size)
theorem below_undrew {a w' : World} (k : Below a.drew.heap.size a.drew w') : Below a.heap.size a w' := ⟨k.os, k.tape, k.output, k.size, k.block⟩
theorem Nums.since {a b : World} {A : Option Addr} {xs : List Nat} (h : Nums a A xs) (k : Below a.heap.size a b) : Nums b A xs := h.below k (Nat.le_refl _)
theorem Nums8.since {a b : World} {A : Option Addr} {xs : List Nat} (h : Nums8 a A xs) (k : Below a.heap.size a b) : Nums8 b A xs := h.below k (Nat.le_refl _)
end Go.Proofs.YteggjfmcpodepaaDoor
namespace Go.Proofs.YteggjfmcpodepaaDoor
open Go.RowKit

/-- The number, and the error's number, that a sum or a product in the range answers. -/
@[irreducible] def outV (ok : Bool) (s : Int) : Int := if ok then (if s.natAbs < B18 ^ 30 then s else 0) else 0
@[irreducible] def outE (ok : Bool) (s : Int) : Int := if ok then (if s.natAbs < B18 ^ 30 then 0 else 7) else 3
theorem outV_ok {s : Int} (h : s.natAbs < B18 ^ 30) : outV true s = s := by unfold outV; rw [if_pos rfl, if_pos h]
theorem outE_ok {s : Int} (h : s.natAbs < B18 ^ 30) : outE true s = 0 := by unfold outE; rw [if_pos rfl, if_pos h]
theorem outV_big {s : Int} (h : B18 ^ 30 ≤ s.natAbs) : outV true s = 0 := by unfold outV; rw [if_pos rfl, if_neg (by omega)]
theorem outE_big {s : Int} (h : B18 ^ 30 ≤ s.natAbs) : outE true s = 7 := by unfold outE; rw [if_pos rfl, if_neg (by omega)]
theorem outV_bad (s : Int) : outV false s = 0 := by unfold outV; rfl
theorem outE_bad (s : Int) : outE false s = 3 := by unfold outE; rfl

section
variable (A B : Option Addr) (c d : Nat) (xs ys : List Nat) (w : World)
set_option maxRecDepth 100000
theorem add_any (n1 n2 : Bool) (hx : Nums w A xs) (hy : Nums w B ys) (hl : xs.length ≤ 9223372036854775807) (hl' : ys.length ≤ 9223372036854775807) :
    Calls Tryd.prog 27 #[.agg #[.bool n1, .slice A xs.length c], .agg #[.bool n2, .slice B ys.length d]] w
      (RetBigErr w (outV (goodB n1 xs && goodB n2 ys) (num n1 xs + num n2 ys)) (outE (goodB n1 xs && goodB n2 ys) (num n1 xs + num n2 ys))) := by
  cases h : (goodB n1 xs && goodB n2 ys)
  · rw [outV_bad, outE_bad]; exact add_form A B c d xs ys w n1 n2 hx hy hl hl' h
  · obtain ⟨hg, hk⟩ := Bool.and_eq_true_iff.1 h
    rcases Nat.lt_or_ge (num n1 xs + num n2 ys).natAbs (B18 ^ 30) with hf | hf
    · rw [outV_ok hf, outE_ok hf]; exact add_ok A B c d xs ys w n1 n2 hx hy hg hk hf
    · rw [outV_big hf, outE_big hf]; exact add_range A B c d xs ys w n1 n2 hx hy hg hk hf

set_option maxHeartbeats 1000000 in
theorem sub_bad (n1 n2 : Bool) (hy : Nums w B ys) (hl' : ys.length ≤ 9223372036854775807) (hk : goodB n2 ys = false) :
    Calls Tryd.prog 28 #[.agg #[.bool n1, .slice A xs.length c], .agg #[.bool n2, .slice B ys.length d]] w (RetBigErr w 0 3) := by
  go_enter Tryd.func28, Tryd.ntmps28
  go_wp2_with fail
  refine (good_any n2 d _ B ys hl' (((hy.alloc _).alloc _).alloc _)).mono ?_
  rintro e w1 ⟨rfl, hb1⟩
  have R1 := (Blk.new ((w.alloc (.cells #[.bool n1, .slice A xs.length c] 24)).alloc (.cells #[.bool n2, .slice B ys.length d] 24)) 24 #[.bool false, .slice none 0 0]).below hb1 (by simp)
  have L1 : Below w.heap.size w w1 := ((((Below.refl _ _).alloc (Nat.le_refl _) _).alloc (by simp) _).alloc (by simp; omega) _).trans (hb1.mono (by simp; omega))
  simp only [World.size_alloc] at R1
  clear hb1
  obtain ⟨r0, r1, r2, r3⟩ := R1.two
  go_wp2_with fail
  refine bodyPost_ret (v := .tuple #[.agg #[.bool false, .slice none 0 0], .int .i64 3]) (by simp [results, Tryd.results28, go_sem, r0, r1]) rfl ?_
  exact fin_zero L1 (by omega) _ _
set_option maxHeartbeats 1000000 in
theorem sub_good (n1 n2 : Bool) (hx : Nums w A xs) (hy : Nums w B ys) (hl : xs.length ≤ 9223372036854775807) (hk : goodB n2 ys = true) :
    Calls Tryd.prog 28 #[.agg #[.bool n1, .slice A xs.length c], .agg #[.bool n2, .slice B ys.length d]] w
      (RetBigErr w (outV (goodB n1 xs) (num n1 xs - num n2 ys)) (outE (goodB n1 xs) (num n1 xs - num n2 ys))) := by
  obtain ⟨_, _, hl', _⟩ := good_parts hk
  have hv := num_lt hk
  have hgl := good_limbs (i := - num n2 ys) (by rw [Int.natAbs_neg]; exact hv)
  have hnl := num_limbs (- num n2 ys)
  obtain ⟨y', hy'⟩ : ∃ y', y' = - num n2 ys := ⟨_, rfl⟩
  rw [← hy'] at hgl hnl
  have hll := (good_parts hgl).2.2.1
  have HV : Hid (outV (goodB n1 xs && goodB (decide (y' < 0)) (limbs y')) (num n1 xs + num (decide (y' < 0)) (limbs y')) = outV (goodB n1 xs) (num n1 xs - num n2 ys)) := by
    show _ = _; rw [hgl, hnl, Bool.and_true, hy', Int.sub_eq_add_neg]
  have HE : Hid (outE (goodB n1 xs && goodB (decide (y' < 0)) (limbs y')) (num n1 xs + num (decide (y' < 0)) (limbs y')) = outE (goodB n1 xs) (num n1 xs - num n2 ys)) := by
    show _ = _; rw [hgl, hnl, Bool.and_true, hy', Int.sub_eq_add_neg]
  have HY := Lib.hid hy'
  clear hv hgl hnl hy'
  go_enter Tryd.func28, Tryd.ntmps28
  go_wp2_with fail
  refine (good_any n2 d _ B ys (by omega) (((hy.alloc _).alloc _).alloc _)).mono ?_
  rintro e w1 ⟨rfl, hb1⟩
  have X1 := (((Blk.new w 24 #[.bool n1, .slice A xs.length c]).alloc (.cells #[.bool n2, .slice B ys.length d] 24)).alloc (.cells #[.bool false, .slice none 0 0] 24)).below hb1 (by simp; omega)
  have Y1 := ((Blk.new (w.alloc (.cells #[.bool n1, .slice A xs.length c] 24)) 24 #[.bool n2, .slice B ys.length d]).alloc (.cells #[.bool false, .slice none 0 0] 24)).below hb1 (by simp)
  have R1 := (Blk.new ((w.alloc (.cells #[.bool n1, .slice A xs.length c] 24)).alloc (.cells #[.bool n2, .slice B ys.length d] 24)) 24 #[.bool false, .slice none 0 0]).below hb1 (by simp)
  have L1 : Below w.heap.size w w1 := ((((Below.refl _ _).alloc (Nat.le_refl _) _).alloc (by simp) _).alloc (by simp; omega) _).trans (hb1.mono (by simp; omega))
  simp only [World.size_alloc] at X1 Y1 R1
  clear hb1
  have hx1 := hx.below L1 (Nat.le_refl _); have hy1 := hy.below L1 (Nat.le_refl _)
  obtain ⟨x0, x1, x2, x3⟩ := X1.two
  obtain ⟨y0, y1, y2, y3⟩ := Y1.two
  have hz : w.heap.size + 1 + 1 < w1.heap.size := R1.lt
  go_wp2_with fail
  go_region_held3 (fun w' => w'.cell? ⟨w.heap.size, 0, none⟩ = some (.bool n1) ∧ w'.cell? ⟨w.heap.size, 1, none⟩ = some (.slice A xs.length c) ∧ w'.cell? ⟨w.heap.size + 1, 0, none⟩ = some (.bool n2) ∧ w'.cell? ⟨w.heap.size + 1, 1, none⟩ = some (.slice B ys.length d))
    (first | (with_reducible exact ⟨x0, x1, y0, y1⟩) | (with_reducible exact ⟨u0, u1, v0, v1⟩) | (with_reducible exact ⟨p0, p1, q0, q1⟩) | (go_simp; done))
    (first
      | (go_at_call 31; refine (neg_good B d ys _ n2 (by repeat (first | with_reducible exact hy1 | with_reducible apply Nums.drew)) hk).mono ?_; rintro e w2 ⟨A2, c2, rfl, hown2, hb2⟩; rw [← HY.out] at hown2 ⊢; have X2 := Blk.below (w := _) (by repeat (first | with_reducible exact X1 | with_reducible apply Blk.drew)) hb2 X1.lt; have Y2 := Blk.below (w := _) (by repeat (first | with_reducible exact Y1 | with_reducible apply Blk.drew)) hb2 Y1.lt; have R2 := Blk.below (w := _) (by repeat (first | with_reducible exact R1 | with_reducible apply Blk.drew)) hb2 R1.lt; have hx2 := Nums.below (w := _) (by repeat (first | with_reducible exact hx1 | with_reducible apply Nums.drew)) hb2 (Nat.le_refl _); have L2 := Below.trans (b := _) (by repeat (first | with_reducible exact L1 | with_reducible apply Below.drew)) (hb2.mono L1.size); have hn2 := hown2.nums; obtain ⟨u0, u1, u2, u3⟩ := X2.two; obtain ⟨v0, v1, v2, v3⟩ := Y2.two)
      | (go_at_call 27; refine (add_any A A2 c c2 xs (limbs y') _ n1 (decide (y' < 0)) (by repeat (first | with_reducible exact hx2 | with_reducible apply Nums.drew)) (by repeat (first | with_reducible exact hn2 | with_reducible apply Nums.drew)) hl (by omega)).mono ?_; rintro e w3 ⟨A3, c3, rfl, hown3, hb3⟩; rw [HV.out] at hown3 ⊢; rw [HE.out]; have X3 := Blk.below (w := _) (by repeat (first | with_reducible exact X2 | with_reducible apply Blk.drew)) hb3 X2.lt; have Y3 := Blk.below (w := _) (by repeat (first | with_reducible exact Y2 | with_reducible apply Blk.drew)) hb3 Y2.lt; have R3 := Blk.below (w := _) (by repeat (first | with_reducible exact R2 | with_reducible apply Blk.drew)) hb3 R2.lt; have L3 := Below.trans (b := _) (by repeat (first | with_reducible exact L2 | with_reducible apply Below.drew)) (hb3.mono L2.size); have hrz := R2.lt; obtain ⟨p0, p1, p2, p3⟩ := X3.two; obtain ⟨q0, q1, q2, q3⟩ := Y3.two; obtain ⟨r0, r1, r2, r3⟩ := R3.two))
  all_goals
    go_wp2_with fail
    refine bodyPost_ret (v := .tuple #[.agg #[.bool (decide (outV (goodB n1 xs) (num n1 xs - num n2 ys) < 0)), .slice A3 (limbs (outV (goodB n1 xs) (num n1 xs - num n2 ys))).length c3], .int .i64 (outE (goodB n1 xs) (num n1 xs - num n2 ys))]) (by simp [results, Tryd.results28, go_sem, r0, r1]) rfl ?_
    exact fin_big hown3 L3 (by omega) hrz _ _
theorem sub_any (n1 n2 : Bool) (hx : Nums w A xs) (hy : Nums w B ys) (hl : xs.length ≤ 9223372036854775807) (hl' : ys.length ≤ 9223372036854775807) :
    Calls Tryd.prog 28 #[.agg #[.bool n1, .slice A xs.length c], .agg #[.bool n2, .slice B ys.length d]] w
      (RetBigErr w (outV (goodB n1 xs && goodB n2 ys) (num n1 xs - num n2 ys)) (outE (goodB n1 xs && goodB n2 ys) (num n1 xs - num n2 ys))) := by
  cases hk : goodB n2 ys
  · rw [Bool.and_false, outV_bad, outE_bad]; exact sub_bad A B c d xs ys w n1 n2 hy hl' hk
  · rw [Bool.and_true]; exact sub_good A B c d xs ys w n1 n2 hx hy hl hk
end
end Go.Proofs.YteggjfmcpodepaaDoor
namespace Go.Proofs.YteggjfmcpodepaaDoor
open Go.RowKit

theorem Below.drewN {B : Nat} {a w : World} (h : Below B a w) (n : Nat) : Below B a (w.drewN n) := ⟨h.os, h.tape, h.output, h.size, h.block⟩
/-- How two numbers stand, 0 where one is out of form. -/
@[irreducible] def cmpO (ok : Bool) (i j : Int) : Int := if ok then cmpI i j else 0
theorem cmp_pos {xs ys : List Nat} : cmpN (val B18 xs) (val B18 ys) = cmpI (num false xs) (num false ys) := by
  rw [num_eq, num_eq]; unfold cmpI cmpN sgn
  by_cases h1 : val B18 xs < val B18 ys
  · simp [h1]
  · by_cases h2 : val B18 ys < val B18 xs <;> simp [h1, h2]
theorem cmp_neg {xs ys : List Nat} : cmpN (val B18 ys) (val B18 xs) = cmpI (num true xs) (num true ys) := by
  rw [num_eq, num_eq]; unfold cmpI cmpN sgn
  by_cases h1 : val B18 ys < val B18 xs
  · simp [h1]
  · by_cases h2 : val B18 xs < val B18 ys <;> simp [h1, h2]
theorem cmp_lt {xs ys : List Nat} (hg : goodB true xs = true) : cmpI (num true xs) (num false ys) = -1 := by
  have h := neg_num hg
  have h1 : num true xs < 0 := by simpa using h
  have h2 : (0 : Int) ≤ num false ys := by rw [num_eq]; unfold sgn; simp
  unfold cmpI; rw [if_pos (by omega)]
theorem cmp_gt {xs ys : List Nat} (hk : goodB true ys = true) : cmpI (num false xs) (num true ys) = 1 := by
  have h := neg_num hk
  have h1 : num true ys < 0 := by simpa using h
  have h2 : (0 : Int) ≤ num false xs := by rw [num_eq]; unfold sgn; simp
  unfold cmpI; rw [if_neg (by omega), if_pos (by omega)]

section
variable (A B : Option Addr) (c d : Nat) (xs ys : List Nat) (w : World)
set_option maxRecDepth 100000
theorem neg_any (neg : Bool) (hx : Nums w A xs) (hl : xs.length ≤ 9223372036854775807) :
    Calls Tryd.prog 31 #[.agg #[.bool neg, .slice A xs.length c]] w (RetBig w (if goodB neg xs then - num neg xs else 0)) := by
  cases h : goodB neg xs
  · exact neg_bad A c xs w neg hx hl h
  · exact neg_good A c xs w neg hx h
theorem sign_any (neg : Bool) (hx : Nums w A xs) (hl : xs.length ≤ 9223372036854775807) :
    Calls Tryd.prog 30 #[.agg #[.bool neg, .slice A xs.length c]] w fun e w' => e = .returned (.int .i64 (cmpO (goodB neg xs) (num neg xs) 0)) ∧ Below w.heap.size w w' := by
  unfold cmpO
  cases h : goodB neg xs
  · exact sign_bad A c xs w neg hx hl h
  · exact sign_good A c xs w neg hx h

set_option maxHeartbeats 1000000 in
theorem cmp_bad_x (n1 n2 : Bool) (hx : Nums w A xs) (hl : xs.length ≤ 9223372036854775807) (hg : goodB n1 xs = false) :
    Calls Tryd.prog 29 #[.agg #[.bool n1, .slice A xs.length c], .agg #[.bool n2, .slice B ys.length d]] w fun e w' => e = .returned (.int .i64 0) ∧ Below w.heap.size w w' := by
  go_enter Tryd.func29, Tryd.ntmps29
  go_wp2_with fail
  refine (good_any n1 c _ A xs hl ((hx.alloc _).alloc _)).mono ?_
  rintro e w1 ⟨rfl, hb1⟩
  have L1 : Below w.heap.size w w1 := (((Below.refl _ _).alloc (Nat.le_refl _) _).alloc (by simp) _).trans (hb1.mono (by simp; omega))
  go_wp2_with fail
  go_ret
  exact ⟨rfl, L1⟩
set_option maxHeartbeats 1000000 in
theorem cmp_bad_y (n1 n2 : Bool) (hx : Nums w A xs) (hy : Nums w B ys) (hl : ys.length ≤ 9223372036854775807) (hg : goodB n1 xs = true) (hk : goodB n2 ys = false) :
    Calls Tryd.prog 29 #[.agg #[.bool n1, .slice A xs.length c], .agg #[.bool n2, .slice B ys.length d]] w fun e w' => e = .returned (.int .i64 0) ∧ Below w.heap.size w w' := by
  obtain ⟨_, _, hlx, _⟩ := good_parts hg
  go_enter Tryd.func29, Tryd.ntmps29
  go_wp2_with fail
  refine (good_any n1 c _ A xs (by omega) ((hx.alloc _).alloc _)).mono ?_
  rintro e w1 ⟨rfl, hb1⟩
  have Y1 := (Blk.new (w.alloc (.cells #[.bool n1, .slice A xs.length c] 24)) 24 #[.bool n2, .slice B ys.length d]).below hb1 (by simp)
  have L1 : Below w.heap.size w w1 := (((Below.refl _ _).alloc (Nat.le_refl _) _).alloc (by simp) _).trans (hb1.mono (by simp; omega))
  simp only [World.size_alloc] at Y1
  obtain ⟨y0, y1, y2, y3⟩ := Y1.two
  go_wp2_with fail
  refine (good_any n2 d _ B ys hl (hy.below L1 (Nat.le_refl _))).mono ?_
  rintro e w2 ⟨rfl, hb2⟩
  have L2 := L1.trans (hb2.mono L1.size)
  go_wp2_with fail
  go_ret
  exact ⟨rfl, L2⟩
set_option maxHeartbeats 1000000 in
theorem cmp_good (n1 n2 : Bool) (hx : Nums w A xs) (hy : Nums w B ys) (hg : goodB n1 xs = true) (hk : goodB n2 ys = true) :
    Calls Tryd.prog 29 #[.agg #[.bool n1, .slice A xs.length c], .agg #[.bool n2, .slice B ys.length d]] w fun e w' => e = .returned (.int .i64 (cmpI (num n1 xs) (num n2 ys))) ∧ Below w.heap.size w w' := by
  obtain ⟨hs, hn, hlx, _⟩ := good_parts hg
  obtain ⟨ht, hm, hly, _⟩ := good_parts hk
  cases n1 <;> cases n2
  case false.false =>
    have HV := Lib.hid (cmp_pos (xs := xs) (ys := ys))
    go_enter Tryd.func29, Tryd.ntmps29
    go_wp2_with fail
    refine (good_any false c _ A xs (by omega) ((hx.alloc _).alloc _)).mono ?_
    rintro e w1 ⟨rfl, hb1⟩
    have X1 := (Blk.first w 24 #[.bool false, .slice A xs.length c] (.cells #[.bool false, .slice B ys.length d] 24)).below hb1 (by simp; omega)
    have Y1 := (Blk.new (w.alloc (.cells #[.bool false, .slice A xs.length c] 24)) 24 #[.bool false, .slice B ys.length d]).below hb1 (by simp)
    have L1 : Below w.heap.size w w1 := (((Below.refl _ _).alloc (Nat.le_refl _) _).alloc (by simp) _).trans (hb1.mono (by simp; omega))
    simp only [World.size_alloc] at X1 Y1
    clear hb1
    obtain ⟨y0, y1, y2, y3⟩ := Y1.two
    go_wp2_with fail
    refine (good_any false d _ B ys (by omega) (hy.below L1 (Nat.le_refl _))).mono ?_
    rintro e w2 ⟨rfl, hb2⟩
    have X2 := X1.below hb2 X1.lt; have Y2 := Y1.below hb2 Y1.lt
    have L2 := L1.trans (hb2.mono L1.size)
    clear y0 y1 y2 y3 X1 Y1 L1 hb2
    obtain ⟨x0, x1, x2, x3⟩ := X2.two
    obtain ⟨y0, y1, y2, y3⟩ := Y2.two
    go_wp2_with fail
    refine (size_any A B c d xs ys _ (hx.below L2 (Nat.le_refl _)) (hy.below L2 (Nat.le_refl _)) hs ht hn hm (by omega) (by omega)).mono ?_
    rintro e w3 ⟨rfl, n, rfl⟩
    rw [HV.out]
    go_wp2_with fail
    go_ret
    exact ⟨rfl, Below.drewN L2 n⟩
  case true.true =>
    have HV := Lib.hid (cmp_neg (xs := xs) (ys := ys))
    go_enter Tryd.func29, Tryd.ntmps29
    go_wp2_with fail
    refine (good_any true c _ A xs (by omega) ((hx.alloc _).alloc _)).mono ?_
    rintro e w1 ⟨rfl, hb1⟩
    have X1 := (Blk.first w 24 #[.bool true, .slice A xs.length c] (.cells #[.bool true, .slice B ys.length d] 24)).below hb1 (by simp; omega)
    have Y1 := (Blk.new (w.alloc (.cells #[.bool true, .slice A xs.length c] 24)) 24 #[.bool true, .slice B ys.length d]).below hb1 (by simp)
    have L1 : Below w.heap.size w w1 := (((Below.refl _ _).alloc (Nat.le_refl _) _).alloc (by simp) _).trans (hb1.mono (by simp; omega))
    simp only [World.size_alloc] at X1 Y1
    clear hb1
    obtain ⟨y0, y1, y2, y3⟩ := Y1.two
    go_wp2_with fail
    refine (good_any true d _ B ys (by omega) (hy.below L1 (Nat.le_refl _))).mono ?_
    rintro e w2 ⟨rfl, hb2⟩
    have X2 := X1.below hb2 X1.lt; have Y2 := Y1.below hb2 Y1.lt
    have L2 := L1.trans (hb2.mono L1.size)
    clear y0 y1 y2 y3 X1 Y1 L1 hb2
    obtain ⟨x0, x1, x2, x3⟩ := X2.two
    obtain ⟨y0, y1, y2, y3⟩ := Y2.two
    go_wp2_with fail
    refine (size_any B A d c ys xs _ (hy.below L2 (Nat.le_refl _)) (hx.below L2 (Nat.le_refl _)) ht hs hm hn (by omega) (by omega)).mono ?_
    rintro e w3 ⟨rfl, n, rfl⟩
    rw [HV.out]
    go_wp2_with fail
    go_ret
    exact ⟨rfl, Below.drewN L2 n⟩
  case true.false =>
    have HV := Lib.hid (cmp_lt (xs := xs) (ys := ys) hg)
    go_enter Tryd.func29, Tryd.ntmps29
    go_wp2_with fail
    refine (good_any true c _ A xs (by omega) ((hx.alloc _).alloc _)).mono ?_
    rintro e w1 ⟨rfl, hb1⟩
    have X1 := (Blk.first w 24 #[.bool true, .slice A xs.length c] (.cells #[.bool false, .slice B ys.length d] 24)).below hb1 (by simp; omega)
    have Y1 := (Blk.new (w.alloc (.cells #[.bool true, .slice A xs.length c] 24)) 24 #[.bool false, .slice B ys.length d]).below hb1 (by simp)
    have L1 : Below w.heap.size w w1 := (((Below.refl _ _).alloc (Nat.le_refl _) _).alloc (by simp) _).trans (hb1.mono (by simp; omega))
    simp only [World.size_alloc] at X1 Y1
    clear hb1
    obtain ⟨y0, y1, y2, y3⟩ := Y1.two
    go_wp2_with fail
    refine (good_any false d _ B ys (by omega) (hy.below L1 (Nat.le_refl _))).mono ?_
    rintro e w2 ⟨rfl, hb2⟩
    have X2 := X1.below hb2 X1.lt; have Y2 := Y1.below hb2 Y1.lt
    have L2 := L1.trans (hb2.mono L1.size)
    clear y0 y1 y2 y3 X1 Y1 L1 hb2
    obtain ⟨x0, x1, x2, x3⟩ := X2.two
    obtain ⟨y0, y1, y2, y3⟩ := Y2.two
    go_wp2_with fail
    go_ret
    exact ⟨ret_int' HV.out.symm, L2⟩
  case false.true =>
    have HV := Lib.hid (cmp_gt (xs := xs) (ys := ys) hk)
    go_enter Tryd.func29, Tryd.ntmps29
    go_wp2_with fail
    refine (good_any false c _ A xs (by omega) ((hx.alloc _).alloc _)).mono ?_
    rintro e w1 ⟨rfl, hb1⟩
    have X1 := (Blk.first w 24 #[.bool false, .slice A xs.length c] (.cells #[.bool true, .slice B ys.length d] 24)).below hb1 (by simp; omega)
    have Y1 := (Blk.new (w.alloc (.cells #[.bool false, .slice A xs.length c] 24)) 24 #[.bool true, .slice B ys.length d]).below hb1 (by simp)
    have L1 : Below w.heap.size w w1 := (((Below.refl _ _).alloc (Nat.le_refl _) _).alloc (by simp) _).trans (hb1.mono (by simp; omega))
    simp only [World.size_alloc] at X1 Y1
    clear hb1
    obtain ⟨y0, y1, y2, y3⟩ := Y1.two
    go_wp2_with fail
    refine (good_any true d _ B ys (by omega) (hy.below L1 (Nat.le_refl _))).mono ?_
    rintro e w2 ⟨rfl, hb2⟩
    have X2 := X1.below hb2 X1.lt; have Y2 := Y1.below hb2 Y1.lt
    have L2 := L1.trans (hb2.mono L1.size)
    clear y0 y1 y2 y3 X1 Y1 L1 hb2
    obtain ⟨x0, x1, x2, x3⟩ := X2.two
    obtain ⟨y0, y1, y2, y3⟩ := Y2.two
    go_wp2_with fail
    go_ret
    exact ⟨ret_int' HV.out.symm, L2⟩
theorem cmp_any (n1 n2 : Bool) (hx : Nums w A xs) (hy : Nums w B ys) (hl : xs.length ≤ 9223372036854775807) (hl' : ys.length ≤ 9223372036854775807) :
    Calls Tryd.prog 29 #[.agg #[.bool n1, .slice A xs.length c], .agg #[.bool n2, .slice B ys.length d]] w fun e w' => e = .returned (.int .i64 (cmpO (goodB n1 xs && goodB n2 ys) (num n1 xs) (num n2 ys))) ∧ Below w.heap.size w w' := by
  unfold cmpO
  cases hg : goodB n1 xs
  · exact cmp_bad_x A B c d xs ys w n1 n2 hx hl hg
  cases hk : goodB n2 ys
  · exact cmp_bad_y A B c d xs ys w n1 n2 hx hy hl' hg hk
  exact cmp_good A B c d xs ys w n1 n2 hx hy hg hk
end
end Go.Proofs.YteggjfmcpodepaaDoor
namespace Go.Proofs.YteggjfmcpodepaaDoor
open Go.RowKit

theorem add_step (m n k : Nat) :
    ((m % 10 ^ k + n % 10 ^ k) / 10 ^ k + m / 10 ^ k % 10 + n / 10 ^ k % 10) % 10 = (m + n) / 10 ^ k % 10 ∧
    ((m % 10 ^ k + n % 10 ^ k) / 10 ^ k + m / 10 ^ k % 10 + n / 10 ^ k % 10) / 10 = (m % 10 ^ (k + 1) + n % 10 ^ (k + 1)) / 10 ^ (k + 1) := by
  have hp : 0 < 10 ^ k := Nat.pow_pos (by decide)
  have e : (m + n) / 10 ^ k = m / 10 ^ k + n / 10 ^ k + (m % 10 ^ k + n % 10 ^ k) / 10 ^ k := by
    have h1 := Nat.div_add_mod m (10 ^ k)
    have h2 := Nat.div_add_mod n (10 ^ k)
    have h3 : m + n = (m % 10 ^ k + n % 10 ^ k) + 10 ^ k * (m / 10 ^ k + n / 10 ^ k) := by rw [Nat.mul_add]; omega
    rw [h3, Nat.add_mul_div_left _ _ hp]
    omega
  have e2 : (m % 10 ^ (k + 1) + n % 10 ^ (k + 1)) = (m % 10 ^ k + n % 10 ^ k) + 10 ^ k * (m / 10 ^ k % 10 + n / 10 ^ k % 10) := by
    rw [Nat.pow_succ, Nat.mod_mul, Nat.mod_mul, Nat.mul_add]; omega
  constructor
  · rw [e]; omega
  · rw [e2, Nat.pow_succ, ← Nat.div_div_eq_div_mul, Nat.add_mul_div_left _ _ hp]
    congr 1
    omega
/-- What is borrowed of the places from k on. -/
def bor (m n k : Nat) : Nat := if m % 10 ^ k < n % 10 ^ k then 1 else 0
theorem bor_le (m n k : Nat) : bor m n k ≤ 1 := by unfold bor; split <;> omega
theorem sub_div (P m n : Nat) (hp : 0 < P) (h : n ≤ m) : (m - n) / P + n / P + (if m % P < n % P then 1 else 0) = m / P := by
  have h1 := Nat.div_add_mod m P
  have h2 := Nat.div_add_mod n P
  have h3 := Nat.mod_lt m hp
  have h4 := Nat.mod_lt n hp
  generalize m / P = M at *
  generalize n / P = N at *
  generalize m % P = m0 at *
  generalize n % P = n0 at *
  by_cases hb : m0 < n0
  · rw [if_pos hb]
    have hN : N < M := by
      rcases Nat.lt_or_ge N M with h5 | h5
      · exact h5
      · have := Nat.mul_le_mul_left P h5; omega
    obtain ⟨D, rfl⟩ : ∃ D, M = N + 1 + D := ⟨M - (N + 1), by omega⟩
    have e : m - n = (P + m0 - n0) + P * D := by
      have : P * (N + 1 + D) = P * N + P + P * D := by rw [Nat.mul_add, Nat.mul_add, Nat.mul_one]
      omega
    rw [e, Nat.add_mul_div_left _ _ hp, Nat.div_eq_of_lt (by omega)]
    omega
  · rw [if_neg hb]
    have hN : N ≤ M := by
      rcases Nat.lt_or_ge M N with h5 | h5
      · have := Nat.mul_le_mul_left P h5
        rw [Nat.mul_succ] at this
        omega
      · exact h5
    obtain ⟨D, rfl⟩ : ∃ D, M = N + D := ⟨M - N, by omega⟩
    have e : m - n = (m0 - n0) + P * D := by
      have : P * (N + D) = P * N + P * D := by rw [Nat.mul_add]
      omega
    rw [e, Nat.add_mul_div_left _ _ hp, Nat.div_eq_of_lt (by omega)]
    omega
theorem sub_step (m n k : Nat) (h : n ≤ m) :
    (m / 10 ^ k % 10 + 10 - bor m n k - n / 10 ^ k % 10) % 10 = (m - n) / 10 ^ k % 10 ∧ 1 - (m / 10 ^ k % 10 + 10 - bor m n k - n / 10 ^ k % 10) / 10 = bor m n (k + 1) ∧
    n / 10 ^ k % 10 + bor m n k ≤ m / 10 ^ k % 10 + 10 := by
  have hp : 0 < 10 ^ k := Nat.pow_pos (by decide)
  have e1 := sub_div (10 ^ k) m n hp h
  have hb := bor_le m n k
  refine ⟨?_, ?_, by omega⟩
  · unfold bor at hb ⊢
    generalize (if m % 10 ^ k < n % 10 ^ k then 1 else 0) = c at *
    omega
  · have hm : m % 10 ^ (k + 1) = m % 10 ^ k + 10 ^ k * (m / 10 ^ k % 10) := by rw [Nat.pow_succ, Nat.mod_mul]
    have hn : n % 10 ^ (k + 1) = n % 10 ^ k + 10 ^ k * (n / 10 ^ k % 10) := by rw [Nat.pow_succ, Nat.mod_mul]
    have h3 := Nat.mod_lt m hp
    have h4 := Nat.mod_lt n hp
    have ha : m / 10 ^ k % 10 < 10 := Nat.mod_lt _ (by decide)
    have hb' : n / 10 ^ k % 10 < 10 := Nat.mod_lt _ (by decide)
    unfold bor
    rw [hm, hn]
    generalize m / 10 ^ k % 10 = a at *
    generalize n / 10 ^ k % 10 = b at *
    generalize m % 10 ^ k = m0 at *
    generalize n % 10 ^ k = n0 at *
    generalize 10 ^ k = P at *
    rcases Nat.lt_trichotomy a b with hab | hab | hab
    · have : P * (a + 1) ≤ P * b := Nat.mul_le_mul_left P hab
      rw [Nat.mul_add, Nat.mul_one] at this
      rw [if_pos (by omega : m0 + P * a < n0 + P * b)]
      split <;> omega
    · subst hab
      by_cases hc : m0 < n0
      · rw [if_pos hc, if_pos (by omega)]; omega
      · rw [if_neg hc, if_neg (by omega)]; omega
    · have : P * (b + 1) ≤ P * a := Nat.mul_le_mul_left P hab
      rw [Nat.mul_add, Nat.mul_one] at this
      rw [if_neg (by omega : ¬ m0 + P * a < n0 + P * b)]
      split <;> omega
theorem natAbs_past {i : Int} {k : Nat} (h : (tens i).length ≤ k) : i.natAbs / 10 ^ k = 0 := by
  rw [tens_eq] at h
  exact Nat.div_eq_of_lt ((digs_length_le (by decide) _ _).1 h)
/-- What a call that answers digits leaves. -/
def RetTens (W : World) (i : Int) (e : Ending) (w' : World) : Prop := ∃ A c, e = .returned (.slice A (tens i).length c) ∧ Own8 w' W.heap.size A c (tens i) ∧ Below W.heap.size W w'
theorem plus_step (i j : Int) (k : Nat) {cv s : Int} (hc : cv = (((i.natAbs % 10 ^ k + j.natAbs % 10 ^ k) / 10 ^ k : Nat) : Int)) (hs : s = cv + nth (tens i) k + nth (tens j) k) :
    pad k (i.natAbs + j.natAbs) ++ [(s % 10).toNat] = pad (k + 1) (i.natAbs + j.natAbs) ∧ s / 10 = (((i.natAbs % 10 ^ (k + 1) + j.natAbs % 10 ^ (k + 1)) / 10 ^ (k + 1) : Nat) : Int) := by
  obtain ⟨h1, h2⟩ := add_step i.natAbs j.natAbs k
  rw [nth_tens, nth_tens] at hs
  rw [pad_snoc, ← h1, ← h2]
  subst hc; subst hs
  refine ⟨?_, by omega⟩
  congr 2
theorem carry_le (m n k : Nat) : (m % 10 ^ k + n % 10 ^ k) / 10 ^ k ≤ 1 := by
  have hp : 0 < 10 ^ k := Nat.pow_pos (by decide)
  have h3 := Nat.mod_lt m hp
  have h4 := Nat.mod_lt n hp
  rw [Nat.div_le_iff_le_mul_add_pred hp]
  omega
theorem plus_end (i j : Int) (k : Nat) {cv : Int} (hc : cv = (((i.natAbs % 10 ^ k + j.natAbs % 10 ^ k) / 10 ^ k : Nat) : Int)) (h1 : (tens i).length ≤ k) (h2 : (tens j).length ≤ k) :
    pad k (i.natAbs + j.natAbs) ++ [cv.toNat] = pad (k + 1) (i.natAbs + j.natAbs) ∧ val 10 (pad (k + 1) (i.natAbs + j.natAbs)) = i.natAbs + j.natAbs := by
  have a1 := natAbs_past h1
  have a2 := natAbs_past h2
  obtain ⟨h3, _⟩ := add_step i.natAbs j.natAbs k
  rw [a1, a2] at h3
  have hcl := carry_le i.natAbs j.natAbs k
  constructor
  · rw [pad_snoc, ← h3]
    generalize (i.natAbs % 10 ^ k + j.natAbs % 10 ^ k) / 10 ^ k = q at *
    subst hc
    congr 2
    omega
  · rw [pad_val]
    have hp : 0 < 10 ^ k := Nat.pow_pos (by decide)
    have b1 : i.natAbs < 10 ^ k := by
      rcases Nat.lt_or_ge i.natAbs (10 ^ k) with h | h
      · exact h
      · have := Nat.div_pos h hp; omega
    have b2 : j.natAbs < 10 ^ k := by
      rcases Nat.lt_or_ge j.natAbs (10 ^ k) with h | h
      · exact h
      · have := Nat.div_pos h hp; omega
    exact Nat.mod_eq_of_lt (by rw [Nat.pow_succ]; omega)
theorem minus_step (i j : Int) (k : Nat) (h : j.natAbs ≤ i.natAbs) {cv s : Int} (hc : cv = ((bor i.natAbs j.natAbs k : Nat) : Int)) (hs : s = nth (tens i) k + 10 - cv - nth (tens j) k) :
    pad k (i.natAbs - j.natAbs) ++ [(s % 10).toNat] = pad (k + 1) (i.natAbs - j.natAbs) ∧ 1 - s / 10 = ((bor i.natAbs j.natAbs (k + 1) : Nat) : Int) ∧ 0 ≤ s := by
  obtain ⟨h1, h2, h3⟩ := sub_step i.natAbs j.natAbs k h
  have hb := bor_le i.natAbs j.natAbs k
  rw [nth_tens, nth_tens] at hs
  rw [pad_snoc, ← h1, ← h2]
  have e : s = ((i.natAbs / 10 ^ k % 10 + 10 - bor i.natAbs j.natAbs k - j.natAbs / 10 ^ k % 10 : Nat) : Int) := by
    subst hc; subst hs; omega
  have hlt : i.natAbs / 10 ^ k % 10 + 10 - bor i.natAbs j.natAbs k - j.natAbs / 10 ^ k % 10 < 20 := by
    have := Nat.mod_lt (i.natAbs / 10 ^ k) (by decide : 0 < 10); omega
  generalize i.natAbs / 10 ^ k % 10 + 10 - bor i.natAbs j.natAbs k - j.natAbs / 10 ^ k % 10 = q at *
  subst e
  refine ⟨?_, by omega, by omega⟩
  congr 2
theorem minus_end (i j : Int) (k : Nat) (h1 : (tens i).length ≤ k) : val 10 (pad k (i.natAbs - j.natAbs)) = i.natAbs - j.natAbs := by
  rw [pad_val]
  have a1 := natAbs_past h1
  have hp : 0 < 10 ^ k := Nat.pow_pos (by decide)
  have b1 : i.natAbs < 10 ^ k := by
    rcases Nat.lt_or_ge i.natAbs (10 ^ k) with h | h
    · exact h
    · have := Nat.div_pos h hp; omega
  exact Nat.mod_eq_of_lt (by omega)

set_option maxRecDepth 100000
set_option maxHeartbeats 1000000 in
theorem rplusrow_any (A B : Option Addr) (c d : Nat) (i j q : Int) (w : World) (hx : Nums8 w A (tens i)) (hy : Nums8 w B (tens j)) (hl : (tens i).length ≤ 1000000) (hl' : (tens j).length ≤ 1000000) (hq : i.natAbs + j.natAbs = q.natAbs) :
    Calls Tryd.prog 53 #[.slice A (tens i).length c, .slice B (tens j).length d] w (RetTens w q) := by
  have HQ := Lib.hid hq
  have HSX := Lib.hid (tens_small i)
  have HSY := Lib.hid (tens_small j)
  clear hq
  go_enter Tryd.func53, Tryd.ntmps53
  go_wp2_with fail
  go_loopw [5, 6, 7, 8] (fun dv cv iv _ wr => ∃ (k : Nat) (A' : Option Addr) (c' : Nat) (zs : List Nat) (u : Int), k ≤ 1000000 ∧ iv = .int .i64 k ∧ dv = .slice A' zs.length c' ∧ cv = .int .u8 u ∧ 0 ≤ u ∧ u ≤ 1 ∧ zs.length ≤ k ∧ Own8 wr w.heap.size A' c' zs ∧
      Hid (u = (((i.natAbs % 10 ^ k + j.natAbs % 10 ^ k) / 10 ^ k : Nat) : Int)) ∧ Hid (zs = pad k (i.natAbs + j.natAbs)) ∧ Below w.heap.size w wr) (fun _ _ iv _ _ => 1000000 - (intOf iv).toNat)
  case atStart => exact ⟨0, none, 0, [], 0, by omega, rfl, rfl, rfl, by omega, by omega, by simp, Own8.nil _ _, by show _ = _; simp [Nat.mod_one], rfl, Below.refl _ _⟩
  case round =>
    obtain ⟨k, A', c', zs, u, hk, rfl, rfl, rfl, hu0, hu1, hzl, hown, HU, HZ, hbel⟩ := hrel
    have hxr : Nums8 wr A (tens i) := hx.below hbel (Nat.le_refl _)
    have hyr : Nums8 wr B (tens j) := hy.below hbel (Nat.le_refl _)
    have hsz := hbel.size
    have hnx := nth_nonneg (tens i) k
    have hny := nth_nonneg (tens j) k
    have hnx9 := nth_lt (by omega) HSX.out k
    have hny9 := nth_lt (by omega) HSY.out k
    by_cases hka : k < (tens i).length
    · obtain ⟨b, o, rfl, hb, hc⟩ := hxr.2 (by omega)
      have hcell := hc k hka
      have hm1 : (k : Int) < ((tens i).length : Int) := by omega
      clear hc
      by_cases hkb : k < (tens j).length
      · obtain ⟨b', o', rfl, hb', hc'⟩ := hyr.2 (by omega)
        have hcell' := hc' k hkb
        have hm2 : (k : Int) < ((tens j).length : Int) := by omega
        clear hc'
        have hstep := plus_step i j k (s := (u + nth (tens i) k + nth (tens j) k)) HU.out rfl
        have hw8 : 0 ≤ (u + nth (tens i) k + nth (tens j) k) := by omega
        have hw9 : (u + nth (tens i) k + nth (tens j) k) < 20 := by omega
        have e1 : (u + nth (tens i) k + nth (tens j) k) % 10 = ((((u + nth (tens i) k + nth (tens j) k) % 10).toNat : Nat) : Int) := by omega
        have hC := cells_one8 wr _ _ e1
        have HC := Lib.hid hC
        have H8 : Hid (∀ x ∈ [((u + nth (tens i) k + nth (tens j) k) % 10).toNat], x < 256) := by intro x hx'; simp only [List.mem_cons, List.not_mem_nil, or_false] at hx'; omega
        have HN : Hid (zs.length + [((u + nth (tens i) k + nth (tens j) k) % 10).toNat].length ≤ 17592186044416) := by show zs.length + 1 ≤ _; omega
        have HST := Lib.hid hstep
        clear e1 hC hstep
        go_wp2_with (at_builtin; go_loud (refine wpList_app8 rfl (.tmp 42) (.tmp 45) rfl w.heap.size A' c' zs rfl (hown.alloc _) [((u + nth (tens i) k + nth (tens j) k) % 10).toNat] ⟨wr.heap.size, 0, none⟩ 1 1 rfl rfl (by exact HC.out) H8.out HN.out (by simp; omega) (fun A3 c3 w3 hown3 hg3 => ?_)))
        go_roundw
        case rel => exact ⟨k + 1, A3, c3, zs ++ [((u + nth (tens i) k + nth (tens j) k) % 10).toNat], _, by omega, by go_num, by simp, rfl, by omega, by omega, by simp; omega, hown3, HST.out.2, by show _ = _; rw [HZ.out]; exact HST.out.1, Below.own8 (hbel.alloc (by omega) _) (hown.alloc _) (by simp; omega) hg3⟩
        case measure => simp [intOf]; omega
      · have hm2 : ¬ (k : Int) < ((tens j).length : Int) := by omega
        have h0 := nth_past (tens j) k (by omega)
        have HS0 : Hid (u + nth (tens i) k = u + nth (tens i) k + nth (tens j) k) := by show _ = _; rw [h0]; omega
        clear h0
        have hstep := plus_step i j k (s := (u + nth (tens i) k)) HU.out HS0.out
        have hw8 : 0 ≤ (u + nth (tens i) k) := by omega
        have hw9 : (u + nth (tens i) k) < 20 := by omega
        have e1 : (u + nth (tens i) k) % 10 = ((((u + nth (tens i) k) % 10).toNat : Nat) : Int) := by omega
        have hC := cells_one8 wr _ _ e1
        have HC := Lib.hid hC
        have H8 : Hid (∀ x ∈ [((u + nth (tens i) k) % 10).toNat], x < 256) := by intro x hx'; simp only [List.mem_cons, List.not_mem_nil, or_false] at hx'; omega
        have HN : Hid (zs.length + [((u + nth (tens i) k) % 10).toNat].length ≤ 17592186044416) := by show zs.length + 1 ≤ _; omega
        have HST := Lib.hid hstep
        clear e1 hC hstep
        go_wp2_with (at_builtin; go_loud (refine wpList_app8 rfl (.tmp 42) (.tmp 45) rfl w.heap.size A' c' zs rfl (hown.alloc _) [((u + nth (tens i) k) % 10).toNat] ⟨wr.heap.size, 0, none⟩ 1 1 rfl rfl (by exact HC.out) H8.out HN.out (by simp; omega) (fun A3 c3 w3 hown3 hg3 => ?_)))
        go_roundw
        case rel => exact ⟨k + 1, A3, c3, zs ++ [((u + nth (tens i) k) % 10).toNat], _, by omega, by go_num, by simp, rfl, by omega, by omega, by simp; omega, hown3, HST.out.2, by show _ = _; rw [HZ.out]; exact HST.out.1, Below.own8 (hbel.alloc (by omega) _) (hown.alloc _) (by simp; omega) hg3⟩
        case measure => simp [intOf]; omega
    · have hm1 : ¬ (k : Int) < ((tens i).length : Int) := by omega
      have h0 := nth_past (tens i) k (by omega)
      by_cases hkb : k < (tens j).length
      · obtain ⟨b', o', rfl, hb', hc'⟩ := hyr.2 (by omega)
        have hcell' := hc' k hkb
        have hm2 : (k : Int) < ((tens j).length : Int) := by omega
        have HS0 : Hid (u + nth (tens j) k = u + nth (tens i) k + nth (tens j) k) := by show _ = _; rw [h0]; omega
        clear hc' h0
        have hstep := plus_step i j k (s := (u + nth (tens j) k)) HU.out HS0.out
        have hw8 : 0 ≤ (u + nth (tens j) k) := by omega
        have hw9 : (u + nth (tens j) k) < 20 := by omega
        have e1 : (u + nth (tens j) k) % 10 = ((((u + nth (tens j) k) % 10).toNat : Nat) : Int) := by omega
        have hC := cells_one8 wr _ _ e1
        have HC := Lib.hid hC
        have H8 : Hid (∀ x ∈ [((u + nth (tens j) k) % 10).toNat], x < 256) := by intro x hx'; simp only [List.mem_cons, List.not_mem_nil, or_false] at hx'; omega
        have HN : Hid (zs.length + [((u + nth (tens j) k) % 10).toNat].length ≤ 17592186044416) := by show zs.length + 1 ≤ _; omega
        have HST := Lib.hid hstep
        clear e1 hC hstep
        go_wp2_with (at_builtin; go_loud (refine wpList_app8 rfl (.tmp 42) (.tmp 45) rfl w.heap.size A' c' zs rfl (hown.alloc _) [((u + nth (tens j) k) % 10).toNat] ⟨wr.heap.size, 0, none⟩ 1 1 rfl rfl (by exact HC.out) H8.out HN.out (by simp; omega) (fun A3 c3 w3 hown3 hg3 => ?_)))
        go_roundw
        case rel => exact ⟨k + 1, A3, c3, zs ++ [((u + nth (tens j) k) % 10).toNat], _, by omega, by go_num, by simp, rfl, by omega, by omega, by simp; omega, hown3, HST.out.2, by show _ = _; rw [HZ.out]; exact HST.out.1, Below.own8 (hbel.alloc (by omega) _) (hown.alloc _) (by simp; omega) hg3⟩
        case measure => simp [intOf]; omega
      · have hm2 : ¬ (k : Int) < ((tens j).length : Int) := by omega
        have hend := plus_end i j k HU.out (by omega) (by omega)
        have e1 : u = ((u.toNat : Nat) : Int) := by omega
        have hC := cells_one8 wr _ _ e1
        have HC := Lib.hid hC
        have H8 : Hid (∀ x ∈ [u.toNat], x < 256) := by intro x hx'; simp only [List.mem_cons, List.not_mem_nil, or_false] at hx'; omega
        have HN : Hid (zs.length + [u.toNat].length ≤ 17592186044416) := by show zs.length + 1 ≤ _; omega
        have HE := Lib.hid hend
        clear e1 hC hend h0
        go_wp2_with (at_builtin; go_loud (refine wpList_app8 rfl (.tmp 49) (.tmp 51) rfl w.heap.size A' c' zs rfl (hown.alloc _) [u.toNat] ⟨wr.heap.size, 0, none⟩ 1 1 rfl rfl (by exact HC.out) H8.out HN.out (by simp; omega) (fun A3 c3 w3 hown3 hg3 => ?_)); refine Hid.out ?_)
        refine Lib.hid ?_
        have hb3 := Below.own8 (hbel.alloc (by omega) _) (hown.alloc _) (by simp; omega) hg3
        obtain ⟨ds, hds⟩ : ∃ ds, ds = zs ++ [u.toNat] := ⟨_, rfl⟩
        rw [← hds] at hown3
        have hll : zs.length + 1 = ds.length := by rw [hds]; simp
        rw [hll]
        have hvz : val 10 ds = q.natAbs := by rw [hds, HZ.out, HE.out.1, HE.out.2, HQ.out]
        have hsm : small 10 ds := by rw [hds, HZ.out, HE.out.1]; exact pad_small _ _
        have hlen3 : ds.length ≤ 1048576 := by rw [hds]; simp; omega
        have HV := Lib.hid hvz; have HSM := Lib.hid hsm; have HL3 := Lib.hid hlen3
        clear hvz hsm hlen3 hds HE HC H8 HN hll
        go_wp2_with (go_at_call 55; refine (rcut_tens w.heap.size A3 c3 ds q _ hown3 HSM.out HV.out HL3.out).mono ?_; rintro e w4 ⟨rfl, hown4, rfl⟩)
        go_ret
        exact ⟨A3, c3, rfl, hown4, hb3⟩

set_option maxHeartbeats 1000000 in
theorem rminusrow_any (A B : Option Addr) (c d : Nat) (i j q : Int) (w : World) (hx : Nums8 w A (tens i)) (hy : Nums8 w B (tens j)) (hl : (tens i).length ≤ 1048576) (hl' : (tens j).length ≤ 1048576) (hle : j.natAbs ≤ i.natAbs) (hq : i.natAbs - j.natAbs = q.natAbs) :
    Calls Tryd.prog 54 #[.slice A (tens i).length c, .slice B (tens j).length d] w (RetTens w q) := by
  have HQ := Lib.hid hq
  have HLE := Lib.hid hle
  have HSX := Lib.hid (tens_small i)
  have HSY := Lib.hid (tens_small j)
  clear hq hle
  go_enter Tryd.func54, Tryd.ntmps54
  go_wp2_with fail
  go_loopw [5, 6, 7, 8] (fun dv cv iv _ wr => ∃ (k : Nat) (A' : Option Addr) (c' : Nat) (zs : List Nat) (u : Int), k ≤ (tens i).length ∧ iv = .int .i64 k ∧ dv = .slice A' zs.length c' ∧ cv = .int .u8 u ∧ 0 ≤ u ∧ u ≤ 1 ∧ zs.length ≤ k ∧ Own8 wr w.heap.size A' c' zs ∧
      Hid (u = ((bor i.natAbs j.natAbs k : Nat) : Int)) ∧ Hid (zs = pad k (i.natAbs - j.natAbs)) ∧ Below w.heap.size w wr) (fun _ _ iv _ _ => 1048576 - (intOf iv).toNat)
  case atStart => exact ⟨0, none, 0, [], 0, by omega, rfl, rfl, rfl, by omega, by omega, by simp, Own8.nil _ _, by show _ = _; simp [bor, Nat.mod_one], rfl, Below.refl _ _⟩
  case round =>
    obtain ⟨k, A', c', zs, u, hk, rfl, rfl, rfl, hu0, hu1, hzl, hown, HU, HZ, hbel⟩ := hrel
    have hxr : Nums8 wr A (tens i) := hx.below hbel (Nat.le_refl _)
    have hyr : Nums8 wr B (tens j) := hy.below hbel (Nat.le_refl _)
    have hsz := hbel.size
    have hnx := nth_nonneg (tens i) k
    have hny := nth_nonneg (tens j) k
    have hnx9 := nth_lt (by omega) HSX.out k
    have hny9 := nth_lt (by omega) HSY.out k
    by_cases hka : k < (tens i).length
    · obtain ⟨b, o, rfl, hb, hc⟩ := hxr.2 (by omega)
      have hcell := hc k hka
      have hm1 : (k : Int) < ((tens i).length : Int) := by omega
      clear hc
      by_cases hkb : k < (tens j).length
      · obtain ⟨b', o', rfl, hb', hc'⟩ := hyr.2 (by omega)
        have hcell' := hc' k hkb
        have hm2 : (k : Int) < ((tens j).length : Int) := by omega
        clear hc'
        have hstep := minus_step i j k HLE.out (s := (nth (tens i) k + 10 - u - nth (tens j) k)) HU.out rfl
        have hw8 : 0 ≤ (nth (tens i) k + 10 - u - nth (tens j) k) := hstep.2.2
        have hw9 : (nth (tens i) k + 10 - u - nth (tens j) k) < 20 := by omega
        have e1 : (nth (tens i) k + 10 - u - nth (tens j) k) % 10 = ((((nth (tens i) k + 10 - u - nth (tens j) k) % 10).toNat : Nat) : Int) := by omega
        have hC := cells_one8 wr _ _ e1
        have HC := Lib.hid hC
        have H8 : Hid (∀ x ∈ [((nth (tens i) k + 10 - u - nth (tens j) k) % 10).toNat], x < 256) := by intro x hx'; simp only [List.mem_cons, List.not_mem_nil, or_false] at hx'; omega
        have HN : Hid (zs.length + [((nth (tens i) k + 10 - u - nth (tens j) k) % 10).toNat].length ≤ 17592186044416) := by show zs.length + 1 ≤ _; omega
        have hq0 : 0 ≤ 1 - (nth (tens i) k + 10 - u - nth (tens j) k) / 10 := by omega
        have HST := Lib.hid hstep
        clear e1 hC hstep
        go_wp2_with (at_builtin; go_loud (refine wpList_app8 rfl (.tmp 32) (.tmp 35) rfl w.heap.size A' c' zs rfl (hown.alloc _) [((nth (tens i) k + 10 - u - nth (tens j) k) % 10).toNat] ⟨wr.heap.size, 0, none⟩ 1 1 rfl rfl (by exact HC.out) H8.out HN.out (by simp; omega) (fun A3 c3 w3 hown3 hg3 => ?_)))
        go_roundw
        case rel => exact ⟨k + 1, A3, c3, zs ++ [((nth (tens i) k + 10 - u - nth (tens j) k) % 10).toNat], _, by omega, by go_num, by simp, rfl, by omega, by omega, by simp; omega, hown3, HST.out.2.1, by show _ = _; rw [HZ.out]; exact HST.out.1, Below.own8 (hbel.alloc (by omega) _) (hown.alloc _) (by simp; omega) hg3⟩
        case measure => simp [intOf]; omega
      · have hm2 : ¬ (k : Int) < ((tens j).length : Int) := by omega
        have h0 := nth_past (tens j) k (by omega)
        have HS0 : Hid (nth (tens i) k + 10 - u = nth (tens i) k + 10 - u - nth (tens j) k) := by show _ = _; rw [h0]; omega
        clear h0
        have hstep := minus_step i j k HLE.out (s := (nth (tens i) k + 10 - u)) HU.out HS0.out
        have hw8 : 0 ≤ (nth (tens i) k + 10 - u) := hstep.2.2
        have hw9 : (nth (tens i) k + 10 - u) < 20 := by omega
        have e1 : (nth (tens i) k + 10 - u) % 10 = ((((nth (tens i) k + 10 - u) % 10).toNat : Nat) : Int) := by omega
        have hC := cells_one8 wr _ _ e1
        have HC := Lib.hid hC
        have H8 : Hid (∀ x ∈ [((nth (tens i) k + 10 - u) % 10).toNat], x < 256) := by intro x hx'; simp only [List.mem_cons, List.not_mem_nil, or_false] at hx'; omega
        have HN : Hid (zs.length + [((nth (tens i) k + 10 - u) % 10).toNat].length ≤ 17592186044416) := by show zs.length + 1 ≤ _; omega
        have hq0 : 0 ≤ 1 - (nth (tens i) k + 10 - u) / 10 := by omega
        have HST := Lib.hid hstep
        clear e1 hC hstep
        go_wp2_with (at_builtin; go_loud (refine wpList_app8 rfl (.tmp 32) (.tmp 35) rfl w.heap.size A' c' zs rfl (hown.alloc _) [((nth (tens i) k + 10 - u) % 10).toNat] ⟨wr.heap.size, 0, none⟩ 1 1 rfl rfl (by exact HC.out) H8.out HN.out (by simp; omega) (fun A3 c3 w3 hown3 hg3 => ?_)))
        go_roundw
        case rel => exact ⟨k + 1, A3, c3, zs ++ [((nth (tens i) k + 10 - u) % 10).toNat], _, by omega, by go_num, by simp, rfl, by omega, by omega, by simp; omega, hown3, HST.out.2.1, by show _ = _; rw [HZ.out]; exact HST.out.1, Below.own8 (hbel.alloc (by omega) _) (hown.alloc _) (by simp; omega) hg3⟩
        case measure => simp [intOf]; omega
    · have hm1 : ¬ (k : Int) < ((tens i).length : Int) := by omega
      have hend := minus_end i j k (by omega)
      have hvz : val 10 zs = q.natAbs := by rw [HZ.out, hend, HQ.out]
      have hsm : small 10 zs := by rw [HZ.out]; exact pad_small _ _
      have HV := Lib.hid hvz; have HSM := Lib.hid hsm
      clear hvz hsm hend
      go_wp2_with (go_at_call 55; refine (rcut_tens w.heap.size A' c' zs q _ hown HSM.out HV.out (by omega)).mono ?_; rintro e w4 ⟨rfl, hown4, rfl⟩)
      go_ret
      exact ⟨A', c', rfl, hown4, hbel⟩
end Go.Proofs.YteggjfmcpodepaaDoor
namespace Go.Proofs.YteggjfmcpodepaaDoor
open Go.RowKit

theorem cmp_length10 {xs ys : List Nat} (hs : small 10 xs) (hm : noLead ys) (h : xs.length < ys.length) : cmpN (val 10 xs) (val 10 ys) = -1 ∧ cmpN (val 10 ys) (val 10 xs) = 1 := by
  have := val_lt_of_length (by decide : 2 ≤ 10) hs hm h
  unfold cmpN
  exact ⟨if_pos this, by rw [if_neg (by omega), if_pos this]⟩
theorem cmp_digit10 {xs ys : List Nat} (hs : small 10 xs) (h : xs.length = ys.length) {k : Nat} (hk : k < xs.length) (hd : ∀ j, k + 1 ≤ j → nth xs j = nth ys j) (hlt : nth xs k < nth ys k) :
    cmpN (val 10 xs) (val 10 ys) = -1 ∧ cmpN (val 10 ys) (val 10 xs) = 1 := by
  have := val_lt_of_digit hs h hk (fun j hj _ => (nth_eq_iff _ _ _ _).1 (hd j hj)) ((nth_lt_iff _ _ _ _).1 hlt)
  unfold cmpN
  exact ⟨if_pos this, by rw [if_neg (by omega), if_pos this]⟩
theorem cmp_same10 {xs ys : List Nat} (h : xs.length = ys.length) (hd : ∀ j, 0 ≤ j → nth xs j = nth ys j) : cmpN (val 10 xs) (val 10 ys) = 0 := by
  have : xs = ys := by
    apply List.ext_getElem h
    intro j h1 h2
    have := (nth_eq_iff _ _ _ _).1 (hd j (Nat.zero_le _))
    simpa [List.getD, List.getElem?_eq_getElem h1, List.getElem?_eq_getElem h2] using this
  subst this
  simp [cmpN]

set_option maxRecDepth 100000 in
set_option maxHeartbeats 400000 in
theorem rsizes_any (A B : Option Addr) (c d : Nat) (xs ys : List Nat) (w : World) (hx : Nums8 w A xs) (hy : Nums8 w B ys) (hs : small 10 xs) (ht : small 10 ys) (hn : noLead xs) (hm : noLead ys)
    (hl : xs.length ≤ 1048576) (hl' : ys.length ≤ 1048576) :
    Calls Tryd.prog 58 #[.slice A xs.length c, .slice B ys.length d] w fun e w' => e = .returned (.int .i64 (cmpN (val 10 xs) (val 10 ys))) ∧ ∃ n, w' = w.drewN n := by
  by_cases hlen : xs.length = ys.length
  · have hne : ¬ (xs.length : Int) < (ys.length : Int) := by omega
    have hne2 : ¬ (ys.length : Int) < (xs.length : Int) := by omega
    have HL := Lib.hid hlen; clear hlen
    go_enter Tryd.func58, Tryd.ntmps58
    go_wp2
    go_loopw [5] (fun v wr => ∃ k : Nat, k ≤ xs.length ∧ v = .int .i64 ((k : Int) - 1) ∧ (∀ j, k ≤ j → nth xs j = nth ys j) ∧ ∃ n, wr = w.drewN n) (fun v _ => (intOf v + 1).toNat)
    case atStart => exact ⟨xs.length, Nat.le_refl _, rfl, fun j hj => by rw [nth_past xs j hj, nth_past ys j (by rw [← HL.out]; exact hj)], 0, rfl⟩
    case round =>
      obtain ⟨k, hk, rfl, hz, n, rfl⟩ := hrel
      have HZ := Lib.hid hz; clear hz
      by_cases hk0 : k = 0
      · subst hk0
        go_wp2
        go_ret
        exact ⟨ret_int' (cmp_same10 HL.out HZ.out).symm, n, rfl⟩
      · obtain ⟨m, rfl⟩ : ∃ m, k = m + 1 := ⟨k - 1, by omega⟩
        obtain ⟨b, o, rfl, hb, hc⟩ := hx.2 (by omega)
        obtain ⟨b', o', rfl, hb', hc'⟩ := hy.2 (by rw [← HL.out]; omega)
        have hcell := hc m (by omega)
        have hcell' := hc' m (by rw [← HL.out]; omega)
        have hm1 : (m : Int) < (xs.length : Int) := by omega
        have hm2 : (m : Int) < (ys.length : Int) := by have := HL.out; omega
        have hm0 : (0 : Int) ≤ (m : Int) := by omega
        clear hc hc'
        rcases Int.lt_trichotomy (nth xs m) (nth ys m) with h | h | h
        · have hdl : decide (nth xs m < nth ys m) = true := by simpa using h
          have H := Lib.hid h
          clear h
          go_wp2
          go_quiet (fail)
          go_wp2
          go_ret
          exact ⟨ret_int' (cmp_digit10 hs HL.out (by omega) HZ.out H.out).1.symm, _, by simp only [World.drewN_drewN]; rfl⟩
        · have hd1 : decide (nth xs m < nth ys m) = false := by simp [h]
          have hd2 : decide (nth ys m < nth xs m) = false := by simp [h]
          have H := Lib.hid h
          clear h
          go_wp2
          go_quiet (fail)
          go_wp2
          go_quiet (fail)
          go_wp2
          go_roundw
          case rel => exact ⟨m, by omega, rfl, fun j hj => by
            by_cases e : j = m
            · rw [e]; exact H.out
            · exact HZ.out j (by omega), _, by first | rfl | (simp only [World.drewN_drewN]; rfl)⟩
          case measure => simp [intOf]
        · have hd1 : decide (nth xs m < nth ys m) = false := by simp; omega
          have hd2 : decide (nth ys m < nth xs m) = true := by simpa using h
          have H := Lib.hid h
          clear h
          go_wp2
          go_quiet (fail)
          go_wp2
          go_quiet (fail)
          go_wp2
          go_ret
          exact ⟨ret_int' (cmp_digit10 ht HL.out.symm (by have := HL.out; omega) (fun j hj => (HZ.out j hj).symm) H.out).2.symm, _, by simp only [World.drewN_drewN]; rfl⟩
  · rcases Nat.lt_or_ge xs.length ys.length with h | h
    · have hlt : (xs.length : Int) < (ys.length : Int) := by omega
      go_enter Tryd.func58, Tryd.ntmps58
      go_wp2
      go_ret
      exact ⟨ret_int' (cmp_length10 hs hm h).1.symm, 0, rfl⟩
    · have hlt : ¬ (xs.length : Int) < (ys.length : Int) := by omega
      have hlt2 : (ys.length : Int) < (xs.length : Int) := by omega
      go_enter Tryd.func58, Tryd.ntmps58
      go_wp2
      go_ret
      exact ⟨ret_int' (cmp_length10 ht hn (by omega)).2.symm, 0, rfl⟩
/-- At the digits of two numbers. -/
theorem rsizes_tens (A B : Option Addr) (c d : Nat) (i j : Int) (w : World) (hx : Nums8 w A (tens i)) (hy : Nums8 w B (tens j)) (hl : (tens i).length ≤ 1048576) (hl' : (tens j).length ≤ 1048576) :
    Calls Tryd.prog 58 #[.slice A (tens i).length c, .slice B (tens j).length d] w fun e w' => e = .returned (.int .i64 (cmpN i.natAbs j.natAbs)) ∧ ∃ n, w' = w.drewN n := by
  have h := rsizes_any A B c d (tens i) (tens j) w hx hy (tens_small i) (tens_small j) (by rw [tens_eq]; exact noLead_digs (by decide) _) (by rw [tens_eq]; exact noLead_digs (by decide) _) hl hl'
  rwa [val_tens, val_tens] at h
end Go.Proofs.YteggjfmcpodepaaDoor

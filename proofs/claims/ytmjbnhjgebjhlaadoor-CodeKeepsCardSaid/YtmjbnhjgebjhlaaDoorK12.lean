/- Texts of this claim. -/
import Derived.Test.YtmjbnhjgebjhlaaDoorK11
import Derived.Test.YtmjbnhjgebjhlaaDoorRows
import Derived.WalkSpells
import Derived.WalkLawsBesides
import Derived.BigQuiet
import Derived.Deep.QuietTactic
import Derived.Deep.RegionHeld3
import Derived.Deep.DeepCutAuto
import Derived.Lib.Hide
import Derived.Laws.CopyOwn
namespace Go.Proofs.YtmjbnhjgebjhlaaDoor
open Go.RowKit
def lenOf : Value → Nat | .slice _ n _ => n | _ => 0
theorem nth_past (xs : List Nat) (k : Nat) (h : xs.length ≤ k) : nth xs k = 0 := by
 unfold nth; rw [zeq xs k h]; rfl
theorem nth_set (ys : List Nat) (i v : Nat) (h : i < ys.length) (j : Nat) : nth (ys.set i v) j = if j = i then (v : Int) else nth ys j := by
 unfold nth;by_cases hj : j = i
 · subst hj; simp [h]
 · rw [if_neg hj]; simp [show ¬ i = j from fun e => hj e.symm]
theorem ykx (j : Nat) : nth [] j = 0 := by unfold nth; simp
def rowOf (ys : List Nat) (j : Nat) : Value := .int .u64 (nth ys j)
def Row (w : World) (g n : Nat) (ys : List Nat) : Prop := w.rowIs g 30 n (rowOf ys) ∧ ys.length ≤ n
section
variable {w w' : World} {g n : Nat} {ys : List Nat}
theorem Row.cell (h : Row w g n ys) {j : Nat} (hj : j < n) : w.cell? ⟨g, j, none⟩ = some (.int .u64 (nth ys j)) := h.1.cell hj
theorem Row.frozen (h : Row w g n ys) (j : Nat) : w.frozen? ⟨g, j, none⟩ = false := h.1.frozen j
theorem Row.lt (h : Row w g n ys) : g < w.heap.size := h.1.lt
theorem Row.made (w : World) (n : Nat) : Row (w.alloc (.cells (madeCells #[.int .u64 0] n) 30)) w.heap.size n [] :=
 ⟨(World.rowIs_made w _ n _).congr fun i _ => by unfold rowOf; rw [ykx], Nat.zero_le _⟩
theorem Row.set (h : Row w g n ys) (i v : Nat) (hi : i < ys.length) : Row (w.setCell ⟨g, i, none⟩ (.int .u64 (v : Int))) g n (ys.set i v) :=
 ⟨(h.1.set i _).congr fun j _ => by unfold rowOf; rw [nth_set _ _ _ hi]; split <;> rfl, by simpa using h.2⟩
theorem Row.of_block (h : Row w g n ys) (e : w'.heap[g]? = w.heap[g]?) : Row w' g n ys := ⟨h.1.of_block e, h.2⟩
theorem Row.alloc (h : Row w g n ys) (o : Obj) : Row (w.alloc o) g n ys := ⟨h.1.alloc o, h.2⟩
theorem Row.drew (h : Row w g n ys) : Row w.drew g n ys := h
theorem Row.below {B : Nat} (h : Row w g n ys) (hb : Below B w w') (hg : g < B) : Row w' g n ys := h.of_block (hb.block g hg)
theorem Row.fill (h : Row w g n ys) : Row w g n (ys ++ List.replicate (n - ys.length) 0) := by
 refine ⟨h.1.congr fun i hi => ?_, by have := h.2; simp; omega⟩;unfold rowOf nth;by_cases h1 : i < ys.length
 · simp [List.getElem?_append_left h1]
 · simp [List.getElem?_append_right (show ys.length ≤ i by omega), List.getElem?_eq_none (show ys.length ≤ i by omega), List.getElem?_replicate]
   split <;> rfl
end
def Own (w : World) (base : Nat) (A : Option Addr) (c : Nat) (xs : List Nat) : Prop :=
 w.ownsRow base 30 1 (.slice A xs.length c) xs.length (xs.map fun x : Nat => Value.int .u64 (x : Int)) ∧ ∀ x ∈ xs, x < 18446744073709551616
section
variable {w w' : World} {base : Nat} {A : Option Addr} {c : Nat} {xs : List Nat}
theorem nth_bound (h : ∀ x ∈ xs, x < 18446744073709551616) (k : Nat) : nth xs k < 18446744073709551616 := by
 unfold nth;by_cases hk : k < xs.length
 · have := h _ (List.getElem_mem hk); simp only [List.getD, List.getElem?_eq_getElem hk, Option.getD_some]; omega
 · rw [zeq xs k (by omega)]; simp
theorem Own.nums (h : Own w base A c xs) : Nums w A xs := by
 refine ⟨nth_bound h.2, fun h0 => ?_⟩;rcases h.1.2 with ⟨_, hn⟩ | ⟨g, cap, cur, hv, hg, hh, hnc, _, hsz, hcur⟩
 · omega
 · injection hv with hA _ hc
   subst hA;refine ⟨g, 0, rfl, (Array.getElem?_eq_some_iff.1 hh).1, fun k hk => ?_⟩;rw [Nat.zero_add, cell_of_row w g k cur _ (0, 0) hh];have e : cur[k]? = cur.toList[k]? := by simp
   have e2 : cur.toList[k]? = (cur.toList.take (xs.length * 1))[k]? := by rw [List.getElem?_take, if_pos (by omega)]
   rw [e, e2, hcur];simp [nth, hk]
theorem Own.nil (w : World) (base : Nat) : Own w base none 0 [] := ⟨World.ownsRow_nil _ _ _ _, fun _ h => by cases h⟩
theorem Own.of_row {g n : Nat} {ys : List Nat} (h : Row w g n ys) (hb : base ≤ g) (hc : n ≤ maxLen) (hx : xs.length ≤ n) (he : ∀ j, j < xs.length → nth ys j = nth xs j) (h64 : ∀ x ∈ xs, x < 18446744073709551616) : Own w base (some ⟨g, 0, none⟩) n xs := by
 obtain ⟨⟨cur, hh, hsz, hcell⟩, hle⟩ := h;refine ⟨⟨by simp, .inr ⟨g, n, cur, rfl, hb, hh, hx, hc, by omega, ?_⟩⟩, h64⟩;apply List.ext_getElem?
 intro j;rw [List.getElem?_take];by_cases hj : j < xs.length
 · rw [if_pos (by omega)];have h1 := hcell j (by omega);rw [Array.getElem?_toList, h1];unfold rowOf;rw [he j hj];simp [nth, hj]
 · rw [if_neg (by omega), List.getElem?_eq_none (by simpa using Nat.le_of_not_lt hj)]
theorem Own.kept {row : Option Nat} (h : Own w base A c xs) (hg : w.grownBy w' row) (hne : (Value.slice A xs.length c).ownBlock = none ∨ (Value.slice A xs.length c).ownBlock ≠ row) : Own w' base A c xs := ⟨h.1.kept hg hne, h.2⟩
theorem Own.below {B : Nat} (h : Own w base A c xs) (hb : Below B w w') (hB : w.heap.size ≤ B) : Own w' base A c xs :=
 h.kept (row := none) ⟨hb.os, hb.tape, hb.output, hb.size, fun k hk _ => hb.block k (by omega)⟩ (by cases (Value.slice A xs.length c).ownBlock <;> simp)
theorem Own.alloc (h : Own w base A c xs) (o : Obj) : Own (w.alloc o) base A c xs := ⟨h.1.alloc o, h.2⟩
theorem Own.drew (h : Own w base A c xs) : Own w.drew base A c xs := h
theorem Own.mono {b' : Nat} (h : Own w base A c xs) (hb : b' ≤ base) : Own w b' A c xs := by
 refine ⟨⟨h.1.1, ?_⟩, h.2⟩;rcases h.1.2 with h2 | ⟨g, cap, cur, hv, hg, r⟩
 · exact .inl h2
 · exact .inr ⟨g, cap, cur, hv, by omega, r⟩
theorem Own.setCell (h : Own w base A c xs) {p : Addr} (hp : ∀ q, A = some q → q.block ≠ p.block) (u : Value) : Own (w.setCell p u) base A c xs := by
 refine ⟨⟨h.1.1, ?_⟩, h.2⟩;rcases h.1.2 with h2 | ⟨g, cap, cur, hv, hg, hh, r⟩
 · exact .inl h2
 · refine .inr ⟨g, cap, cur, hv, hg, ?_, r⟩;rw [Below.heap_setCell _ _ _ _ (by injection hv with e1; exact hp _ e1)];exact hh
theorem Own.ge (h : Own w base A c xs) : ∀ q, A = some q → base ≤ q.block ∧ q.block < w.heap.size := by
 intro q hq;subst hq;exact h.1.lt q.block rfl
theorem Nums.keep (h : Nums w A xs) (hs : w.heap.size ≤ w'.heap.size) (hk : ∀ p : Addr, p.block < w.heap.size → w'.cell? p = w.cell? p) : Nums w' A xs :=
 ⟨h.1, fun h0 => by
  obtain ⟨b, o, rfl, hb, hc⟩ := h.2 h0;exact ⟨b, o, rfl, by omega, fun k hk' => (hk _ hb).trans (hc k hk')⟩⟩
theorem Nums.alloc (h : Nums w A xs) (o : Obj) : Nums (w.alloc o) A xs := h.keep (by simp) fun p hp => World.cell?_alloc_lt w o p hp
theorem Nums.drew (h : Nums w A xs) : Nums w.drew A xs := h
theorem Nums.below {B : Nat} (h : Nums w A xs) (hb : Below B w w') (hB : w.heap.size ≤ B) : Nums w' A xs := h.keep hb.size fun _ hp => hb.cell (by omega)
theorem Nums.setCell (h : Nums w A xs) {p : Addr} (hp : ∀ q, A = some q → q.block ≠ p.block) (u : Value) : Nums (w.setCell p u) A xs :=
 ⟨h.1, fun h0 => by
  obtain ⟨b, o, rfl, hb, hc⟩ := h.2 h0;refine ⟨b, o, rfl, by simpa [World.setCell] using hb, fun k hk' => ?_⟩;rw [World.cell?_setCell_other _ _ _ _ (fun e => hp _ rfl (by rw [e]))];exact hc k hk'⟩
end
theorem Blk.two {w : World} {g : Nat} {t : TypeId} {u v : Value} (h : Blk w g t #[u, v]) :
 w.cell? ⟨g, 0, none⟩ = some u ∧ w.cell? ⟨g, 1, none⟩ = some v ∧ w.frozen? ⟨g, 0, none⟩ = false ∧ w.frozen? ⟨g, 1, none⟩ = false :=
 ⟨h.cell 0, h.cell 1, h.frozen 0, h.frozen 1⟩
theorem Blk.first (w : World) (t : TypeId) (cs : Array Value) (o : Obj) : Blk ((w.alloc (.cells cs t)).alloc o) w.heap.size t cs := (Blk.new w t cs).alloc o
/-! ### copy into a new row -/
theorem copy_nums {w : World} (g n dCap c : Nat) (A : Option Addr) (xs : List Nat) (hrow : Row w g n []) (hx : Nums w A xs) :
 ∃ w', (Builtin.copy_ #[59, 59] 3 #[.slice (some ⟨g, 0, none⟩) n dCap, .slice A xs.length c]).run Tryd.prog w = .ok (goInt (xs.take n).length) w' ∧
  Row w' g n (xs.take n) ∧ w.grownBy w' (some g) ∧ w'.heap.size = w.heap.size := by
 have hsz : (Tryd.prog.info? 30).map (·.size) = some 1 := by kernel_rfl
 by_cases h0 : (xs.take n).length = 0
 · have hrun := run_copy_none (P := Tryd.prog) w 59 59 3 30 (some ⟨g, 0, none⟩) A n dCap xs.length c Tryd.underlying59 hsz (by rw [List.length_take] at h0; rw [Nat.min_comm] at h0; exact h0);have hk : xs.take n = [] := List.eq_nil_of_length_eq_zero h0;exact ⟨w, by rw [hrun, h0]; rfl, by rw [hk]; exact hrow, World.grownBy.refl w _, rfl⟩
 · have hl : (xs.take n).length = min n xs.length := List.length_take;obtain ⟨b, off, rfl, hb, hc⟩ := hx.2 (by omega);obtain ⟨cur, hg, hsz2, hcur⟩ := hrow.1;have hrun := run_copy_row (P := Tryd.prog) w 59 59 3 30 g 0 n dCap ⟨b, off, none⟩ xs.length c cur _ ((xs.take n).map fun x : Nat => Value.int .u64 (x : Int)) Tryd.underlying59 hsz hg
    (by rw [List.length_map, hl, Nat.min_comm]) (fun j v hj => ?_) (by rw [List.length_map, hl, hsz2]; omega) (fun v hv => ?_)
   · refine ⟨_, hrun.trans (by rw [List.length_map]), ⟨⟨_, setRow_heap w g _ _ _ _ hg, ?_, fun i hi => ?_⟩, by rw [hl]; omega⟩, ⟨rfl, rfl, rfl, by simp [World.setRow], fun k hk hne => setRow_other w g k _ (fun e => hne (by rw [e]))⟩, by simp [World.setRow]⟩
     · simp [hsz2]; omega
     · simp only [List.take_zero, List.nil_append, Nat.zero_add, List.getElem?_toArray]
       by_cases hik : i < (xs.take n).length
       · rw [List.getElem?_append_left (by simpa using hik), List.getElem?_map, List.getElem?_eq_getElem hik];unfold rowOf nth;rw [List.getD, List.getElem?_eq_getElem hik]; rfl
       · rw [List.getElem?_append_right (by simpa using hik), List.getElem?_drop];rw [List.length_map];have e2 : (xs.take n).length + (i - (xs.take n).length) = i := by omega
         rw [e2, Array.getElem?_toList, hcur i hi];unfold rowOf;rw [ykx, nth_past _ _ (by omega)]
   · rw [List.getElem?_map, List.getElem?_take] at hj;split at hj
     · by_cases hjx : j < xs.length
       · rw [List.getElem?_eq_getElem hjx] at hj;simp only [Option.map_some, Option.some.injEq] at hj
         rw [← hj];have h2 := hc j hjx;rw [show (⟨b, off, none⟩ : Addr).add j = ⟨b, off + j, none⟩ from by unfold Addr.add; split <;> simp_all, h2];simp [nth, hjx]
       · rw [List.getElem?_eq_none (by omega)] at hj; simp at hj
     · simp at hj
   · rw [List.mem_map] at hv;obtain ⟨x, _, rfl⟩ := hv;rfl
/-! ### append of new words to a slice of the call's own -/
theorem Below.own {w0 w w' : World} {base : Nat} {A : Option Addr} {c : Nat} {xs : List Nat} (hb : Below base w0 w) (hown : Own w base A c xs) (hbase : base ≤ w.heap.size) (hg : w.grownBy w' (Value.slice A xs.length c).ownBlock) : Below base w0 w' :=
 hb.grown hg hbase (fun k hk => by
  match A, hown, hk with
  | some q, hown, hk =>
   have h1 := hown.ge q rfl;simp only [Value.ownBlock, Option.some.injEq] at hk
   omega
  | none, _, hk => simp [Value.ownBlock] at hk)
theorem Own.cut {w : World} {base : Nat} {A : Option Addr} {c : Nat} {xs : List Nat} (h : Own w base A c xs) (hc : xs ≠ []) {k : Nat} (hk : k ≤ xs.length) : Own w base A c (xs.take k) := by
 refine ⟨⟨by simp, ?_⟩, fun x hx => h.2 x (List.mem_of_mem_take hx)⟩;rcases h.1.2 with ⟨_, h0⟩ | ⟨g, cap, cur, hv, hg, hh, hle, hcap, hsz, hcur⟩
 · exact absurd (List.eq_nil_of_length_eq_zero h0) hc
 · injection hv with hA hn hcc
   subst hA; subst hcc;have hkl : (xs.take k).length = k := by rw [List.length_take]; omega
   refine .inr ⟨g, c, cur, rfl, hg, hh, by omega, hcap, hsz, ?_⟩;rw [hkl, List.map_take, ← hcur, List.take_take, Nat.mul_one, Nat.mul_one, Nat.min_eq_left hk]
/-! ### whole numbers -/
def B18 : Nat := 1000000000000000000
theorem B18_two : 2 ≤ B18 := by unfold B18; omega
@[irreducible] def limbs (i : Int) : List Nat := digs B18 i.natAbs
theorem limbs_eq (i : Int) : limbs i = digs B18 i.natAbs := by unfold limbs; rfl
theorem small64 {xs : List Nat} (h : small B18 xs) : ∀ x ∈ xs, x < 18446744073709551616 := fun x hx => by have := h x hx; unfold B18 at this; omega
def sgn (neg : Bool) (n : Nat) : Int := if neg then -(n : Int) else n
theorem sgn_natAbs (neg : Bool) (n : Nat) : (sgn neg n).natAbs = n := by unfold sgn; cases neg <;> simp
theorem sgn_neg (neg : Bool) (n : Nat) : decide (sgn neg n < 0) = (neg && decide (n ≠ 0)) := by
 cases neg
 · simp [sgn]
 · simp only [sgn, if_true, Bool.true_and]; by_cases h : n = 0 <;> simp [h]; omega
def yfz (W : World) (i : Int) (e : Ending) (w' : World) : Prop :=
 ∃ A c, e = .returned (.agg #[.bool (decide (i < 0)), .slice A (limbs i).length c]) ∧ Own w' W.heap.size A c (limbs i) ∧ Below W.heap.size W w'
def kg (W : World) (i : Int) (f : Int) (e : Ending) (w' : World) : Prop :=
 ∃ A c, e = .returned (.tuple #[.agg #[.bool (decide (i < 0)), .slice A (limbs i).length c], .int .i64 f]) ∧ Own w' W.heap.size A c (limbs i) ∧ Below W.heap.size W w'
def RetRow (W : World) (b len v : Nat) (e : Ending) (w' : World) : Prop :=
 ∃ g zs, e = .returned (.slice (some ⟨g, 0, none⟩) zs.length zs.length) ∧ Row w' g len zs ∧ zs.length = len ∧ small b zs ∧ val b zs = v ∧ W.heap.size ≤ g ∧ Below W.heap.size W w'
theorem Row.nums {w' : World} {g len : Nat} {zs : List Nat} (h : Row w' g len zs) (hz : zs.length = len) (h64 : ∀ x ∈ zs, x < 18446744073709551616) : Nums w' (some ⟨g, 0, none⟩) zs :=
 ⟨nth_bound h64, fun _ => ⟨g, 0, rfl, h.lt, fun k hk => by rw [Nat.zero_add]; exact h.cell (by omega)⟩⟩
theorem zgq : limbs 0 = [] := by rw [limbs_eq]; rfl
theorem retBig_zero {W w' : World} (hb : Below W.heap.size W w') : yfz W 0 (.returned (.agg #[.bool false, .slice none 0 0])) w' :=
 ⟨none, 0, by rw [zgq]; rfl, by rw [zgq]; exact Own.nil _ _, hb⟩
theorem info64 : (Tryd.prog.info? 30).map (fun i => (i.zero, i.size, i.bytes)) = some (some (.int .u64 0), 1, 8) := by kernel_rfl
theorem make64 (n : Nat) (h : n ≤ 35184372088832) : ∀ w : World, (Instr.makeSlice 59 (.int .i64 (n : Int)) (.int .i64 (n : Int))).run Tryd.prog w = .ok (.slice (some ⟨w.heap.size, 0, none⟩) n n) (w.alloc (.cells (madeCells #[.int .u64 0] n) 30)) :=
 fun w => run_make_row' _ _ _ 8 Tryd.underlying59 info64 rfl _ _ n (by omega) (by omega) w
def allLt (xs : List Nat) : Bool := (List.range xs.length).all fun k => decide (nth xs k < 1000000000000000000)
def goodB (neg : Bool) (xs : List Nat) : Bool :=
 if xs.length = 0 then !neg else if 30 < xs.length then false else if nth xs (xs.length - 1) = 0 then false else allLt xs
section
variable (neg : Bool) (c : Nat) (w : World)
set_option maxRecDepth 100000
end
set_option maxRecDepth 100000 in
set_option maxHeartbeats 400000 in
theorem zxk (neg : Bool) (A : Option Addr) (c : Nat) (xs : List Nat) (w : World) (hx : Nums w A xs) (hs : small B18 xs) (hl : xs.length ≤ 1048576) :
 Calls Tryd.prog 24 #[.bool neg, .slice A xs.length c] w (yfz w (sgn neg (val B18 xs))) := by
 go_enter Tryd.func24, Tryd.ntmps24
 go_wp2
 go_loop [5] (fun v => ∃ k : Nat, k ≤ xs.length ∧ v = .int .i64 k ∧ ∀ j, k ≤ j → nth xs j = 0) (fun v => (intOf v).toNat)
 case atStart => exact ⟨xs.length, Nat.le_refl _, rfl, fun j hj => nth_past xs j hj⟩
 case round =>
  obtain ⟨k, hk, rfl, hz⟩ := hrel;have HZ := Lib.hid hz; clear hz;by_cases hk0 : k = 0
  · subst hk0;go_wp2
    refine bodyPost_ret (v := .agg #[.bool false, .slice none 0 0]) (by simp [results, Tryd.results24, go_sem]) rfl ?_;have hv : sgn neg (val B18 xs) = 0 := by
     have h1 := zdk (b := B18) xs 0 (fun j _ _ => by have := HZ.out j (by omega); unfold nth at this; omega);rw [← h1]; cases neg <;> rfl
    rw [hv];exact retBig_zero ((Below.refl _ _).alloc (Nat.le_refl _) _)
  · obtain ⟨m, rfl⟩ : ∃ m, k = m + 1 := ⟨k - 1, by omega⟩;obtain ⟨b, o, rfl, hb, hc⟩ := hx.2 (by omega);have hcell := hc m (by omega);have hmk := make64 (m + 1) (by omega);rw [show ((m + 1 : Nat) : Int) = (m : Int) + 1 from by omega] at hmk
    obtain ⟨w1, hcp, hrow1, hg1, hz1⟩ := copy_nums (w := (w.alloc (.cells #[.bool false, .slice none 0 0] 61)).alloc (.cells (madeCells #[.int .u64 0] (m + 1)) 30)) (w.heap.size + 1) (m + 1) (m + 1) c (some ⟨b, o, none⟩) xs
     (by have := Row.made (w.alloc (.cells #[.bool false, .slice none 0 0] 61)) (m + 1); simpa using this) ((hx.alloc _).alloc _)
    have hN : w1.heap[w.heap.size]? = some (.cells #[.bool false, .slice none 0 0] 61 (0, 0)) := by
     rw [hg1.block _ (by simp; omega) (by simp), Below.heap_alloc _ _ _ (by simp)];exact heap_alloc_new _ _
    have hc0 := cell_of_row w1 _ 0 _ _ _ hN;have hc1 := cell_of_row w1 _ 1 _ _ _ hN;have hf0 : w1.frozen? ⟨w.heap.size, 0, none⟩ = false := by simp [World.frozen?, hN]
    have hf1 : w1.frozen? ⟨w.heap.size, 1, none⟩ = false := by simp [World.frozen?, hN]
    have HN := Lib.hid hN;simp at hc0 hc1
    simp only [World.size_alloc] at hz1
    clear hN;go_wp2
    · have h0 : (nth xs m == 0) = true := by assumption
      go_round
      case rel => exact ⟨m, by omega, rfl, fun j hj => by
       by_cases e : j = m
       · rw [e]; exact beq_iff_eq.1 h0
       · exact HZ.out j (by omega)⟩
      case measure => simp [intOf]
    · have hne : (nth xs m == 0) = false := by assumption
      have hlast : xs.getD m 0 ≠ 0 := by
       have := beq_eq_false_iff_ne.1 hne;unfold nth at this; omega
      have hst : xs.take (m + 1) = digs B18 (val B18 xs) :=
       strip_eq B18_two hs hk (fun j hj _ => by have := HZ.out j (by omega); unfold nth at this; omega) (fun _ => hlast)
      have hlim : limbs (sgn neg (val B18 xs)) = xs.take (m + 1) := by rw [limbs_eq, sgn_natAbs, hst]
      have hlen : (xs.take (m + 1)).length = m + 1 := by rw [List.length_take]; omega
      have hv0 : val B18 xs ≠ 0 := fun e => by rw [e, digs_zero] at hst; rw [hst] at hlen; simp at hlen
      have hneg : decide (sgn neg (val B18 xs) < 0) = neg := by rw [sgn_neg]; simp [hv0]
      refine bodyPost_ret (v := .agg #[.bool neg, .slice (some ⟨w.heap.size + 1, 0, none⟩) (m + 1) (m + 1)]) (by simp [results, Tryd.results24, go_sem, hc0, hc1]) rfl ?_;refine ⟨some ⟨w.heap.size + 1, 0, none⟩, m + 1, by rw [hlim, hneg, hlen], ?_, ?_⟩
      · rw [hlim];exact (Own.of_row (base := w.heap.size) hrow1 (by omega) (by unfold maxLen; omega) (by omega) (fun _ _ => rfl) (small64 (small_take hs _))).setCell (by rintro q ⟨⟩; simp) _ |>.setCell (by rintro q ⟨⟩; simp) _
      · exact ((((Below.refl _ _).alloc (Nat.le_refl _) _).alloc (by simp) _).grown hg1 (by simp; omega) (by rintro k ⟨⟩; omega)).setCell (by simp) _ |>.setCell (by simp) _
@[irreducible] def num (neg : Bool) (xs : List Nat) : Int := sgn neg (val B18 xs)
def cmpI (i j : Int) : Int := if i < j then -1 else if j < i then 1 else 0
section
variable (A : Option Addr) (c : Nat) (xs : List Nat) (w : World)
set_option maxRecDepth 100000
end
def Nums8 (w : World) (A : Option Addr) (xs : List Nat) : Prop :=
 (∀ k, nth xs k < 256) ∧ (0 < xs.length → ∃ b o, A = some ⟨b, o, none⟩ ∧ b < w.heap.size ∧ ∀ k, k < xs.length → w.cell? ⟨b, o + k, none⟩ = some (.int .u8 (nth xs k)))
def rowOf8 (ys : List Nat) (j : Nat) : Value := .int .u8 (nth ys j)
def Row8 (w : World) (g n : Nat) (ys : List Nat) : Prop := w.rowIs g 5 n (rowOf8 ys) ∧ ys.length ≤ n
section
variable {w w' : World} {g n : Nat} {ys : List Nat}
theorem Row8.cell (h : Row8 w g n ys) {j : Nat} (hj : j < n) : w.cell? ⟨g, j, none⟩ = some (.int .u8 (nth ys j)) := h.1.cell hj
theorem Row8.frozen (h : Row8 w g n ys) (j : Nat) : w.frozen? ⟨g, j, none⟩ = false := h.1.frozen j
theorem Row8.lt (h : Row8 w g n ys) : g < w.heap.size := h.1.lt
theorem Row8.made (w : World) (n : Nat) : Row8 (w.alloc (.cells (madeCells #[.int .u8 0] n) 5)) w.heap.size n [] :=
 ⟨(World.rowIs_made w _ n _).congr fun i _ => by unfold rowOf8; rw [ykx], Nat.zero_le _⟩
theorem Row8.set (h : Row8 w g n ys) (i v : Nat) (hi : i < ys.length) : Row8 (w.setCell ⟨g, i, none⟩ (.int .u8 (v : Int))) g n (ys.set i v) :=
 ⟨(h.1.set i _).congr fun j _ => by unfold rowOf8; rw [nth_set _ _ _ hi]; split <;> rfl, by simpa using h.2⟩
theorem Row8.of_block (h : Row8 w g n ys) (e : w'.heap[g]? = w.heap[g]?) : Row8 w' g n ys := ⟨h.1.of_block e, h.2⟩
theorem Row8.alloc (h : Row8 w g n ys) (o : Obj) : Row8 (w.alloc o) g n ys := ⟨h.1.alloc o, h.2⟩
theorem Row8.drew (h : Row8 w g n ys) : Row8 w.drew g n ys := h
theorem Row8.below {B : Nat} (h : Row8 w g n ys) (hb : Below B w w') (hg : g < B) : Row8 w' g n ys := h.of_block (hb.block g hg)
theorem Row8.fill (h : Row8 w g n ys) : Row8 w g n (ys ++ List.replicate (n - ys.length) 0) := by
 refine ⟨h.1.congr fun i hi => ?_, by have := h.2; simp; omega⟩;unfold rowOf8 nth;by_cases h1 : i < ys.length
 · simp [List.getElem?_append_left h1]
 · simp [List.getElem?_append_right (show ys.length ≤ i by omega), List.getElem?_eq_none (show ys.length ≤ i by omega), List.getElem?_replicate]
   split <;> rfl
end
def Own8 (w : World) (base : Nat) (A : Option Addr) (c : Nat) (xs : List Nat) : Prop :=
 w.ownsRow base 5 1 (.slice A xs.length c) xs.length (xs.map fun x : Nat => Value.int .u8 (x : Int)) ∧ ∀ x ∈ xs, x < 256
section
variable {w w' : World} {base : Nat} {A : Option Addr} {c : Nat} {xs : List Nat}
theorem nth_bound8 (h : ∀ x ∈ xs, x < 256) (k : Nat) : nth xs k < 256 := by
 unfold nth;by_cases hk : k < xs.length
 · have := h _ (List.getElem_mem hk); simp only [List.getD, List.getElem?_eq_getElem hk, Option.getD_some]; omega
 · rw [zeq xs k (by omega)]; simp
theorem Own8.nums (h : Own8 w base A c xs) : Nums8 w A xs := by
 refine ⟨nth_bound8 h.2, fun h0 => ?_⟩;rcases h.1.2 with ⟨_, hn⟩ | ⟨g, cap, cur, hv, hg, hh, hnc, _, hsz, hcur⟩
 · omega
 · injection hv with hA _ hc
   subst hA;refine ⟨g, 0, rfl, (Array.getElem?_eq_some_iff.1 hh).1, fun k hk => ?_⟩;rw [Nat.zero_add, cell_of_row w g k cur _ (0, 0) hh];have e : cur[k]? = cur.toList[k]? := by simp
   have e2 : cur.toList[k]? = (cur.toList.take (xs.length * 1))[k]? := by rw [List.getElem?_take, if_pos (by omega)]
   rw [e, e2, hcur];simp [nth, hk]
theorem Own8.nil (w : World) (base : Nat) : Own8 w base none 0 [] := ⟨World.ownsRow_nil _ _ _ _, fun _ h => by cases h⟩
theorem Own8.of_row {g n : Nat} {ys : List Nat} (h : Row8 w g n ys) (hb : base ≤ g) (hc : n ≤ maxLen) (hx : xs.length ≤ n) (he : ∀ j, j < xs.length → nth ys j = nth xs j) (h64 : ∀ x ∈ xs, x < 256) : Own8 w base (some ⟨g, 0, none⟩) n xs := by
 obtain ⟨⟨cur, hh, hsz, hcell⟩, hle⟩ := h;refine ⟨⟨by simp, .inr ⟨g, n, cur, rfl, hb, hh, hx, hc, by omega, ?_⟩⟩, h64⟩;apply List.ext_getElem?
 intro j;rw [List.getElem?_take];by_cases hj : j < xs.length
 · rw [if_pos (by omega)];have h1 := hcell j (by omega);rw [Array.getElem?_toList, h1];unfold rowOf8;rw [he j hj];simp [nth, hj]
 · rw [if_neg (by omega), List.getElem?_eq_none (by simpa using Nat.le_of_not_lt hj)]
theorem Own8.kept {row : Option Nat} (h : Own8 w base A c xs) (hg : w.grownBy w' row) (hne : (Value.slice A xs.length c).ownBlock = none ∨ (Value.slice A xs.length c).ownBlock ≠ row) : Own8 w' base A c xs := ⟨h.1.kept hg hne, h.2⟩
theorem Own8.below {B : Nat} (h : Own8 w base A c xs) (hb : Below B w w') (hB : w.heap.size ≤ B) : Own8 w' base A c xs :=
 h.kept (row := none) ⟨hb.os, hb.tape, hb.output, hb.size, fun k hk _ => hb.block k (by omega)⟩ (by cases (Value.slice A xs.length c).ownBlock <;> simp)
theorem Own8.alloc (h : Own8 w base A c xs) (o : Obj) : Own8 (w.alloc o) base A c xs := ⟨h.1.alloc o, h.2⟩
theorem Own8.drew (h : Own8 w base A c xs) : Own8 w.drew base A c xs := h
theorem Own8.mono {b' : Nat} (h : Own8 w base A c xs) (hb : b' ≤ base) : Own8 w b' A c xs := by
 refine ⟨⟨h.1.1, ?_⟩, h.2⟩;rcases h.1.2 with h2 | ⟨g, cap, cur, hv, hg, r⟩
 · exact .inl h2
 · exact .inr ⟨g, cap, cur, hv, by omega, r⟩
theorem Own8.setCell (h : Own8 w base A c xs) {p : Addr} (hp : ∀ q, A = some q → q.block ≠ p.block) (u : Value) : Own8 (w.setCell p u) base A c xs := by
 refine ⟨⟨h.1.1, ?_⟩, h.2⟩;rcases h.1.2 with h2 | ⟨g, cap, cur, hv, hg, hh, r⟩
 · exact .inl h2
 · refine .inr ⟨g, cap, cur, hv, hg, ?_, r⟩;rw [Below.heap_setCell _ _ _ _ (by injection hv with e1; exact hp _ e1)];exact hh
theorem Own8.ge (h : Own8 w base A c xs) : ∀ q, A = some q → base ≤ q.block ∧ q.block < w.heap.size := by
 intro q hq;subst hq;exact h.1.lt q.block rfl
theorem Nums8.keep (h : Nums8 w A xs) (hs : w.heap.size ≤ w'.heap.size) (hk : ∀ p : Addr, p.block < w.heap.size → w'.cell? p = w.cell? p) : Nums8 w' A xs :=
 ⟨h.1, fun h0 => by
  obtain ⟨b, o, rfl, hb, hc⟩ := h.2 h0;exact ⟨b, o, rfl, by omega, fun k hk' => (hk _ hb).trans (hc k hk')⟩⟩
theorem Nums8.alloc (h : Nums8 w A xs) (o : Obj) : Nums8 (w.alloc o) A xs := h.keep (by simp) fun p hp => World.cell?_alloc_lt w o p hp
theorem Nums8.drew (h : Nums8 w A xs) : Nums8 w.drew A xs := h
theorem Nums8.below {B : Nat} (h : Nums8 w A xs) (hb : Below B w w') (hB : w.heap.size ≤ B) : Nums8 w' A xs := h.keep hb.size fun _ hp => hb.cell (by omega)
theorem Nums8.setCell (h : Nums8 w A xs) {p : Addr} (hp : ∀ q, A = some q → q.block ≠ p.block) (u : Value) : Nums8 (w.setCell p u) A xs :=
 ⟨h.1, fun h0 => by
  obtain ⟨b, o, rfl, hb, hc⟩ := h.2 h0;refine ⟨b, o, rfl, by simpa [World.setCell] using hb, fun k hk' => ?_⟩;rw [World.cell?_setCell_other _ _ _ _ (fun e => hp _ rfl (by rw [e]))];exact hc k hk'⟩
end
/-! ### copy into a new row -/
/-! ### append of new words to a slice of the call's own -/
theorem Own8.cut {w : World} {base : Nat} {A : Option Addr} {c : Nat} {xs : List Nat} (h : Own8 w base A c xs) (hc : xs ≠ []) {k : Nat} (hk : k ≤ xs.length) : Own8 w base A c (xs.take k) := by
 refine ⟨⟨by simp, ?_⟩, fun x hx => h.2 x (List.mem_of_mem_take hx)⟩;rcases h.1.2 with ⟨_, h0⟩ | ⟨g, cap, cur, hv, hg, hh, hle, hcap, hsz, hcur⟩
 · exact absurd (List.eq_nil_of_length_eq_zero h0) hc
 · injection hv with hA hn hcc
   subst hA; subst hcc;have hkl : (xs.take k).length = k := by rw [List.length_take]; omega
   refine .inr ⟨g, c, cur, rfl, hg, hh, by omega, hcap, hsz, ?_⟩;rw [hkl, List.map_take, ← hcur, List.take_take, Nat.mul_one, Nat.mul_one, Nat.min_eq_left hk]
theorem Row8.nums {w' : World} {g len : Nat} {zs : List Nat} (h : Row8 w' g len zs) (hz : zs.length = len) (h64 : ∀ x ∈ zs, x < 256) : Nums8 w' (some ⟨g, 0, none⟩) zs :=
 ⟨nth_bound8 h64, fun _ => ⟨g, 0, rfl, h.lt, fun k hk => by rw [Nat.zero_add]; exact h.cell (by omega)⟩⟩
end Go.Proofs.YtmjbnhjgebjhlaaDoor
namespace Go.Proofs.YtmjbnhjgebjhlaaDoor
@[irreducible] def tens (i : Int) : List Nat := digs 10 i.natAbs
def pad : Nat → Nat → List Nat
 | 0, _ => []
 | k + 1, n => n % 10 :: pad k (n / 10)
theorem B18_pow (k : Nat) : B18 ^ k = 10 ^ (18 * k) := by
 rw [Nat.pow_mul]; rfl
end Go.Proofs.YtmjbnhjgebjhlaaDoor
namespace Go.Proofs.YtmjbnhjgebjhlaaDoor
open Go.RowKit
theorem Per.nums {X : Nat → Prop} {w : World} {A : Option Addr} {xs : List Nat} (h : Nums w A xs) (hx : ∀ q, A = some q → ¬ X q.block) : Per X w (fun b => Nums b A xs) := fun b hb =>
 ⟨h.1, fun h0 => by
  obtain ⟨g, o, rfl, hg, hc⟩ := h.2 h0;exact ⟨g, o, rfl, Nat.lt_of_lt_of_le hg hb.size, fun k hk => (hb.cell (p := ⟨g, o + k, none⟩) hg (hx ⟨g, o, none⟩ rfl)).trans (hc k hk)⟩⟩
theorem Per.own {X : Nat → Prop} {w : World} {base : Nat} {A : Option Addr} {c : Nat} {xs : List Nat} (h : Own w base A c xs) (hx : ∀ k, X k → k < base) : Per X w (fun b => Nums b A xs) := Per.nums h.nums (fun q hq e => by have := hx _ e; have := (h.ge q hq).1; omega)
def big (i : Int) (A : Option Addr) (c : Nat) : Value := .agg #[.bool (decide (i < 0)), .slice A (limbs i).length c]
section
variable (A B : Option Addr) (c d : Nat) (xs ys : List Nat) (w : World)
set_option maxRecDepth 100000
end
def B9 : Nat := 1000000000
def zeroFrom (ys : List Nat) (k : Nat) : Prop := ∀ j, k ≤ j → ys.getD j 0 = 0
def TakePost (w : World) (g n t Q V U : Nat) (e : Ending) (w' : World) : Prop :=
 ∃ (ys : List Nat) (b : Bool), e = .returned (.bool b) ∧ Row w' g n ys ∧ ys.length = n ∧ small B9 ys ∧ w.grownBy w' (some g) ∧ val B9 ys + B9 ^ t * (Q * V) = U + (if b then 0 else B9 ^ t * V) ∧ (b = false → U < B9 ^ t * (Q * V))
end Go.Proofs.YtmjbnhjgebjhlaaDoor
namespace Go.Proofs.YtmjbnhjgebjhlaaDoor
section
variable {P D R V v1 v2 u3 top g rest B : Nat}
end
end Go.Proofs.YtmjbnhjgebjhlaaDoor
namespace Go.Proofs.YtmjbnhjgebjhlaaDoor
open Go.RowKit
theorem Own.at_ {w : World} {base c : Nat} {A : Option Addr} {xs : List Nat} (h : Own w base A c xs) (h0 : 0 < xs.length) :
 ∃ g, A = some ⟨g, 0, none⟩ ∧ base ≤ g ∧ g < w.heap.size ∧ xs.length ≤ c ∧ ∀ k, k < xs.length → w.cell? ⟨g, k, none⟩ = some (.int .u64 (nth xs k)) := by
 obtain ⟨b, o, rfl, hb, hc⟩ := h.nums.2 h0;rcases h.1.2 with ⟨_, hn⟩ | ⟨g, cap, cur, hv, hg, hh, hnc, _⟩
 · omega
 · injection hv with hA _ hcc
   injection hA with hA
   injection hA with e1 e2
   subst e1; subst e2; subst hcc;exact ⟨b, rfl, hg, hb, hnc, fun k hk => by have := hc k hk; rwa [Nat.zero_add] at this⟩
def DivPost (w : World) (X Y : Nat) (e : Ending) (w' : World) : Prop :=
 ∃ A1 c1 qs A2 c2 rs, e = .returned (.tuple #[.slice A1 qs.length c1, .slice A2 rs.length c2]) ∧ Nums w' A1 qs ∧ Nums w' A2 rs ∧ small B18 qs ∧ small B18 rs ∧ qs.length ≤ 1048576 ∧ rs.length ≤ 1048576 ∧
  val B18 qs = X / Y ∧ val B18 rs = X % Y ∧ Below w.heap.size w w'
def RetTwo (W : World) (i j : Int) (f : Int) (e : Ending) (w' : World) : Prop :=
 ∃ A c B d, e = .returned (.tuple #[.agg #[.bool (decide (i < 0)), .slice A (limbs i).length c], .agg #[.bool (decide (j < 0)), .slice B (limbs j).length d], .int .i64 f]) ∧
  Own w' W.heap.size A c (limbs i) ∧ Own w' W.heap.size B d (limbs j) ∧ Below W.heap.size W w' ∧ (∀ p q, A = some p → B = some q → p.block ≠ q.block)
@[irreducible] def dq (n1 n2 : Bool) (X Y : Nat) : Int := if n1 = n2 then ((X / Y : Nat) : Int) else if X % Y = 0 then -((X / Y : Nat) : Int) else -((X / Y + 1 : Nat) : Int)
@[irreducible] def dr (n1 n2 : Bool) (X Y : Nat) : Int := if n1 = n2 then sgn n1 (X % Y) else if X % Y = 0 then 0 else sgn n2 (Y - X % Y)
section
variable (A B : Option Addr) (c d : Nat) (xs ys : List Nat) (w : World)
set_option maxRecDepth 100000
end
section
variable (A B : Option Addr) (c d : Nat) (xs ys : List Nat) (w : World)
set_option maxRecDepth 100000
end
theorem Own8.room {w : World} {base : Nat} {A : Option Addr} {c : Nat} {xs : List Nat} (h : Own8 w base A c xs) : xs.length ≤ c := by
 rcases h.1.2 with ⟨hv, h0⟩ | ⟨g, cap, cur, hv, _, _, hle, _⟩
 · omega
 · injection hv; omega
end Go.Proofs.YtmjbnhjgebjhlaaDoor
namespace Go.Proofs.YtmjbnhjgebjhlaaDoor
open Go.RowKit
def RetNum (W : World) (i : Int) (e : Ending) (w' : World) : Prop :=
 ∃ A c, e = .returned (.agg #[.bool (decide (i < 0)), .slice A (tens i).length c]) ∧ Own8 w' W.heap.size A c (tens i) ∧ Below W.heap.size W w'
set_option maxRecDepth 100000
end Go.Proofs.YtmjbnhjgebjhlaaDoor
namespace Go.Proofs.YtmjbnhjgebjhlaaDoor
open Go.RowKit
set_option maxRecDepth 100000
section
variable (neg : Bool) (c : Nat) (w : World)
set_option maxRecDepth 100000
end
def sameB (n1 : Bool) (xs : List Nat) (n2 : Bool) (ys : List Nat) : Bool := (n1 == n2) && (xs == ys)
section
variable (A B : Option Addr) (c d : Nat) (xs ys : List Nat) (w : World)
set_option maxRecDepth 100000
end
theorem below_on {a b w' : World} (h : Below a.heap.size a b) (k : Below b.heap.size b w') : Below a.heap.size a w' := h.trans (k.mono h.size)
theorem Nums.since {a b : World} {A : Option Addr} {xs : List Nat} (h : Nums a A xs) (k : Below a.heap.size a b) : Nums b A xs := h.below k (Nat.le_refl _)
theorem Nums8.since {a b : World} {A : Option Addr} {xs : List Nat} (h : Nums8 a A xs) (k : Below a.heap.size a b) : Nums8 b A xs := h.below k (Nat.le_refl _)
@[irreducible] def outV (ok : Bool) (s : Int) : Int := if ok then (if s.natAbs < B18 ^ 30 then s else 0) else 0
@[irreducible] def outE (ok : Bool) (s : Int) : Int := if ok then (if s.natAbs < B18 ^ 30 then 0 else 7) else 3
section
variable (A B : Option Addr) (c d : Nat) (xs ys : List Nat) (w : World)
set_option maxRecDepth 100000
end
@[irreducible] def cmpO (ok : Bool) (i j : Int) : Int := if ok then cmpI i j else 0
section
variable (A B : Option Addr) (c d : Nat) (xs ys : List Nat) (w : World)
set_option maxRecDepth 100000
end
end Go.Proofs.YtmjbnhjgebjhlaaDoor
namespace Go.Proofs.YtmjbnhjgebjhlaaDoor
open Go.RowKit
def bor (m n k : Nat) : Nat := if m % 10 ^ k < n % 10 ^ k then 1 else 0
def RetTens (W : World) (i : Int) (e : Ending) (w' : World) : Prop := ∃ A c, e = .returned (.slice A (tens i).length c) ∧ Own8 w' W.heap.size A c (tens i) ∧ Below W.heap.size W w'
set_option maxRecDepth 100000
end Go.Proofs.YtmjbnhjgebjhlaaDoor
namespace Go.Proofs.YtmjbnhjgebjhlaaDoor
open Go.RowKit
def NumsI (w : World) (A : Option Addr) (xs : List Nat) : Prop :=
 (∀ k, nth xs k < 9223372036854775808) ∧ (0 < xs.length → ∃ b o, A = some ⟨b, o, none⟩ ∧ b < w.heap.size ∧ ∀ k, k < xs.length → w.cell? ⟨b, o + k, none⟩ = some (.int .i64 (nth xs k)))
def rowOfI (ys : List Nat) (j : Nat) : Value := .int .i64 (nth ys j)
def RowI (w : World) (g n : Nat) (ys : List Nat) : Prop := w.rowIs g 3 n (rowOfI ys) ∧ ys.length ≤ n
section
variable {w w' : World} {g n : Nat} {ys : List Nat}
theorem RowI.cell (h : RowI w g n ys) {j : Nat} (hj : j < n) : w.cell? ⟨g, j, none⟩ = some (.int .i64 (nth ys j)) := h.1.cell hj
theorem RowI.frozen (h : RowI w g n ys) (j : Nat) : w.frozen? ⟨g, j, none⟩ = false := h.1.frozen j
theorem RowI.lt (h : RowI w g n ys) : g < w.heap.size := h.1.lt
theorem RowI.made (w : World) (n : Nat) : RowI (w.alloc (.cells (madeCells #[.int .i64 0] n) 3)) w.heap.size n [] :=
 ⟨(World.rowIs_made w _ n _).congr fun i _ => by unfold rowOfI; rw [ykx], Nat.zero_le _⟩
theorem RowI.set (h : RowI w g n ys) (i v : Nat) (hi : i < ys.length) : RowI (w.setCell ⟨g, i, none⟩ (.int .i64 (v : Int))) g n (ys.set i v) :=
 ⟨(h.1.set i _).congr fun j _ => by unfold rowOfI; rw [nth_set _ _ _ hi]; split <;> rfl, by simpa using h.2⟩
theorem RowI.of_block (h : RowI w g n ys) (e : w'.heap[g]? = w.heap[g]?) : RowI w' g n ys := ⟨h.1.of_block e, h.2⟩
theorem RowI.alloc (h : RowI w g n ys) (o : Obj) : RowI (w.alloc o) g n ys := ⟨h.1.alloc o, h.2⟩
theorem RowI.drew (h : RowI w g n ys) : RowI w.drew g n ys := h
theorem RowI.below {B : Nat} (h : RowI w g n ys) (hb : Below B w w') (hg : g < B) : RowI w' g n ys := h.of_block (hb.block g hg)
theorem RowI.fill (h : RowI w g n ys) : RowI w g n (ys ++ List.replicate (n - ys.length) 0) := by
 refine ⟨h.1.congr fun i hi => ?_, by have := h.2; simp; omega⟩;unfold rowOfI nth;by_cases h1 : i < ys.length
 · simp [List.getElem?_append_left h1]
 · simp [List.getElem?_append_right (show ys.length ≤ i by omega), List.getElem?_eq_none (show ys.length ≤ i by omega), List.getElem?_replicate]
   split <;> rfl
end
def OwnI (w : World) (base : Nat) (A : Option Addr) (c : Nat) (xs : List Nat) : Prop :=
 w.ownsRow base 3 1 (.slice A xs.length c) xs.length (xs.map fun x : Nat => Value.int .i64 (x : Int)) ∧ ∀ x ∈ xs, x < 9223372036854775808
section
variable {w w' : World} {base : Nat} {A : Option Addr} {c : Nat} {xs : List Nat}
theorem nth_boundI (h : ∀ x ∈ xs, x < 9223372036854775808) (k : Nat) : nth xs k < 9223372036854775808 := by
 unfold nth;by_cases hk : k < xs.length
 · have := h _ (List.getElem_mem hk); simp only [List.getD, List.getElem?_eq_getElem hk, Option.getD_some]; omega
 · rw [zeq xs k (by omega)]; simp
theorem OwnI.nums (h : OwnI w base A c xs) : NumsI w A xs := by
 refine ⟨nth_boundI h.2, fun h0 => ?_⟩;rcases h.1.2 with ⟨_, hn⟩ | ⟨g, cap, cur, hv, hg, hh, hnc, _, hsz, hcur⟩
 · omega
 · injection hv with hA _ hc
   subst hA;refine ⟨g, 0, rfl, (Array.getElem?_eq_some_iff.1 hh).1, fun k hk => ?_⟩;rw [Nat.zero_add, cell_of_row w g k cur _ (0, 0) hh];have e : cur[k]? = cur.toList[k]? := by simp
   have e2 : cur.toList[k]? = (cur.toList.take (xs.length * 1))[k]? := by rw [List.getElem?_take, if_pos (by omega)]
   rw [e, e2, hcur];simp [nth, hk]
theorem OwnI.nil (w : World) (base : Nat) : OwnI w base none 0 [] := ⟨World.ownsRow_nil _ _ _ _, fun _ h => by cases h⟩
theorem OwnI.of_row {g n : Nat} {ys : List Nat} (h : RowI w g n ys) (hb : base ≤ g) (hc : n ≤ maxLen) (hx : xs.length ≤ n) (he : ∀ j, j < xs.length → nth ys j = nth xs j) (h64 : ∀ x ∈ xs, x < 9223372036854775808) : OwnI w base (some ⟨g, 0, none⟩) n xs := by
 obtain ⟨⟨cur, hh, hsz, hcell⟩, hle⟩ := h;refine ⟨⟨by simp, .inr ⟨g, n, cur, rfl, hb, hh, hx, hc, by omega, ?_⟩⟩, h64⟩;apply List.ext_getElem?
 intro j;rw [List.getElem?_take];by_cases hj : j < xs.length
 · rw [if_pos (by omega)];have h1 := hcell j (by omega);rw [Array.getElem?_toList, h1];unfold rowOfI;rw [he j hj];simp [nth, hj]
 · rw [if_neg (by omega), List.getElem?_eq_none (by simpa using Nat.le_of_not_lt hj)]
theorem OwnI.kept {row : Option Nat} (h : OwnI w base A c xs) (hg : w.grownBy w' row) (hne : (Value.slice A xs.length c).ownBlock = none ∨ (Value.slice A xs.length c).ownBlock ≠ row) : OwnI w' base A c xs := ⟨h.1.kept hg hne, h.2⟩
theorem OwnI.below {B : Nat} (h : OwnI w base A c xs) (hb : Below B w w') (hB : w.heap.size ≤ B) : OwnI w' base A c xs :=
 h.kept (row := none) ⟨hb.os, hb.tape, hb.output, hb.size, fun k hk _ => hb.block k (by omega)⟩ (by cases (Value.slice A xs.length c).ownBlock <;> simp)
theorem OwnI.alloc (h : OwnI w base A c xs) (o : Obj) : OwnI (w.alloc o) base A c xs := ⟨h.1.alloc o, h.2⟩
theorem OwnI.drew (h : OwnI w base A c xs) : OwnI w.drew base A c xs := h
theorem OwnI.mono {b' : Nat} (h : OwnI w base A c xs) (hb : b' ≤ base) : OwnI w b' A c xs := by
 refine ⟨⟨h.1.1, ?_⟩, h.2⟩;rcases h.1.2 with h2 | ⟨g, cap, cur, hv, hg, r⟩
 · exact .inl h2
 · exact .inr ⟨g, cap, cur, hv, by omega, r⟩
theorem OwnI.setCell (h : OwnI w base A c xs) {p : Addr} (hp : ∀ q, A = some q → q.block ≠ p.block) (u : Value) : OwnI (w.setCell p u) base A c xs := by
 refine ⟨⟨h.1.1, ?_⟩, h.2⟩;rcases h.1.2 with h2 | ⟨g, cap, cur, hv, hg, hh, r⟩
 · exact .inl h2
 · refine .inr ⟨g, cap, cur, hv, hg, ?_, r⟩;rw [Below.heap_setCell _ _ _ _ (by injection hv with e1; exact hp _ e1)];exact hh
theorem OwnI.ge (h : OwnI w base A c xs) : ∀ q, A = some q → base ≤ q.block ∧ q.block < w.heap.size := by
 intro q hq;subst hq;exact h.1.lt q.block rfl
theorem NumsI.keep (h : NumsI w A xs) (hs : w.heap.size ≤ w'.heap.size) (hk : ∀ p : Addr, p.block < w.heap.size → w'.cell? p = w.cell? p) : NumsI w' A xs :=
 ⟨h.1, fun h0 => by
  obtain ⟨b, o, rfl, hb, hc⟩ := h.2 h0;exact ⟨b, o, rfl, by omega, fun k hk' => (hk _ hb).trans (hc k hk')⟩⟩
theorem NumsI.alloc (h : NumsI w A xs) (o : Obj) : NumsI (w.alloc o) A xs := h.keep (by simp) fun p hp => World.cell?_alloc_lt w o p hp
theorem NumsI.drew (h : NumsI w A xs) : NumsI w.drew A xs := h
theorem NumsI.below {B : Nat} (h : NumsI w A xs) (hb : Below B w w') (hB : w.heap.size ≤ B) : NumsI w' A xs := h.keep hb.size fun _ hp => hb.cell (by omega)
theorem NumsI.setCell (h : NumsI w A xs) {p : Addr} (hp : ∀ q, A = some q → q.block ≠ p.block) (u : Value) : NumsI (w.setCell p u) A xs :=
 ⟨h.1, fun h0 => by
  obtain ⟨b, o, rfl, hb, hc⟩ := h.2 h0;refine ⟨b, o, rfl, by simpa [World.setCell] using hb, fun k hk' => ?_⟩;rw [World.cell?_setCell_other _ _ _ _ (fun e => hp _ rfl (by rw [e]))];exact hc k hk'⟩
end
/-! ### copy into a new row -/
/-! ### append of new words to a slice of the call's own -/
theorem OwnI.cut {w : World} {base : Nat} {A : Option Addr} {c : Nat} {xs : List Nat} (h : OwnI w base A c xs) (hc : xs ≠ []) {k : Nat} (hk : k ≤ xs.length) : OwnI w base A c (xs.take k) := by
 refine ⟨⟨by simp, ?_⟩, fun x hx => h.2 x (List.mem_of_mem_take hx)⟩;rcases h.1.2 with ⟨_, h0⟩ | ⟨g, cap, cur, hv, hg, hh, hle, hcap, hsz, hcur⟩
 · exact absurd (List.eq_nil_of_length_eq_zero h0) hc
 · injection hv with hA hn hcc
   subst hA; subst hcc;have hkl : (xs.take k).length = k := by rw [List.length_take]; omega
   refine .inr ⟨g, c, cur, rfl, hg, hh, by omega, hcap, hsz, ?_⟩;rw [hkl, List.map_take, ← hcur, List.take_take, Nat.mul_one, Nat.mul_one, Nat.min_eq_left hk]
theorem RowI.nums {w' : World} {g len : Nat} {zs : List Nat} (h : RowI w' g len zs) (hz : zs.length = len) (h64 : ∀ x ∈ zs, x < 9223372036854775808) : NumsI w' (some ⟨g, 0, none⟩) zs :=
 ⟨nth_boundI h64, fun _ => ⟨g, 0, rfl, h.lt, fun k hk => by rw [Nat.zero_add]; exact h.cell (by omega)⟩⟩
def inR (v : Int) : Prop := -9223372036854775808 ≤ v ∧ v ≤ 9223372036854775807
instance (v : Int) : Decidable (inR v) := by unfold inR; infer_instance
@[irreducible] def intV (ok : Bool) (v : Int) : Int := if ok then (if inR v then v else 0) else 0
@[irreducible] def intE (ok : Bool) (v : Int) : Int := if ok then (if inR v then 0 else 7) else 3
def RetInt (W : World) (ok : Bool) (v : Int) (e : Ending) (w' : World) : Prop := e = .returned (.tuple #[.int .i64 (intV ok v), .int .i64 (intE ok v)]) ∧ Below W.heap.size W w'
section
variable (A : Option Addr) (c : Nat) (xs : List Nat) (w : World)
set_option maxRecDepth 100000
end
end Go.Proofs.YtmjbnhjgebjhlaaDoor
namespace Go.Proofs.YtmjbnhjgebjhlaaDoor
open Go.RowKit
@[irreducible] def smV (i : Int) : Int := if inR i then i else 0
def RetSmall (W : World) (i : Int) (e : Ending) (w' : World) : Prop := e = .returned (.tuple #[.int .i64 (smV i), .bool (decide (inR i))]) ∧ Below W.heap.size W w'
set_option maxRecDepth 100000
end Go.Proofs.YtmjbnhjgebjhlaaDoor
namespace Go.Proofs.YtmjbnhjgebjhlaaDoor
open Go.RowKit
set_option maxRecDepth 100000
end Go.Proofs.YtmjbnhjgebjhlaaDoor

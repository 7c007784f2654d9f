/- Texts of this claim. -/
import Derived.Test.YtppdgjlmeahimaaDoorE1
import Derived.Below
import Derived.Laws.OwnMore
import Derived.Deep.AppendLies
import Derived.Deep.Draws
import Derived.Deep.OwnRows
import Derived.Laws.Rows
import Derived.Maps.AppendAt
import Derived.RegionTactic
import Derived.OwnWalk
import Derived.WalkKit
namespace Go.Proofs.YtppdgjlmeahimaaDoor
open Go.RowKit
theorem yaq (a : Addr) (n : Nat) : (a.add n).block = a.block := by unfold Addr.add; split <;> rfl
theorem add_of_add (a : Addr) (i j : Nat) : (a.add i).add j = a.add (i + j) := by
 unfold Addr.add;by_cases hi : i = 0 <;> by_cases hj : j = 0 <;> simp [hi, hj, Nat.add_assoc]
def Reads (w : World) (B size : Nat) (A : Option Addr) (n : Nat) (xs : List Value) : Prop :=
 xs.length = n * size ∧ (0 < n → ∃ ad, A = some ad ∧ ad.block < B ∧ ∀ j u, xs[j]? = some u → w.cell? (ad.add j) = some u)
section
variable {w w' : World} {B B' size n : Nat} {A : Option Addr} {xs : List Value}
theorem Reads.none_ : Reads w B size A 0 [] := ⟨by simp, fun h => absurd h (by omega)⟩
theorem Reads.at_ {k : Nat} (h : Reads w B 1 A n xs) (hk : k < n) : ∃ ad u, A = some ad ∧ ad.block < B ∧ xs[k]? = some u ∧ w.cell? (ad.add k) = some u := by
 obtain ⟨ad, e, hb, hc⟩ := h.2 (by omega);have hl : k < xs.length := by have := h.1; omega
 exact ⟨ad, xs[k], e, hb, List.getElem?_eq_getElem hl, hc k _ (List.getElem?_eq_getElem hl)⟩
theorem Reads.keep (h : Reads w B size A n xs) (hk : ∀ p : Addr, p.block < B → w'.cell? p = w.cell? p) : Reads w' B size A n xs :=
 ⟨h.1, fun hn => by
  obtain ⟨ad, e, hb, hc⟩ := h.2 hn;exact ⟨ad, e, hb, fun j u hu => (hk _ (by rw [yaq]; exact hb)).trans (hc j u hu)⟩⟩
theorem Reads.more (h : Reads w B size A n xs) (hB : B ≤ B') : Reads w B' size A n xs :=
 ⟨h.1, fun hn => by
  obtain ⟨ad, e, hb, hc⟩ := h.2 hn;exact ⟨ad, e, by omega, hc⟩⟩
theorem Reads.below (h : Reads w B size A n xs) (hb : Below B w w') : Reads w' B size A n xs := h.keep fun _ hp => hb.cell hp
theorem Reads.drew (h : Reads w B size A n xs) : Reads w.drew B size A n xs := h
theorem Reads.alloc (h : Reads w B size A n xs) (hB : B ≤ w.heap.size) (o : Obj) : Reads (w.alloc o) B size A n xs := h.keep fun p hp => World.cell?_alloc_lt w o p (by omega)
theorem Reads.setCell (h : Reads w B size A n xs) {p : Addr} (hB : B ≤ p.block) (u : Value) : Reads (w.setCell p u) B size A n xs :=
 h.keep fun q hq => World.cell?_setCell_other w p q u (fun e => by subst e; omega)
theorem Reads.grown (h : Reads w B size A n xs) {row : Option Nat} (hg : w.grownBy w' row) (hB : B ≤ w.heap.size) (hr : ∀ g, row = some g → B ≤ g) : Reads w' B size A n xs :=
 h.keep fun p hp => World.cell?_of_block (hg.block p.block (by omega) (fun e => by have := hr _ e.symm; omega))
theorem Reads.cut (h : Reads w B size A n xs) {k cap : Nat} (hk : k ≤ n) (hc : n ≤ cap) :
 Reads w B size (if cap = k then A else A.map (·.add (k * size))) (n - k) (xs.drop (k * size)) := by
 refine ⟨by rw [List.length_drop, h.1, Nat.sub_mul], fun hn => ?_⟩;obtain ⟨ad, rfl, hb, hcell⟩ := h.2 (by omega);rw [if_neg (by omega)];refine ⟨ad.add (k * size), rfl, by rw [yaq]; exact hb, fun j u hu => ?_⟩;rw [add_of_add];exact hcell _ u (by rw [← hu, List.getElem?_drop])
end
def Blk (w : World) (g : Nat) (t : TypeId) (cs : Array Value) : Prop := w.heap[g]? = some (.cells cs t (0, 0))
section
variable {w w' : World} {g : Nat} {t : TypeId} {cs : Array Value}
theorem Blk.lt (h : Blk w g t cs) : g < w.heap.size := by
 rcases Nat.lt_or_ge g w.heap.size with hlt | hge
 · exact hlt
 · unfold Blk at h; rw [Array.getElem?_eq_none hge] at h; cases h
theorem Blk.cell (h : Blk w g t cs) (i : Nat) : w.cell? ⟨g, i, none⟩ = cs[i]? := cell_of_row w g i cs t (0, 0) h
theorem Blk.frozen (h : Blk w g t cs) (i : Nat) : w.frozen? ⟨g, i, none⟩ = false := by
 unfold Blk at h;simp [World.frozen?, h]
theorem Blk.new (w : World) (t : TypeId) (cs : Array Value) : Blk (w.alloc (.cells cs t)) w.heap.size t cs := heap_alloc_new w _
theorem Blk.drew (h : Blk w g t cs) : Blk w.drew g t cs := h
theorem Blk.alloc (h : Blk w g t cs) (o : Obj) : Blk (w.alloc o) g t cs := (Below.heap_alloc w o g h.lt).trans h
theorem Blk.set_ (h : Blk w g t cs) (i : Nat) (u : Value) : Blk (w.setCell ⟨g, i, none⟩ u) g t (cs.setIfInBounds i u) := by
 unfold Blk at h ⊢;simp [World.setCell, Array.getElem?_modify, h]
theorem Blk.far (h : Blk w g t cs) {p : Addr} (hp : g ≠ p.block) (u : Value) : Blk (w.setCell p u) g t cs := (Below.heap_setCell w p u g hp).trans h
theorem Blk.below {B : Nat} (h : Blk w g t cs) (hb : Below B w w') (hg : g < B) : Blk w' g t cs := (hb.block g hg).trans h
theorem Blk.grown {row : Option Nat} (h : Blk w g t cs) (hb : w.grownBy w' row) (hg : some g ≠ row) : Blk w' g t cs := (hb.block g h.lt hg).trans h
theorem Blk.ne_ {g' : Nat} {t' : TypeId} {cs' : Array Value} (h : Blk w g t cs) (h' : Blk w g' t' cs') (hne : t ≠ t') : g ≠ g' := by
 rintro rfl;unfold Blk at h h';rw [h] at h';injection h' with h'
 injection h' with _ ht
 exact hne ht
end
section
variable {P : Program} (w : World)
theorem run_append_of_nil (base : Nat) (t ty e : TypeId) (i : TypeInfo) (size : Nat) (ht : P.underlying t = some (.slice e)) (hi : P.info? e = some i)
 (v : Value) (n : Nat) (xs : List Value) (hown : w.ownsRow base e size v n xs) (c : Nat) : (Builtin.append_ #[t, t] ty #[v, .slice none 0 c]).run P w = .ok v w := by
 rcases hown.2 with ⟨rfl, rfl⟩ | ⟨g, cap, cur, rfl, _, _, hnc, _⟩
 · simp [Builtin.append_, run_underlying ht, sizeOf, typeInfo, hi, Builtin.lenOf, Builtin.firstCells]
 · simp [Builtin.append_, run_underlying ht, sizeOf, typeInfo, hi, Builtin.lenOf, Builtin.firstCells, hnc, storeCells]
theorem run_append_any (base : Nat) (t ty e : TypeId) (i : TypeInfo) (z : Value) (size bytes : Nat) (ht : P.underlying t = some (.slice e)) (hi : P.info? e = some i) (hz : i.zero = some z)
 (hsize : i.size = size) (hby : i.bytes = bytes) (hzs : z.cells.size = size) (hsz : 0 < size)
 (v : Value) (n : Nat) (xs : List Value) (hown : w.ownsRow base e size v n xs)
 (B : Nat) (A : Option Addr) (m c : Nat) (news : List Value) (hr : Reads w B size A m news) (h1 : ∀ u ∈ news, u.oneCell' = true)
 (h63 : n + m ≤ maxLen) (hbytes : (n + m) * bytes ≤ 140737488355328) (hbase : base ≤ w.heap.size) :
 ∃ v' w', (Builtin.append_ #[t, t] ty #[v, .slice A m c]).run P w = .ok v' w' ∧ w'.ownsRow base e size v' (n + m) (xs ++ news) ∧ w.grownBy w' v.ownBlock ∧
  (v'.ownBlock = v.ownBlock ∨ v'.ownBlock = some w.heap.size) := by
 rcases A with _ | ad
 · have hm : m = 0 := by
    rcases Nat.eq_zero_or_pos m with h0 | h0
    · exact h0
    · obtain ⟨ad, h, _⟩ := hr.2 h0;cases h
   subst hm;have hn : news = [] := List.eq_nil_of_length_eq_zero (by simpa using hr.1);subst hn;exact ⟨v, w, run_append_of_nil w base t ty e i size ht hi v n xs hown c, by simpa using hown, World.grownBy.refl w _, .inl rfl⟩
 · have hcells : ∀ j u, news[j]? = some u → w.cell? (ad.add j) = some u := by
    intro j u hu;rcases Nat.eq_zero_or_pos m with h0 | h0
    · subst h0;have hn : news = [] := List.eq_nil_of_length_eq_zero (by simpa using hr.1);subst hn;simp at hu
    · obtain ⟨ad', h, _, hc⟩ := hr.2 h0;injection h with h
      subst h;exact hc j u hu
   obtain ⟨v', w', hrun, h2, h3, _, h5⟩ := run_append_own_at (P := P) w base t ty e i z size bytes ht hi hz hsize hby hzs hsz v n xs hown ad m c news hr.1 hcells h1 h63 hbytes hbase;exact ⟨v', w', hrun, h2, h3, h5⟩
end
@[irreducible] def nth (xs : List Nat) (k : Nat) : Int := ((xs.getD k 0 : Nat) : Int)
def Nums (w : World) (A : Option Addr) (xs : List Nat) : Prop :=
 (∀ k, nth xs k < 18446744073709551616) ∧ (0 < xs.length → ∃ b o, A = some ⟨b, o, none⟩ ∧ b < w.heap.size ∧ ∀ k, k < xs.length → w.cell? ⟨b, o + k, none⟩ = some (.int .u64 (nth xs k)))
end Go.Proofs.YtppdgjlmeahimaaDoor
namespace Go.Proofs.YtppdgjlmeahimaaDoor
structure LIns where
 op : Int
 d : Int
 a : Int
 b : Int
 t : Int
 k : Int
 l : List Int
structure LReg where
 fr : Int
 to : Int
 tg : Int
 d : Int
structure LFn where
 name : ByteArray
 params : Int
 regs : Int
 frees : Int
 gen : Bool
 bound : Int
 names : List ByteArray
 consts : List (Int × ByteArray)
 ins : List LIns
 rgs : List LReg
def flT : List Nat := [0, 1024, 32770, 2050, 6, 2, 4098, 4100, 4096, 2, 6, 12, 4, 8194, 32782, 32774, 32782, 6, 16, 20, 20, 38, 4102, 4108, 14, 140, 12, 262, 34, 34, 34, 66, 12, 12, 4100, 36, 16898, 4130, 6, 22, 6, 4, 4, 14, 32770]
def flN (op : Int) : Nat := if op < 0 ∨ 44 < op then 0 else flT.getD op.toNat 0 ||| 1
theorem flN_lt (op : Int) : flN op < 65536 := by
 unfold flN;split
 · decide
 · have key : ∀ i : Fin 45, flT.getD i.val 0 ||| 1 < 65536 := by decide +kernel
   exact key ⟨op.toNat, by omega⟩
def uD (op : Int) : Bool := (flN op).testBit 1
def uA (op : Int) : Bool := (flN op).testBit 2
def uB (op : Int) : Bool := (flN op).testBit 3
def uT (op : Int) : Bool := (flN op).testBit 4
def uL (op : Int) : Bool := flN op &&& 992 != 0
def yu (i : LIns) : List Int := (if uA i.op = true then [i.a] else []) ++ ((if uB i.op = true then [i.b] else []) ++ (if (uL i.op && i.op != 35) = true then i.l else []))
def yj (i : LIns) : List Int := if i.op = 35 then i.l else if uD i.op = true then [i.d] else []
def od (at_ : Int) : Int := if at_ < 9223372036854775807 then at_ + 1 else at_
def yo (i : LIns) (at_ : Int) : List Int := if i.op = 18 then [i.t] else if i.op = 41 ∨ i.op = 42 then [] else if i.op = 19 ∨ i.op = 20 ∨ i.op = 39 then [od at_, i.t] else [od at_]
def jy (op : Int) : Bool := if op = 0 ∨ op = 1 ∨ op = 2 ∨ op = 5 ∨ op = 18 then false else flN op != 0
def vy (l : List Int) (n : Int) : Bool := l.all fun x => decide (0 ≤ x) && decide (x < n)
def zfk (f : LFn) (r : LReg) : Bool := decide (0 ≤ r.fr) && (decide (r.fr ≤ r.to) && (decide (r.to ≤ (f.ins.length : Int)) && (decide (0 ≤ r.tg) && (decide (r.tg < (f.ins.length : Int)) && (decide (0 ≤ r.d) && decide (r.d < f.regs))))))
def xg (f : LFn) (at_ : Nat) (i : LIns) : Bool := vy (yu i) f.regs && (vy (yj i) f.regs && vy (yo i at_) f.ins.length)
def zrz (f : LFn) : Nat → List LIns → Bool
 | _, [] => true
 | n, i :: l => xg f n i && zrz f (n + 1) l
def headOK (f : LFn) : Bool := decide (0 ≤ f.regs) && (decide (f.regs ≤ 65536) && (decide (0 ≤ f.params) && (decide (f.params ≤ f.regs) && decide (f.ins ≠ []))))
def vh (f : LFn) : Bool := headOK f && (zrz f 0 f.ins && f.rgs.all (zfk f))
theorem ydq {f : LFn} : ∀ {l : List LIns} {n : Nat}, zrz f n l = true → ∀ {j : Nat} {i : LIns}, l[j]? = some i → xg f (n + j) i = true
 | [], _, _, j, i, h => by simp at h
 | x :: l, n, hs, 0, i, h => by
  simp only [List.getElem?_cons_zero, Option.some.injEq] at h
  subst h;simp only [zrz, Bool.and_eq_true] at hs
  exact hs.1
 | x :: l, n, hs, j + 1, i, h => by
  simp only [List.getElem?_cons_succ] at h
  simp only [zrz, Bool.and_eq_true] at hs
  have := ydq hs.2 h;rwa [show n + 1 + j = n + (j + 1) by omega] at this
theorem ziq {l : List Int} {n x : Int} (h : vy l n = true) (hx : x ∈ l) : 0 ≤ x ∧ x < n := by
 unfold vy at h;have := List.all_eq_true.1 h x hx;simpa using this
def hReg (at_ : Nat) (r : LReg) : Bool := decide (r.fr ≤ at_) && decide ((at_ : Int) < r.to)
def jn (f : LFn) (at_ : Nat) (i : LIns) : Option Nat := if jy i.op = true then f.rgs.findIdx? (hReg at_) else none
def ja (i : LIns) : List Int → List (Int × List Int)
 | [] => []
 | t :: l => (t, if i.op = 18 then [] else yj i) :: l.map fun t => (t, [])
def zkv (f : LFn) (at_ : Nat) (i : LIns) : List (Int × List Int) := match jn f at_ i with
 | none => []
 | some k => match f.rgs[k]? with
  | some r => [(r.tg, [r.d])]
  | none => []
def vg (f : LFn) (at_ : Nat) (i : LIns) : List (Int × List Int) := ja i (yo i at_) ++ zkv f at_ i
inductive Liv (f : LFn) : Nat → Nat → Prop
 | read {at_ r : Nat} {i : LIns} : f.ins[at_]? = some i → (r : Int) ∈ yu i → Liv f at_ r
 | back {at_ r t : Nat} {i : LIns} {ws : List Int} : f.ins[at_]? = some i → ((t : Int), ws) ∈ vg f at_ i → (r : Int) ∉ ws → Liv f t r → Liv f at_ r
section
variable {f : LFn} (hs : vh f = true)
include hs
theorem gl : 0 ≤ f.regs ∧ f.regs ≤ 65536 ∧ 0 ≤ f.params ∧ f.params ≤ f.regs ∧ f.ins ≠ [] := by
 unfold vh headOK at hs;simp only [Bool.and_eq_true, decide_eq_true_eq] at hs
 obtain ⟨⟨h1, h2, h3, h4, h5⟩, _⟩ := hs;exact ⟨h1, h2, h3, h4, h5⟩
theorem zjk {at_ : Nat} {i : LIns} (hi : f.ins[at_]? = some i) : (∀ x ∈ yu i, 0 ≤ x ∧ x < f.regs) ∧ (∀ x ∈ yj i, 0 ≤ x ∧ x < f.regs) ∧ ∀ x ∈ yo i at_, 0 ≤ x ∧ x < (f.ins.length : Int) := by
 unfold vh at hs;simp only [Bool.and_eq_true] at hs
 have h := ydq hs.2.1 hi;rw [Nat.zero_add] at h;unfold xg at h;simp only [Bool.and_eq_true] at h
 exact ⟨fun x hx => ziq h.1 hx, fun x hx => ziq h.2.1 hx, fun x hx => ziq h.2.2 hx⟩
theorem zxq {r : LReg} (hr : r ∈ f.rgs) : 0 ≤ r.fr ∧ r.fr ≤ r.to ∧ r.to ≤ (f.ins.length : Int) ∧ 0 ≤ r.tg ∧ r.tg < (f.ins.length : Int) ∧ 0 ≤ r.d ∧ r.d < f.regs := by
 unfold vh at hs;simp only [Bool.and_eq_true] at hs
 have h := List.all_eq_true.1 hs.2.2 r hr;unfold zfk at h;simpa using h
theorem yhx {at_ : Nat} {i : LIns} (hi : f.ins[at_]? = some i) {w : Int × List Int} (hw : w ∈ vg f at_ i) : (0 ≤ w.1 ∧ w.1 < (f.ins.length : Int)) ∧ ∀ x ∈ w.2, 0 ≤ x ∧ x < f.regs := by
 obtain ⟨_, h2, h3⟩ := zjk hs hi;unfold vg at hw;rcases List.mem_append.1 hw with h | h
 · cases hg : yo i at_ with
   | nil => rw [hg] at h; cases h
   | cons t l =>
    rw [hg] at h;simp only [ja, List.mem_cons, List.mem_map] at h
    rcases h with rfl | ⟨u, hu, rfl⟩
    · refine ⟨h3 t (by rw [hg]; simp), fun x hx => ?_⟩;dsimp only at hx
      split at hx
      · cases hx
      · exact h2 x hx
    · exact ⟨h3 u (by rw [hg]; simp [hu]), fun x hx => by cases hx⟩
 · unfold zkv at h;split at h
   · cases h
   · split at h
     · rename_i r hr
       simp only [List.mem_singleton] at h
       subst h;have := zxq hs (List.mem_of_getElem? hr);exact ⟨⟨this.2.2.2.1, this.2.2.2.2.1⟩, fun x hx => by simp only [List.mem_singleton] at hx; subst hx; exact this.2.2.2.2.2⟩
     · cases h
theorem liv_in {at_ r : Nat} (h : Liv f at_ r) : at_ < f.ins.length ∧ (r : Int) < f.regs := by
 induction h with
 | read hi hr => exact ⟨(List.getElem?_eq_some_iff.1 hi).1, ((zjk hs hi).1 _ hr).2⟩
 | back hi _ _ _ ih => exact ⟨(List.getElem?_eq_some_iff.1 hi).1, ih.2⟩
end
theorem ydz {f : LFn} {B : Nat → Nat → Prop} (h1 : ∀ at_ i r, f.ins[at_]? = some i → ((r : Nat) : Int) ∈ yu i → B at_ r)
 (h2 : ∀ at_ i t ws r, f.ins[at_]? = some i → (((t : Nat) : Int), ws) ∈ vg f at_ i → ((r : Nat) : Int) ∉ ws → B t r → B at_ r) {at_ r : Nat} (h : Liv f at_ r) : B at_ r := by
 induction h with
 | read hi hr => exact h1 _ _ _ hi hr
 | back hi hw hr _ ih => exact h2 _ _ _ _ _ hi hw hr ih
def Met (f : LFn) (r o : Nat) : Prop := ∃ (at_ : Nat) (i : LIns) (k t : Nat) (ws : List Int), f.ins[at_]? = some i ∧ (vg f at_ i)[k]? = some ((t : Int), ws) ∧ (r : Int) ∈ ws ∧ Liv f t o ∧ o ≠ r ∧ ¬ (i.op = 4 ∧ k = 0 ∧ (o : Int) = i.a)
def jq (f : LFn) (m : List Int) (n : Int) : Prop := vh f = true ∧ (m.length : Int) = f.regs ∧ f.params ≤ n ∧ n ≤ f.regs ∧
 (∀ (r : Nat) (x : Int), m[r]? = some x → 0 ≤ x ∧ x < n ∧ ((r : Int) < f.params → x = (r : Int)) ∧ (f.params ≤ (r : Int) → x < f.params → ¬ Liv f 0 r)) ∧ ∀ (r o : Nat) (x y : Int), Met f r o → m[r]? = some x → m[o]? = some y → x ≠ y
/-! ### words of bits -/
def gn (ws : List Nat) (r : Nat) : Bool := (ws.getD (r / 64) 0).testBit (r % 64)
def Row64 (ws : List Nat) (n : Nat) : Prop := ws.length = n ∧ ∀ x ∈ ws, x < 2 ^ 64
theorem bitR_set {ws : List Nat} {k : Nat} (x : Nat) (hk : k < ws.length) (r : Nat) : gn (ws.set k x) r = if r / 64 = k then x.testBit (r % 64) else gn ws r := by
 unfold gn;rw [List.getD_eq_getElem?_getD, List.getD_eq_getElem?_getD, List.getElem?_set];by_cases h : r / 64 = k
 · subst h; simp [hk]
 · have : ¬ k = r / 64 := fun e => h e.symm;simp [h, this]
theorem Row64.set {ws : List Nat} {n k x : Nat} (h : Row64 ws n) (hx : x < 2 ^ 64) : Row64 (ws.set k x) n := by
 refine ⟨by rw [List.length_set]; exact h.1, fun y hy => ?_⟩;rcases List.mem_or_eq_of_mem_set hy with h1 | h1
 · exact h.2 y h1
 · subst h1; exact hx
theorem Row64.zero (n : Nat) : Row64 (List.replicate n 0) n := ⟨by simp, fun x hx => by rw [List.eq_of_mem_replicate hx]; decide⟩
theorem yev (n r : Nat) : gn (List.replicate n 0) r = false := by
 unfold gn;rw [List.getD_eq_getElem?_getD, List.getElem?_replicate];split <;> simp
theorem bitR_lt {ws : List Nat} {n r : Nat} (h : Row64 ws n) (hb : gn ws r = true) : r < 64 * n := by
 unfold gn at hb;by_cases hr : r / 64 < n
 · omega
 · rw [List.getD_eq_getElem?_getD, List.getElem?_eq_none (by rw [h.1]; omega)] at hb;simp at hb
theorem Row64.get {ws : List Nat} {n k : Nat} (h : Row64 ws n) : ws.getD k 0 < 2 ^ 64 := by
 rw [List.getD_eq_getElem?_getD];cases hk : ws[k]? with
 | none => exact (by decide : (0 : Nat) < 2 ^ 64)
 | some x => exact h.2 x (List.mem_of_getElem? hk)
theorem getD_set {α : Type} (l : List α) (k : Nat) (x d : α) (hk : k < l.length) (j : Nat) : (l.set k x).getD j d = if j = k then x else l.getD j d := by
 rw [List.getD_eq_getElem?_getD, List.getD_eq_getElem?_getD, List.getElem?_set];by_cases h : k = j
 · subst h; simp [hk]
 · have : ¬ j = k := fun e => h e.symm;simp [h, this]
def vj (W : List (List Nat)) (at_ r : Nat) : Bool := gn (W.getD at_ []) r
def Rows64 (W : List (List Nat)) (N n : Nat) : Prop := W.length = N ∧ ∀ x ∈ W, Row64 x n
theorem Rows64.get {W : List (List Nat)} {N n k : Nat} (h : Rows64 W N n) (hk : k < N) : Row64 (W.getD k []) n := by
 rw [List.getD_eq_getElem?_getD, List.getElem?_eq_getElem (by rw [h.1]; exact hk)];exact h.2 _ (List.getElem_mem _)
theorem Rows64.set {W : List (List Nat)} {N n k : Nat} {row : List Nat} (h : Rows64 W N n) (hr : Row64 row n) : Rows64 (W.set k row) N n := by
 refine ⟨by rw [List.length_set]; exact h.1, fun y hy => ?_⟩;rcases List.mem_or_eq_of_mem_set hy with h1 | h1
 · exact h.2 y h1
 · subst h1; exact hr
theorem Rows64.zero (N n : Nat) : Rows64 (List.replicate N (List.replicate n 0)) N n := ⟨by simp, fun x hx => by rw [List.eq_of_mem_replicate hx]; exact Row64.zero n⟩
def orAt (W : List (List Nat)) (at_ k x : Nat) : List (List Nat) := W.set at_ ((W.getD at_ []).set k ((W.getD at_ []).getD k 0 ||| x))
theorem bitW_orAt {W : List (List Nat)} {N n at_ k x : Nat} (h : Rows64 W N n) (ha : at_ < N) (hk : k < n) (a r : Nat) :
 vj (orAt W at_ k x) a r = (vj W a r || (decide (a = at_ ∧ r / 64 = k) && x.testBit (r % 64))) := by
 unfold vj orAt;rw [getD_set _ _ _ _ (by rw [h.1]; exact ha)];by_cases h1 : a = at_
 · subst h1;rw [if_pos rfl, bitR_set _ (by rw [(h.get ha).1]; exact hk)];by_cases h2 : r / 64 = k
   · subst h2; simp [Nat.testBit_or, gn]
   · simp [h2]
 · simp [h1]
def xa : List Nat → Nat
 | [] => 0
 | x :: l => x + xa l
def kg : List (List Nat) → Nat
 | [] => 0
 | x :: l => xa x + kg l
theorem sumR_le {n : Nat} : ∀ {l : List Nat}, (∀ x ∈ l, x < n) → xa l ≤ l.length * n
 | [], _ => by simp [xa]
 | x :: l, h => by
  have h1 := h x (by simp);have h2 := sumR_le (l := l) fun y hy => h y (by simp [hy]);simp only [xa, List.length_cons, Nat.succ_mul]
  omega
theorem sumW_le {n m : Nat} : ∀ {W : List (List Nat)}, (∀ x ∈ W, x.length = n ∧ ∀ y ∈ x, y < m) → kg W ≤ W.length * (n * m)
 | [], _ => by simp [kg]
 | x :: l, h => by
  have h1 := h x (by simp);have h2 := sumW_le (W := l) fun y hy => h y (by simp [hy]);have h3 := sumR_le h1.2;rw [h1.1] at h3;simp only [kg, List.length_cons, Nat.succ_mul]
  omega
theorem zxx : ∀ {l : List Nat} {k x : Nat}, k < l.length → xa (l.set k x) + l.getD k 0 = xa l + x
 | [], _, _, h => by simp at h
 | y :: l, 0, x, _ => by simp [xa]; omega
 | y :: l, k + 1, x, h => by
  have := zxx (l := l) (k := k) (x := x) (by simpa using h);simp only [List.set_cons_succ, xa, List.getD_cons_succ]
  omega
theorem sumW_set : ∀ {W : List (List Nat)} {k : Nat} {x : List Nat}, k < W.length → kg (W.set k x) + xa (W.getD k []) = kg W + xa x
 | [], _, _, h => by simp at h
 | y :: l, 0, x, _ => by simp [kg]; omega
 | y :: l, k + 1, x, h => by
  have := sumW_set (W := l) (k := k) (x := x) (by simpa using h);simp only [List.set_cons_succ, kg, List.getD_cons_succ]
  omega
theorem or_grows {x y : Nat} (h : ∃ j, y.testBit j = true ∧ x.testBit j = false) : x < x ||| y := by
 rcases Nat.lt_or_ge x (x ||| y) with h1 | h1
 · exact h1
 · obtain ⟨j, h2, h3⟩ := h;have h4 : x ||| y = x := Nat.le_antisymm h1 Nat.left_le_or;have h5 : (x ||| y).testBit j = true := by rw [Nat.testBit_or, h2]; simp
   rw [h4, h3] at h5;cases h5
theorem orAt_sum {W : List (List Nat)} {N n at_ k x : Nat} (h : Rows64 W N n) (ha : at_ < N) (hk : k < n) (hx : (W.getD at_ []).getD k 0 < (W.getD at_ []).getD k 0 ||| x) : kg W < kg (orAt W at_ k x) := by
 have h1 := sumW_set (W := W) (k := at_) (x := (W.getD at_ []).set k ((W.getD at_ []).getD k 0 ||| x)) (by rw [h.1]; exact ha);have h2 := zxx (l := W.getD at_ []) (k := k) (x := (W.getD at_ []).getD k 0 ||| x) (by rw [(h.get ha).1]; exact hk);unfold orAt;omega
theorem rows_sum {W : List (List Nat)} {N n : Nat} (h : Rows64 W N n) : kg W ≤ N * (n * 2 ^ 64) := by
 have := sumW_le (W := W) (n := n) (m := 2 ^ 64) fun x hx => h.2 x hx;rwa [h.1] at this
/-! ### bits taken out -/
def jl (x y : Nat) : Nat := (BitVec.ofNat 64 x &&& ~~~BitVec.ofNat 64 y).toNat
theorem ygk (x y : Nat) : jl x y < 2 ^ 64 := BitVec.isLt _
theorem zov {x : Nat} (hx : x < 2 ^ 64) (y j : Nat) : (jl x y).testBit j = (x.testBit j && !y.testBit j) := by
 unfold jl;rw [BitVec.toNat_and, Nat.testBit_and, BitVec.testBit_toNat, BitVec.testBit_toNat, BitVec.getLsbD_not, BitVec.getLsbD_ofNat, BitVec.getLsbD_ofNat];by_cases h : j < 64
 · simp [h]
 · have : x.testBit j = false := Nat.testBit_lt_two_pow (Nat.lt_of_lt_of_le hx (Nat.pow_le_pow_right (by decide) (by omega)));simp [h, this]
theorem zvq {x y : Nat} (hx : x < 2 ^ 64) : jl x y = 0 ↔ ∀ j, x.testBit j = true → y.testBit j = true := by
 constructor
 · intro h j hj;have := zov hx y j;rw [h, Nat.zero_testBit, hj] at this;simpa using this.symm
 · intro h;apply Nat.eq_of_testBit_eq
   intro j;rw [zov hx, Nat.zero_testBit];cases hj : x.testBit j
   · rfl
   · rw [h j hj]; rfl
theorem andNot64_some {x y : Nat} (hx : x < 2 ^ 64) (h : jl x y ≠ 0) : ∃ j, x.testBit j = true ∧ y.testBit j = false := by
 rcases Classical.em (∃ j, x.testBit j = true ∧ y.testBit j = false) with h1 | h1
 · exact h1
 · refine absurd ((zvq hx).2 fun j hj => ?_) h;cases hy : y.testBit j
   · exact absurd ⟨j, hj, hy⟩ h1
   · rfl
def clrR (ws : List Nat) (r : Nat) : List Nat := ws.set (r / 64) (jl (ws.getD (r / 64) 0) (2 ^ (r % 64)))
def setR (ws : List Nat) (r : Nat) : List Nat := ws.set (r / 64) (ws.getD (r / 64) 0 ||| 2 ^ (r % 64))
theorem split64 {q r : Nat} (h : q / 64 = r / 64) : q % 64 = r % 64 ↔ q = r := by omega
theorem clrR_row {ws : List Nat} {n r : Nat} (h : Row64 ws n) : Row64 (clrR ws r) n := h.set (ygk _ _)
theorem zqx {ws : List Nat} {n r : Nat} (h : Row64 ws n) : Row64 (setR ws r) n := h.set (Nat.or_lt_two_pow h.get (Nat.pow_lt_pow_right (by decide) (Nat.mod_lt _ (by decide))))
theorem bitR_clr {ws : List Nat} {n r : Nat} (h : Row64 ws n) (hr : r < 64 * n) (q : Nat) : gn (clrR ws r) q = (gn ws q && !decide (q = r)) := by
 unfold clrR;rw [bitR_set _ (by rw [h.1]; omega)];by_cases h1 : q / 64 = r / 64
 · rw [if_pos h1, zov h.get, Nat.testBit_two_pow];unfold gn;rw [h1];have : decide (r % 64 = q % 64) = decide (q = r) := by rw [decide_eq_decide]; have := split64 h1; omega
   rw [this]
 · rw [if_neg h1];have : decide (q = r) = false := decide_eq_false (fun e => h1 (by rw [e]));rw [this]; simp
theorem bitR_setR {ws : List Nat} {n r : Nat} (h : Row64 ws n) (hr : r < 64 * n) (q : Nat) : gn (setR ws r) q = (gn ws q || decide (q = r)) := by
 unfold setR;rw [bitR_set _ (by rw [h.1]; omega)];by_cases h1 : q / 64 = r / 64
 · rw [if_pos h1, Nat.testBit_or, Nat.testBit_two_pow];unfold gn;rw [h1];have : decide (r % 64 = q % 64) = decide (q = r) := by rw [decide_eq_decide]; have := split64 h1; omega
   rw [this]
 · rw [if_neg h1];have : decide (q = r) = false := decide_eq_false (fun e => h1 (by rw [e]));rw [this]; simp
/-! ### the registers that are live, as words -/
def zhz (f : LFn) (W : List (List Nat)) : Prop := ∀ a r, vj W a r = true → Liv f a r
def zhq (f : LFn) (W : List (List Nat)) : Prop := ∀ a i r, f.ins[a]? = some i → ((r : Nat) : Int) ∈ yu i → vj W a r = true
def zdz (f : LFn) (W : List (List Nat)) (a : Nat) : Prop := ∀ i t ws r, f.ins[a]? = some i → (((t : Nat) : Int), ws) ∈ vg f a i → ((r : Nat) : Int) ∉ ws → vj W t r = true → vj W a r = true
theorem live_of {f : LFn} {W : List (List Nat)} (h1 : zhz f W) (h2 : zhq f W) (h3 : ∀ a, a < f.ins.length → zdz f W a) (a r : Nat) : vj W a r = true ↔ Liv f a r :=
 ⟨h1 a r, ydz (fun a i r hi hr => h2 a i r hi hr) (fun a i t ws r hi hw hr hb => h3 a (List.getElem?_eq_some_iff.1 hi).1 i t ws r hi hw hr hb)⟩
def tz (x : Nat) : Nat := ((List.range 64).find? fun j => x.testBit j).getD 64
theorem tz_spec {x : Nat} (h0 : x ≠ 0) (hx : x < 2 ^ 64) : tz x < 64 ∧ x.testBit (tz x) = true ∧ ∀ j, j < tz x → x.testBit j = false := by
 have hex : ∃ j, j < 64 ∧ x.testBit j = true := by
  apply Classical.byContradiction
  intro hn;apply h0
  apply Nat.eq_of_testBit_eq
  intro j;rw [Nat.zero_testBit];rcases Nat.lt_or_ge j 64 with h | h
  · cases hj : x.testBit j
    · rfl
    · exact absurd ⟨j, h, hj⟩ hn
  · exact Nat.testBit_lt_two_pow (Nat.lt_of_lt_of_le hx (Nat.pow_le_pow_right (by decide) h))
 unfold tz;cases hf : (List.range 64).find? fun j => x.testBit j with
 | none =>
  obtain ⟨j, h1, h2⟩ := hex;have := List.find?_eq_none.1 hf j (List.mem_range.2 h1);simp [h2] at this
 | some k =>
  rw [Option.getD_some];have hm := List.mem_range.1 (List.mem_of_find?_eq_some hf);refine ⟨hm, List.find?_some hf, fun j hj => ?_⟩;obtain ⟨_, as, bs, e, h2⟩ := List.find?_eq_some_iff_append.1 hf;have hl : as.length = k := by
   have h3 : (List.range 64)[as.length]? = some k := by rw [e]; simp
   obtain ⟨h4, h5⟩ := List.getElem?_eq_some_iff.1 h3;simpa using h5
  have h3 : j ∈ as := by
   have h4 : as[j]? = (List.range 64)[j]? := by rw [e, List.getElem?_append_left (by omega)]
   rw [List.getElem?_range (by omega)] at h4;exact List.mem_of_getElem? h4
  have := h2 j h3;simpa using this
theorem low_split {x k : Nat} (hk : x.testBit k = true) (hl : ∀ j, j < k → x.testBit j = false) : x = 2 ^ (k + 1) * (x / 2 ^ (k + 1)) + 2 ^ k := by
 have h : x % 2 ^ (k + 1) = 2 ^ k := by
  apply Nat.eq_of_testBit_eq
  intro j;rw [Nat.testBit_mod_two_pow, Nat.testBit_two_pow];rcases Nat.lt_trichotomy j k with h | h | h
  · rw [hl j h];have : ¬ k = j := by omega
    simp [this]
  · subst h;simp [hk]
  · have h1 : ¬ j < k + 1 := by omega
    have h2 : ¬ k = j := by omega
    simp [h1, h2]
 have := Nat.div_add_mod x (2 ^ (k + 1));rw [h] at this;exact this.symm
theorem pred_bits {x k : Nat} (hk : x.testBit k = true) (hl : ∀ j, j < k → x.testBit j = false) (i : Nat) : (x - 1).testBit i = if i < k then true else if i = k then false else x.testBit i := by
 have e := low_split hk hl;obtain ⟨q, hq⟩ : ∃ q, q = x / 2 ^ (k + 1) := ⟨_, rfl⟩;rw [← hq] at e;have hp : 0 < 2 ^ k := Nat.two_pow_pos k;have hp2 : 2 ^ k < 2 ^ (k + 1) := Nat.pow_lt_pow_right (by decide) (by omega);have e1 : x - 1 = 2 ^ (k + 1) * q + (2 ^ k - 1) := by omega
 rw [e1, Nat.testBit_two_pow_mul_add q (by omega)];by_cases h1 : i < k + 1
 · rw [if_pos h1, Nat.testBit_two_pow_sub_one];by_cases h2 : i < k
   · simp [h2]
   · have h3 : i = k := by omega
     simp [h3]
 · rw [if_neg h1, if_neg (by omega), if_neg (by omega)];conv => rhs; rw [e]
   rw [Nat.testBit_two_pow_mul_add q hp2, if_neg h1]
theorem low_out {x k : Nat} (hk : x.testBit k = true) (hl : ∀ j, j < k → x.testBit j = false) (i : Nat) : (x &&& (x - 1)).testBit i = (x.testBit i && !decide (i = k)) := by
 rw [Nat.testBit_and, pred_bits hk hl];by_cases h : i < k
 · rw [hl i h]; simp
 · by_cases h2 : i = k
   · simp [h2]
   · simp [h, h2]
theorem low_in {x k : Nat} (hx : x < 2 ^ 64) (hk : x.testBit k = true) (hl : ∀ j, j < k → x.testBit j = false) : x &&& (2 ^ 64 - x) = 2 ^ k := by
 have h0 : x ≠ 0 := fun e => by rw [e, Nat.zero_testBit] at hk; cases hk
 apply Nat.eq_of_testBit_eq
 intro i;rw [Nat.testBit_and, show 2 ^ 64 - x = 2 ^ 64 - ((x - 1) + 1) by omega, Nat.testBit_two_pow_sub_succ (by omega), pred_bits hk hl, Nat.testBit_two_pow];by_cases h : i < k
 · rw [hl i h];have : ¬ k = i := by omega
   simp [this]
 · by_cases h2 : i = k
   · subst h2;have : i < 64 := by
      apply Classical.byContradiction
      intro hn;rw [Nat.testBit_lt_two_pow (Nat.lt_of_lt_of_le hx (Nat.pow_le_pow_right (by decide) (by omega)))] at hk;cases hk
     simp [hk, this]
   · have h3 : ¬ k = i := by omega
     simp only [h, h2, h3, if_false, decide_false]
     cases hi : x.testBit i <;> simp
def dbL : List Nat := [0, 1, 56, 2, 57, 49, 28, 3, 61, 58, 42, 50, 38, 29, 17, 4, 62, 47, 59, 36, 45, 43, 51, 22, 53, 39, 33, 30, 24, 18, 12, 5, 63, 55, 48, 27, 60, 41, 37, 16, 46, 35, 44, 21, 52, 32, 23, 11, 54, 26, 40, 15, 34, 20, 31, 10, 25, 14, 19, 9, 13, 8, 7, 6]
theorem db_at {k : Nat} (hk : k < 64) : dbL[2 ^ k * 285870213051353865 % 2 ^ 64 / 2 ^ 58]? = some k := by
 have key : ∀ i : Fin 64, dbL[2 ^ i.val * 285870213051353865 % 2 ^ 64 / 2 ^ 58]? = some i.val := by decide +kernel
 exact key ⟨k, hk⟩
/-! ### the law's three -/
def thrF : LFn := ⟨⟨#[]⟩, 0, 3, 0, false, 0, [], [(1, ⟨#[49]⟩)], [⟨3, 0, 0, 0, 0, 0, []⟩, ⟨3, 1, 0, 0, 0, 0, []⟩, ⟨14, 2, 0, 1, 0, 1, []⟩, ⟨41, 0, 2, 0, 0, 0, []⟩], []⟩
theorem thr_sound : vh thrF = true := by decide +kernel
def thrW : Nat → List (Int × List Int)
 | 0 => [(1, [0])]
 | 1 => [(2, [1])]
 | 2 => [(3, [2])]
 | _ => []
def thrR : Nat → List Int
 | 2 => [0, 1]
 | 3 => [2]
 | _ => []
theorem thr_ways {a : Nat} {i : LIns} (h : thrF.ins[a]? = some i) : vg thrF a i = thrW a ∧ yu i = thrR a ∧ (i.op = 4 → False) := by
 match a, h with
 | 0, h => obtain rfl := Option.some.inj h; exact ⟨by decide +kernel, by decide +kernel, by decide⟩
 | 1, h => obtain rfl := Option.some.inj h; exact ⟨by decide +kernel, by decide +kernel, by decide⟩
 | 2, h => obtain rfl := Option.some.inj h; exact ⟨by decide +kernel, by decide +kernel, by decide⟩
 | 3, h => obtain rfl := Option.some.inj h; exact ⟨by decide +kernel, by decide +kernel, by decide⟩
 | a + 4, h => cases h
def thrB (a r : Nat) : Prop := (a = 1 ∧ r = 0) ∨ (a = 2 ∧ r < 2) ∨ (a = 3 ∧ r = 2)
theorem thr_live {a r : Nat} (h : Liv thrF a r) : thrB a r := by
 refine ydz (B := thrB) (fun a i r hi hr => ?_) (fun a i t ws r hi hw hr hb => ?_) h
 · rw [(thr_ways hi).2.1] at hr;match a, hr with
   | 0, hr => cases hr
   | 1, hr => cases hr
   | 2, hr =>
    simp only [thrR, List.mem_cons, List.not_mem_nil, or_false] at hr
    exact Or.inr (Or.inl ⟨rfl, by omega⟩)
   | 3, hr =>
    simp only [thrR, List.mem_cons, List.not_mem_nil, or_false] at hr
    exact Or.inr (Or.inr ⟨rfl, by omega⟩)
   | a + 4, hr => cases hr
 · rw [(thr_ways hi).1] at hw;match a, hw with
   | 0, hw =>
    simp only [thrW, List.mem_cons, List.not_mem_nil, or_false, Prod.mk.injEq] at hw
    obtain ⟨h1, rfl⟩ := hw;simp only [List.mem_cons, List.not_mem_nil, or_false] at hr
    rcases hb with hb | hb | hb <;> omega
   | 1, hw =>
    simp only [thrW, List.mem_cons, List.not_mem_nil, or_false, Prod.mk.injEq] at hw
    obtain ⟨h1, rfl⟩ := hw;simp only [List.mem_cons, List.not_mem_nil, or_false] at hr
    rcases hb with hb | hb | hb
    · omega
    · exact Or.inl ⟨rfl, by omega⟩
    · omega
   | 2, hw =>
    simp only [thrW, List.mem_cons, List.not_mem_nil, or_false, Prod.mk.injEq] at hw
    obtain ⟨h1, rfl⟩ := hw;simp only [List.mem_cons, List.not_mem_nil, or_false] at hr
    rcases hb with hb | hb | hb <;> omega
   | a + 3, hw => cases hw
theorem thr_met {r o : Nat} (h : Met thrF r o) : r = 1 ∧ o = 0 := by
 obtain ⟨a, i, k, t, ws, h1, h2, h3, h4, h5, _⟩ := h;rw [(thr_ways h1).1] at h2;have h2 := List.mem_of_getElem? h2;have h4 := thr_live h4;match a, h2 with
 | 0, hw =>
  simp only [thrW, List.mem_cons, List.not_mem_nil, or_false, Prod.mk.injEq] at hw
  obtain ⟨h1, rfl⟩ := hw;simp only [List.mem_cons, List.not_mem_nil, or_false] at h3
  rcases h4 with hb | hb | hb <;> omega
 | 1, hw =>
  simp only [thrW, List.mem_cons, List.not_mem_nil, or_false, Prod.mk.injEq] at hw
  obtain ⟨h1, rfl⟩ := hw;simp only [List.mem_cons, List.not_mem_nil, or_false] at h3
  rcases h4 with hb | hb | hb <;> omega
 | 2, hw =>
  simp only [thrW, List.mem_cons, List.not_mem_nil, or_false, Prod.mk.injEq] at hw
  obtain ⟨h1, rfl⟩ := hw;simp only [List.mem_cons, List.not_mem_nil, or_false] at h3
  rcases h4 with hb | hb | hb <;> omega
 | a + 3, hw => cases hw
theorem thr_meet : Met thrF 1 0 := by
 refine ⟨1, ⟨3, 1, 0, 0, 0, 0, []⟩, 0, 2, [1], rfl, by decide +kernel, by simp, ?_, by decide, by decide⟩;exact Liv.read (i := ⟨14, 2, 0, 1, 0, 1, []⟩) rfl (by decide +kernel)
theorem thr_yes : jq thrF [0, 1, 0] 2 := by
 refine ⟨thr_sound, rfl, by decide, by decide, fun r x hx => ?_, fun r o x y hM hx hy => ?_⟩
 · have hl : ¬ Liv thrF 0 r := fun h => by rcases thr_live h with h | h | h <;> omega
   have h0 : 0 ≤ x ∧ x < 2 := by
    have := List.mem_of_getElem? hx;simp only [List.mem_cons, List.not_mem_nil, or_false] at this
    omega
   exact ⟨h0.1, h0.2, fun h => absurd h (by show ¬ ((r : Int) < 0); omega), fun _ _ => hl⟩
 · obtain ⟨rfl, rfl⟩ := thr_met hM;obtain rfl := Option.some.inj hx;obtain rfl := Option.some.inj hy;decide
theorem thr_no : ¬ jq thrF [0, 0, 1] 2 := fun h => h.2.2.2.2.2 1 0 0 0 thr_meet rfl rfl rfl
theorem thr_any {ms : List Int} {n : Int} (h : jq thrF ms n) : ms.length = 3 ∧ 2 ≤ n ∧ ∃ x y, ms[0]? = some x ∧ ms[1]? = some y ∧ x ≠ y := by
 have h3 : ms.length = 3 := by have := h.2.1; simp only [thrF] at this; omega
 have hx : ms[0]? = some ms[0] := List.getElem?_eq_getElem (by omega);have hy : ms[1]? = some ms[1] := List.getElem?_eq_getElem (by omega);have hxy := h.2.2.2.2.2 1 0 _ _ thr_meet hy hx;have h1 := h.2.2.2.2.1 0 _ hx;have h2 := h.2.2.2.2.1 1 _ hy;exact ⟨h3, by omega, _, _, hx, hy, fun e => hxy e.symm⟩
/-! ### rows of numbers laid into lists -/
def upto (a m : Nat) : List Int := (List.range m).map fun j => ((a + j : Nat) : Int)
def conI (d : Nat) : LIns := ⟨3, (d : Int), 0, 0, 0, 0, []⟩
def lstI (d a m : Nat) : LIns := ⟨28, (d : Int), 0, 0, 0, 0, upto a m⟩
def retI (a : Nat) : LIns := ⟨41, 0, (a : Int), 0, 0, 0, []⟩
def apI (n k j : Nat) : LIns := if j < n then conI j else if j = n then lstI (n + k) 0 n else if j ≤ n + k then conI (j - 1) else if j = n + k + 1 then lstI (n + k) n k else retI (n + k)
def apL (n k j : Nat) : List LIns := (List.range j).map (apI n k)
def apF (n k : Nat) : LFn := ⟨⟨#[]⟩, 0, ((n + k + 2 : Nat) : Int), 0, false, 0, [], [(1, ⟨#[49]⟩)], apL n k (n + k + 3), []⟩
section
variable {n k : Nat} (hn : n ≤ 1000) (hk : k ≤ 1000)
include hn hk
end
end Go.Proofs.YtppdgjlmeahimaaDoor

/- Texts of this claim. -/
import Derived.Test.YtmjbnhjgebjhlaaDoorK3
import Derived.Below
import Derived.Laws.OwnMore
import Derived.Deep.AppendLies
import Derived.Deep.Draws
import Derived.Deep.OwnRows
import Derived.Laws.Rows
import Derived.Maps.AppendAt
import Derived.RegionTactic
import Derived.OwnWalk
import Derived.WalkKit
namespace Go.Proofs.YtmjbnhjgebjhlaaDoor
open Go.RowKit
theorem zzq (a : Addr) (n : Nat) : (a.add n).block = a.block := by unfold Addr.add; split <;> rfl
theorem add_of_add (a : Addr) (i j : Nat) : (a.add i).add j = a.add (i + j) := by
 unfold Addr.add;by_cases hi : i = 0 <;> by_cases hj : j = 0 <;> simp [hi, hj, Nat.add_assoc]
def Reads (w : World) (B size : Nat) (A : Option Addr) (n : Nat) (xs : List Value) : Prop :=
 xs.length = n * size ∧ (0 < n → ∃ ad, A = some ad ∧ ad.block < B ∧ ∀ j u, xs[j]? = some u → w.cell? (ad.add j) = some u)
section
variable {w w' : World} {B B' size n : Nat} {A : Option Addr} {xs : List Value}
theorem Reads.none_ : Reads w B size A 0 [] := ⟨by simp, fun h => absurd h (by omega)⟩
theorem Reads.at_ {k : Nat} (h : Reads w B 1 A n xs) (hk : k < n) : ∃ ad u, A = some ad ∧ ad.block < B ∧ xs[k]? = some u ∧ w.cell? (ad.add k) = some u := by
 obtain ⟨ad, e, hb, hc⟩ := h.2 (by omega);have hl : k < xs.length := by have := h.1; omega
 exact ⟨ad, xs[k], e, hb, List.getElem?_eq_getElem hl, hc k _ (List.getElem?_eq_getElem hl)⟩
theorem Reads.keep (h : Reads w B size A n xs) (hk : ∀ p : Addr, p.block < B → w'.cell? p = w.cell? p) : Reads w' B size A n xs :=
 ⟨h.1, fun hn => by
  obtain ⟨ad, e, hb, hc⟩ := h.2 hn;exact ⟨ad, e, hb, fun j u hu => (hk _ (by rw [zzq]; exact hb)).trans (hc j u hu)⟩⟩
theorem Reads.more (h : Reads w B size A n xs) (hB : B ≤ B') : Reads w B' size A n xs :=
 ⟨h.1, fun hn => by
  obtain ⟨ad, e, hb, hc⟩ := h.2 hn;exact ⟨ad, e, by omega, hc⟩⟩
theorem Reads.below (h : Reads w B size A n xs) (hb : Below B w w') : Reads w' B size A n xs := h.keep fun _ hp => hb.cell hp
theorem Reads.drew (h : Reads w B size A n xs) : Reads w.drew B size A n xs := h
theorem Reads.alloc (h : Reads w B size A n xs) (hB : B ≤ w.heap.size) (o : Obj) : Reads (w.alloc o) B size A n xs := h.keep fun p hp => World.cell?_alloc_lt w o p (by omega)
theorem Reads.setCell (h : Reads w B size A n xs) {p : Addr} (hB : B ≤ p.block) (u : Value) : Reads (w.setCell p u) B size A n xs :=
 h.keep fun q hq => World.cell?_setCell_other w p q u (fun e => by subst e; omega)
theorem Reads.grown (h : Reads w B size A n xs) {row : Option Nat} (hg : w.grownBy w' row) (hB : B ≤ w.heap.size) (hr : ∀ g, row = some g → B ≤ g) : Reads w' B size A n xs :=
 h.keep fun p hp => World.cell?_of_block (hg.block p.block (by omega) (fun e => by have := hr _ e.symm; omega))
theorem Reads.cut (h : Reads w B size A n xs) {k cap : Nat} (hk : k ≤ n) (hc : n ≤ cap) :
 Reads w B size (if cap = k then A else A.map (·.add (k * size))) (n - k) (xs.drop (k * size)) := by
 refine ⟨by rw [List.length_drop, h.1, Nat.sub_mul], fun hn => ?_⟩;obtain ⟨ad, rfl, hb, hcell⟩ := h.2 (by omega);rw [if_neg (by omega)];refine ⟨ad.add (k * size), rfl, by rw [zzq]; exact hb, fun j u hu => ?_⟩;rw [add_of_add];exact hcell _ u (by rw [← hu, List.getElem?_drop])
end
def Blk (w : World) (g : Nat) (t : TypeId) (cs : Array Value) : Prop := w.heap[g]? = some (.cells cs t (0, 0))
section
variable {w w' : World} {g : Nat} {t : TypeId} {cs : Array Value}
theorem Blk.lt (h : Blk w g t cs) : g < w.heap.size := by
 rcases Nat.lt_or_ge g w.heap.size with hlt | hge
 · exact hlt
 · unfold Blk at h; rw [Array.getElem?_eq_none hge] at h; cases h
theorem Blk.cell (h : Blk w g t cs) (i : Nat) : w.cell? ⟨g, i, none⟩ = cs[i]? := cell_of_row w g i cs t (0, 0) h
theorem Blk.frozen (h : Blk w g t cs) (i : Nat) : w.frozen? ⟨g, i, none⟩ = false := by
 unfold Blk at h;simp [World.frozen?, h]
theorem Blk.new (w : World) (t : TypeId) (cs : Array Value) : Blk (w.alloc (.cells cs t)) w.heap.size t cs := heap_alloc_new w _
theorem Blk.drew (h : Blk w g t cs) : Blk w.drew g t cs := h
theorem Blk.alloc (h : Blk w g t cs) (o : Obj) : Blk (w.alloc o) g t cs := (Below.heap_alloc w o g h.lt).trans h
theorem Blk.set_ (h : Blk w g t cs) (i : Nat) (u : Value) : Blk (w.setCell ⟨g, i, none⟩ u) g t (cs.setIfInBounds i u) := by
 unfold Blk at h ⊢;simp [World.setCell, Array.getElem?_modify, h]
theorem Blk.far (h : Blk w g t cs) {p : Addr} (hp : g ≠ p.block) (u : Value) : Blk (w.setCell p u) g t cs := (Below.heap_setCell w p u g hp).trans h
theorem Blk.below {B : Nat} (h : Blk w g t cs) (hb : Below B w w') (hg : g < B) : Blk w' g t cs := (hb.block g hg).trans h
theorem Blk.grown {row : Option Nat} (h : Blk w g t cs) (hb : w.grownBy w' row) (hg : some g ≠ row) : Blk w' g t cs := (hb.block g h.lt hg).trans h
theorem Blk.ne_ {g' : Nat} {t' : TypeId} {cs' : Array Value} (h : Blk w g t cs) (h' : Blk w g' t' cs') (hne : t ≠ t') : g ≠ g' := by
 rintro rfl;unfold Blk at h h';rw [h] at h';injection h' with h'
 injection h' with _ ht
 exact hne ht
theorem own_blk_ne {base : Nat} {e : TypeId} {size n : Nat} {v : Value} {xs : List Value} (h : w.ownsRow base e size v n xs) (hg : Blk w g t cs) (hne : e ≠ t) : v.ownBlock ≠ some g := by
 rcases h.2 with ⟨rfl, _⟩ | ⟨g', cap, cur, rfl, _, hh, _⟩
 · simp [Value.ownBlock]
 · intro he;have : g' = g := by simpa [Value.ownBlock] using he
   subst this;exact Blk.ne_ (t := e) hh hg hne rfl
end
section
variable {P : Program} (w : World)
theorem run_append_of_nil (base : Nat) (t ty e : TypeId) (i : TypeInfo) (size : Nat) (ht : P.underlying t = some (.slice e)) (hi : P.info? e = some i)
 (v : Value) (n : Nat) (xs : List Value) (hown : w.ownsRow base e size v n xs) (c : Nat) : (Builtin.append_ #[t, t] ty #[v, .slice none 0 c]).run P w = .ok v w := by
 rcases hown.2 with ⟨rfl, rfl⟩ | ⟨g, cap, cur, rfl, _, _, hnc, _⟩
 · simp [Builtin.append_, run_underlying ht, sizeOf, typeInfo, hi, Builtin.lenOf, Builtin.firstCells]
 · simp [Builtin.append_, run_underlying ht, sizeOf, typeInfo, hi, Builtin.lenOf, Builtin.firstCells, hnc, storeCells]
theorem run_append_any (base : Nat) (t ty e : TypeId) (i : TypeInfo) (z : Value) (size bytes : Nat) (ht : P.underlying t = some (.slice e)) (hi : P.info? e = some i) (hz : i.zero = some z)
 (hsize : i.size = size) (hby : i.bytes = bytes) (hzs : z.cells.size = size) (hsz : 0 < size)
 (v : Value) (n : Nat) (xs : List Value) (hown : w.ownsRow base e size v n xs)
 (B : Nat) (A : Option Addr) (m c : Nat) (news : List Value) (hr : Reads w B size A m news) (h1 : ∀ u ∈ news, u.oneCell' = true)
 (h63 : n + m ≤ maxLen) (hbytes : (n + m) * bytes ≤ 140737488355328) (hbase : base ≤ w.heap.size) :
 ∃ v' w', (Builtin.append_ #[t, t] ty #[v, .slice A m c]).run P w = .ok v' w' ∧ w'.ownsRow base e size v' (n + m) (xs ++ news) ∧ w.grownBy w' v.ownBlock ∧
  (v'.ownBlock = v.ownBlock ∨ v'.ownBlock = some w.heap.size) := by
 rcases A with _ | ad
 · have hm : m = 0 := by
    rcases Nat.eq_zero_or_pos m with h0 | h0
    · exact h0
    · obtain ⟨ad, h, _⟩ := hr.2 h0;cases h
   subst hm;have hn : news = [] := List.eq_nil_of_length_eq_zero (by simpa using hr.1);subst hn;exact ⟨v, w, run_append_of_nil w base t ty e i size ht hi v n xs hown c, by simpa using hown, World.grownBy.refl w _, .inl rfl⟩
 · have hcells : ∀ j u, news[j]? = some u → w.cell? (ad.add j) = some u := by
    intro j u hu;rcases Nat.eq_zero_or_pos m with h0 | h0
    · subst h0;have hn : news = [] := List.eq_nil_of_length_eq_zero (by simpa using hr.1);subst hn;simp at hu
    · obtain ⟨ad', h, _, hc⟩ := hr.2 h0;injection h with h
      subst h;exact hc j u hu
   obtain ⟨v', w', hrun, h2, h3, _, h5⟩ := run_append_own_at (P := P) w base t ty e i z size bytes ht hi hz hsize hby hzs hsz v n xs hown ad m c news hr.1 hcells h1 h63 hbytes hbase;exact ⟨v', w', hrun, h2, h3, h5⟩
end
@[irreducible] def nth (xs : List Nat) (k : Nat) : Int := ((xs.getD k 0 : Nat) : Int)
def Nums (w : World) (A : Option Addr) (xs : List Nat) : Prop :=
 (∀ k, nth xs k < 18446744073709551616) ∧ (0 < xs.length → ∃ b o, A = some ⟨b, o, none⟩ ∧ b < w.heap.size ∧ ∀ k, k < xs.length → w.cell? ⟨b, o + k, none⟩ = some (.int .u64 (nth xs k)))
end Go.Proofs.YtmjbnhjgebjhlaaDoor
namespace Go.Proofs.YtmjbnhjgebjhlaaDoor
structure LIns where
 op : Int
 d : Int
 a : Int
 b : Int
 t : Int
 k : Int
 l : List Int
structure LReg where
 fr : Int
 to : Int
 tg : Int
 d : Int
structure LFn where
 name : ByteArray
 params : Int
 regs : Int
 frees : Int
 gen : Bool
 bound : Int
 names : List ByteArray
 consts : List (Int × ByteArray)
 ins : List LIns
 rgs : List LReg
def flT : List Nat := [0, 1024, 32770, 2050, 6, 2, 4098, 4100, 4096, 2, 6, 12, 4, 8194, 32782, 32774, 32782, 6, 16, 20, 20, 38, 4102, 4108, 14, 140, 12, 262, 34, 34, 34, 66, 12, 12, 4100, 36, 16898, 4130, 6, 22, 6, 4, 4, 14, 32770]
def flN (op : Int) : Nat := if op < 0 ∨ 44 < op then 0 else flT.getD op.toNat 0 ||| 1
theorem flN_lt (op : Int) : flN op < 65536 := by
 unfold flN;split
 · decide
 · have key : ∀ i : Fin 45, flT.getD i.val 0 ||| 1 < 65536 := by decide +kernel
   exact key ⟨op.toNat, by omega⟩
def uD (op : Int) : Bool := (flN op).testBit 1
def uA (op : Int) : Bool := (flN op).testBit 2
def uB (op : Int) : Bool := (flN op).testBit 3
def uT (op : Int) : Bool := (flN op).testBit 4
def uL (op : Int) : Bool := flN op &&& 992 != 0
def qy (i : LIns) : List Int := (if uA i.op = true then [i.a] else []) ++ ((if uB i.op = true then [i.b] else []) ++ (if (uL i.op && i.op != 35) = true then i.l else []))
def qh (i : LIns) : List Int := if i.op = 35 then i.l else if uD i.op = true then [i.d] else []
def zkv (at_ : Int) : Int := if at_ < 9223372036854775807 then at_ + 1 else at_
def qp (i : LIns) (at_ : Int) : List Int := if i.op = 18 then [i.t] else if i.op = 41 ∨ i.op = 42 then [] else if i.op = 19 ∨ i.op = 20 ∨ i.op = 39 then [zkv at_, i.t] else [zkv at_]
def allocsL (op : Int) : Bool := if op = 0 ∨ op = 1 ∨ op = 2 ∨ op = 5 ∨ op = 18 then false else flN op != 0
def insideL (l : List Int) (n : Int) : Bool := l.all fun x => decide (0 ≤ x) && decide (x < n)
def regOK (f : LFn) (r : LReg) : Bool := decide (0 ≤ r.fr) && (decide (r.fr ≤ r.to) && (decide (r.to ≤ (f.ins.length : Int)) && (decide (0 ≤ r.tg) && (decide (r.tg < (f.ins.length : Int)) && (decide (0 ≤ r.d) && decide (r.d < f.regs))))))
def insOK (f : LFn) (at_ : Nat) (i : LIns) : Bool := insideL (qy i) f.regs && (insideL (qh i) f.regs && insideL (qp i at_) f.ins.length)
def insAll (f : LFn) : Nat → List LIns → Bool
 | _, [] => true
 | n, i :: l => insOK f n i && insAll f (n + 1) l
def headOK (f : LFn) : Bool := decide (0 ≤ f.regs) && (decide (f.regs ≤ 65536) && (decide (0 ≤ f.params) && (decide (f.params ≤ f.regs) && decide (f.ins ≠ []))))
def soundL (f : LFn) : Bool := headOK f && (insAll f 0 f.ins && f.rgs.all (regOK f))
def hReg (at_ : Nat) (r : LReg) : Bool := decide (r.fr ≤ at_) && decide ((at_ : Int) < r.to)
def handL (f : LFn) (at_ : Nat) (i : LIns) : Option Nat := if allocsL i.op = true then f.rgs.findIdx? (hReg at_) else none
def goWays (i : LIns) : List Int → List (Int × List Int)
 | [] => []
 | t :: l => (t, if i.op = 18 then [] else qh i) :: l.map fun t => (t, [])
def hWays (f : LFn) (at_ : Nat) (i : LIns) : List (Int × List Int) := match handL f at_ i with
 | none => []
 | some k => match f.rgs[k]? with
  | some r => [(r.tg, [r.d])]
  | none => []
def waysL (f : LFn) (at_ : Nat) (i : LIns) : List (Int × List Int) := goWays i (qp i at_) ++ hWays f at_ i
inductive Liv (f : LFn) : Nat → Nat → Prop
 | read {at_ r : Nat} {i : LIns} : f.ins[at_]? = some i → (r : Int) ∈ qy i → Liv f at_ r
 | back {at_ r t : Nat} {i : LIns} {ws : List Int} : f.ins[at_]? = some i → ((t : Int), ws) ∈ waysL f at_ i → (r : Int) ∉ ws → Liv f t r → Liv f at_ r
section
variable {f : LFn} (hs : soundL f = true)
include hs
end
def Met (f : LFn) (r o : Nat) : Prop := ∃ (at_ : Nat) (i : LIns) (k t : Nat) (ws : List Int), f.ins[at_]? = some i ∧ (waysL f at_ i)[k]? = some ((t : Int), ws) ∧ (r : Int) ∈ ws ∧ Liv f t o ∧ o ≠ r ∧ ¬ (i.op = 4 ∧ k = 0 ∧ (o : Int) = i.a)
def RightP (f : LFn) (m : List Int) (n : Int) : Prop := soundL f = true ∧ (m.length : Int) = f.regs ∧ f.params ≤ n ∧ n ≤ f.regs ∧
 (∀ (r : Nat) (x : Int), m[r]? = some x → 0 ≤ x ∧ x < n ∧ ((r : Int) < f.params → x = (r : Int)) ∧ (f.params ≤ (r : Int) → x < f.params → ¬ Liv f 0 r)) ∧ ∀ (r o : Nat) (x y : Int), Met f r o → m[r]? = some x → m[o]? = some y → x ≠ y
/-! ### words of bits -/
def bitR (ws : List Nat) (r : Nat) : Bool := (ws.getD (r / 64) 0).testBit (r % 64)
def Row64 (ws : List Nat) (n : Nat) : Prop := ws.length = n ∧ ∀ x ∈ ws, x < 2 ^ 64
theorem Row64.set {ws : List Nat} {n k x : Nat} (h : Row64 ws n) (hx : x < 2 ^ 64) : Row64 (ws.set k x) n := by
 refine ⟨by rw [List.length_set]; exact h.1, fun y hy => ?_⟩;rcases List.mem_or_eq_of_mem_set hy with h1 | h1
 · exact h.2 y h1
 · subst h1; exact hx
theorem Row64.zero (n : Nat) : Row64 (List.replicate n 0) n := ⟨by simp, fun x hx => by rw [List.eq_of_mem_replicate hx]; decide⟩
theorem Row64.get {ws : List Nat} {n k : Nat} (h : Row64 ws n) : ws.getD k 0 < 2 ^ 64 := by
 rw [List.getD_eq_getElem?_getD];cases hk : ws[k]? with
 | none => exact (by decide : (0 : Nat) < 2 ^ 64)
 | some x => exact h.2 x (List.mem_of_getElem? hk)
def bitW (W : List (List Nat)) (at_ r : Nat) : Bool := bitR (W.getD at_ []) r
def Rows64 (W : List (List Nat)) (N n : Nat) : Prop := W.length = N ∧ ∀ x ∈ W, Row64 x n
theorem Rows64.get {W : List (List Nat)} {N n k : Nat} (h : Rows64 W N n) (hk : k < N) : Row64 (W.getD k []) n := by
 rw [List.getD_eq_getElem?_getD, List.getElem?_eq_getElem (by rw [h.1]; exact hk)];exact h.2 _ (List.getElem_mem _)
theorem Rows64.set {W : List (List Nat)} {N n k : Nat} {row : List Nat} (h : Rows64 W N n) (hr : Row64 row n) : Rows64 (W.set k row) N n := by
 refine ⟨by rw [List.length_set]; exact h.1, fun y hy => ?_⟩;rcases List.mem_or_eq_of_mem_set hy with h1 | h1
 · exact h.2 y h1
 · subst h1; exact hr
theorem Rows64.zero (N n : Nat) : Rows64 (List.replicate N (List.replicate n 0)) N n := ⟨by simp, fun x hx => by rw [List.eq_of_mem_replicate hx]; exact Row64.zero n⟩
def orAt (W : List (List Nat)) (at_ k x : Nat) : List (List Nat) := W.set at_ ((W.getD at_ []).set k ((W.getD at_ []).getD k 0 ||| x))
def sumR : List Nat → Nat
 | [] => 0
 | x :: l => x + sumR l
def sumW : List (List Nat) → Nat
 | [] => 0
 | x :: l => sumR x + sumW l
/-! ### bits taken out -/
def andNot64 (x y : Nat) : Nat := (BitVec.ofNat 64 x &&& ~~~BitVec.ofNat 64 y).toNat
def clrR (ws : List Nat) (r : Nat) : List Nat := ws.set (r / 64) (andNot64 (ws.getD (r / 64) 0) (2 ^ (r % 64)))
def setR (ws : List Nat) (r : Nat) : List Nat := ws.set (r / 64) (ws.getD (r / 64) 0 ||| 2 ^ (r % 64))
/-! ### the registers that are live, as words -/
def SoundW (f : LFn) (W : List (List Nat)) : Prop := ∀ a r, bitW W a r = true → Liv f a r
def ReadsW (f : LFn) (W : List (List Nat)) : Prop := ∀ a i r, f.ins[a]? = some i → ((r : Nat) : Int) ∈ qy i → bitW W a r = true
def ClosedAt (f : LFn) (W : List (List Nat)) (a : Nat) : Prop := ∀ i t ws r, f.ins[a]? = some i → (((t : Nat) : Int), ws) ∈ waysL f a i → ((r : Nat) : Int) ∉ ws → bitW W t r = true → bitW W a r = true
/-! ### the law's three -/
def thrF : LFn := ⟨⟨#[]⟩, 0, 3, 0, false, 0, [], [(1, ⟨#[49]⟩)], [⟨3, 0, 0, 0, 0, 0, []⟩, ⟨3, 1, 0, 0, 0, 0, []⟩, ⟨14, 2, 0, 1, 0, 1, []⟩, ⟨41, 0, 2, 0, 0, 0, []⟩], []⟩
def thrW : Nat → List (Int × List Int)
 | 0 => [(1, [0])]
 | 1 => [(2, [1])]
 | 2 => [(3, [2])]
 | _ => []
def thrR : Nat → List Int
 | 2 => [0, 1]
 | 3 => [2]
 | _ => []
def thrB (a r : Nat) : Prop := (a = 1 ∧ r = 0) ∨ (a = 2 ∧ r < 2) ∨ (a = 3 ∧ r = 2)
/-! ### rows of numbers laid into lists -/
def upto (a m : Nat) : List Int := (List.range m).map fun j => ((a + j : Nat) : Int)
def conI (d : Nat) : LIns := ⟨3, (d : Int), 0, 0, 0, 0, []⟩
def lstI (d a m : Nat) : LIns := ⟨28, (d : Int), 0, 0, 0, 0, upto a m⟩
def retI (a : Nat) : LIns := ⟨41, 0, (a : Int), 0, 0, 0, []⟩
def apI (n k j : Nat) : LIns := if j < n then conI j else if j = n then lstI (n + k) 0 n else if j ≤ n + k then conI (j - 1) else if j = n + k + 1 then lstI (n + k) n k else retI (n + k)
def apL (n k j : Nat) : List LIns := (List.range j).map (apI n k)
def apF (n k : Nat) : LFn := ⟨⟨#[]⟩, 0, ((n + k + 2 : Nat) : Int), 0, false, 0, [], [(1, ⟨#[49]⟩)], apL n k (n + k + 3), []⟩
section
variable {n k : Nat} (hn : n ≤ 1000) (hk : k ≤ 1000)
include hn hk
end
end Go.Proofs.YtmjbnhjgebjhlaaDoor

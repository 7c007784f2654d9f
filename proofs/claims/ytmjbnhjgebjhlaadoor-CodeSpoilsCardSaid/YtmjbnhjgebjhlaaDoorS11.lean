/- Texts of this claim. -/
import Derived.Test.YtmjbnhjgebjhlaaDoorS10
import Derived.Laws.StructEq
namespace Go.Proofs.YtmjbnhjgebjhlaaDoor
open Go.RowKit
set_option maxRecDepth 100000
def PlainV (P : Program) (t : TypeId) (v : Value) : Prop := (∃ k k' n, P.underlying t = some (.int k') ∧ v = .int k n) ∨ (∃ s, P.underlying t = some .string ∧ v = .string s)
section
variable {P : Program} {w : World}
def PlainS (P : Program) (T : TypeId) (cs : Array Value) : Prop := P.underlying T = some (.struct (P.fieldsOf T)) ∧ P.stoodInHeld T = false ∧ P.eqGuardType P.depth T = false ∧ ∀ q ∈ (P.fieldsOf T).toList.map (fun f => (f.type, f.offset)), ∃ v, cs[q.2]? = some v ∧ PlainV P q.1 v
variable {N : Nat} {ops : Array Oper} {Q : Exit → Act → World → Prop} {σ : Env} {ty : TypeId} {pos : String} {af : Array Edge} {dst : Option Nat} {Post : Value → World → Prop}
end
/-! ### the structs of a function -/
def strV (xs : List ByteArray) : List Value := xs.map fun x => .string x
def conV (xs : List (Int × ByteArray)) : List Value := xs.flatMap fun x => [.int .i64 x.1, .string x.2]
def rgsV (xs : List LReg) : List Value := xs.flatMap regV
abbrev IB := LIns × Option Addr × Nat
def liV (x : IB) : Value := .slice x.2.1 x.1.l.length x.2.2
structure InsO (lo : Nat) (w : World) (A : Option Addr) (c : Nat) (is : List IB) : Prop where
 i : w.ownsRow lo 40 7 (.slice A is.length c) is.length (ju is)
 l : ∀ x ∈ is, w.ownsRow lo 3 1 (liV x) x.1.l.length (vm x.1.l)
 ap : ∀ (j k : Nat) x y, is[j]? = some x → is[k]? = some y → j ≠ k → ∀ q, (liV x).ownBlock = some q → (liV y).ownBlock ≠ some q
structure QP where
 an : Option Addr
 cn : Nat
 ac : Option Addr
 cc : Nat
 ai : Option Addr
 ci : Nat
 ar : Option Addr
 cr : Nat
 is : List IB
def QP.pl (q : QP) : Pl := ⟨q.an, q.cn, q.ac, q.cc, q.ai, q.ci, q.ar, q.cr⟩
structure FnO (lo : Nat) (w : World) (q : QP) (f : LFn) : Prop where
 names : w.ownsRow lo 9 1 (.slice q.an f.names.length q.cn) f.names.length (strV f.names)
 consts : w.ownsRow lo 55 2 (.slice q.ac f.consts.length q.cc) f.consts.length (conV f.consts)
 ins : InsO lo w q.ai q.ci q.is
 ise : q.is.map (·.1) = f.ins
 rgs : w.ownsRow lo 50 4 (.slice q.ar f.rgs.length q.cr) f.rgs.length (rgsV f.rgs)
structure FnI (f : LFn) : Prop where
 params : I64 f.params
 regs : I64 f.regs
 frees : I64 f.frees
 bound : I64 f.bound
 name : f.name.size ≤ maxLen
 nl : 16 * f.names.length ≤ 140737488351232
 ni : ∀ x ∈ f.names, x.size ≤ maxLen
 cl : 24 * f.consts.length ≤ 140737488351232
 ci : ∀ x ∈ f.consts, I64 x.1 ∧ x.2.size ≤ maxLen
 il : 72 * f.ins.length ≤ 140737488351304
 ii : ∀ x ∈ f.ins, InsI x ∧ 8 * x.l.length ≤ 140737488351232 ∧ ∀ y ∈ x.l, I64 y
 rl : 32 * f.rgs.length ≤ 140737488351232
 ri : ∀ x ∈ f.rgs, RegI x
theorem FnA.nums {n : Nat} {w : World} {p : Pl} {f : LFn} (h : FnA n w p f) : FnI f :=
 ⟨h.params, h.regs, h.frees, h.bound, h.name, h.names.len, h.names.in_, h.consts.len, h.consts.in_, h.ins.len, fun x hx => by
  obtain ⟨j, hj⟩ := List.mem_iff_getElem?.1 hx;obtain ⟨g, o, _, _, hc⟩ := h.ins.row.at hj;obtain ⟨hi, B, c, hl, hI, _⟩ := hc;exact ⟨hi, hl, hI.in_⟩, h.rgs.len, h.rgs.in_⟩
section
variable {lo : Nat} {w w' : World} {q : QP} {f : LFn} {X : Nat → Prop}
def zoz (q : QP) (f : LFn) (k : Nat) : Prop := (Value.slice q.an f.names.length q.cn).ownBlock = some k ∨ (Value.slice q.ac f.consts.length q.cc).ownBlock = some k ∨ (Value.slice q.ai q.is.length q.ci).ownBlock = some k ∨ (Value.slice q.ar f.rgs.length q.cr).ownBlock = some k ∨ ∃ x ∈ q.is, (liV x).ownBlock = some k
theorem FnO.bl (h : FnO lo w q f) {k : Nat} (hk : zoz q f k) : lo ≤ k ∧ k < w.heap.size := by
 rcases hk with hk | hk | hk | hk | ⟨x, hx, hk⟩
 · exact ⟨zhk h.names k hk, vi h.names k hk⟩
 · exact ⟨zhk h.consts k hk, vi h.consts k hk⟩
 · exact ⟨zhk h.ins.i k hk, vi h.ins.i k hk⟩
 · exact ⟨zhk h.rgs k hk, vi h.rgs k hk⟩
 · exact ⟨zhk (h.ins.l x hx) k hk, vi (h.ins.l x hx) k hk⟩
theorem FnO.ext (h : FnO lo w q f) (k : Ext X w w') (hX : ∀ b, zoz q f b → ¬ X b) : FnO lo w' q f :=
 ⟨qg h.names k fun b hb => hX b (Or.inl hb), qg h.consts k fun b hb => hX b (Or.inr (Or.inl hb)),
  ⟨qg h.ins.i k fun b hb => hX b (Or.inr (Or.inr (Or.inl hb))), fun x hx => qg (h.ins.l x hx) k fun b hb => hX b (Or.inr (Or.inr (Or.inr (Or.inr ⟨x, hx, hb⟩)))), h.ins.ap⟩,
  h.ise, qg h.rgs k fun b hb => hX b (Or.inr (Or.inr (Or.inr (Or.inl hb))))⟩
theorem FnO.no (h : FnO lo w q f) (k : Ext No w w') : FnO lo w' q f := h.ext k fun _ _ h => h.elim
theorem FnO.fn (h : FnO lo w q f) (hn : FnI f) : FnA w.heap.size w q.pl f := by
 have hil : q.is.length = f.ins.length := by rw [← h.ise, List.length_map]
 refine ⟨hn.params, hn.regs, hn.frees, hn.bound, hn.name, ⟨hn.nl, hn.ni, fun h0 => ?_⟩, ⟨hn.cl, hn.ci, fun h0 => ?_⟩, ⟨hn.il, fun h0 => ?_⟩, ⟨hn.rl, hn.ri, fun h0 => ?_⟩, Nat.le_refl _⟩
 · obtain ⟨g, hA, _, hg, hc⟩ := zuv h.names (List.length_pos_iff.2 h0);refine ⟨g, 0, hA, hg, fun j x hx => ?_⟩;show w.cell? ⟨g, 0 + j * 1, none⟩ = _
   rw [Nat.zero_add, Nat.mul_one];exact hc j _ (by unfold strV; rw [List.getElem?_map, hx]; rfl)
 · obtain ⟨g, hA, _, hg, hc⟩ := kv h.consts (List.length_pos_iff.2 h0);refine ⟨g, 0, hA, hg, fun j x hx i v hv => ?_⟩;rw [Nat.zero_add];exact hc _ _ (zjq (s := 2) (fun _ => rfl) hx hv)
 · obtain ⟨g, hA, _, hg, hc⟩ := kv h.ins.i (by rw [hil]; exact List.length_pos_iff.2 h0);have := insA_of (is := q.is) hg hc (by rw [hil]; exact hn.il) fun x hx => by
    have hm : x.1 ∈ f.ins := by rw [← h.ise]; exact List.mem_map_of_mem hx
    obtain ⟨h1, h2, h3⟩ := hn.ii _ hm;exact ⟨h1, h2, OwnsI.ints (h.ins.l x hx) (by omega) h3⟩
   rw [h.ise] at this;show ∃ g o, q.ai = _ ∧ _
   rw [hA];exact this.row h0
 · obtain ⟨g, hA, _, hg, hc⟩ := kv h.rgs (List.length_pos_iff.2 h0);refine ⟨g, 0, hA, hg, fun j x hx i v hv => ?_⟩;rw [Nat.zero_add];exact hc _ _ (zjq (s := 4) (fun _ => rfl) hx hv)
end
section
variable {P : Program} {N : Nat} {ops : Array Oper} {Q : Exit → Act → World → Prop} {σ : Env} {w : World} {ty : TypeId} {pos : String} {af : Array Edge} {dst : Option Nat} {Post : Value → World → Prop}
theorem zcz {T e : TypeId} {x y : Operand} {z : Value} {size bytes g m c B base : Nat} {A : Option Addr} {news : List Value} (hd : P.underlying T = some (.slice e)) (hi : zav P e z size bytes) (hzs : z.cells.size = size) (hsz : 0 < size)
 (hx : ev σ x = some (.slice (some ⟨g, 0, none⟩) 0 0)) (hy : ev σ y = some (.slice A m c)) (hB : Blk w g e #[]) (hb : base ≤ g) (hbw : base ≤ w.heap.size) (hr : Reads w B size A m news) (h1 : ∀ u ∈ news, u.oneCell' = true) (h63 : m ≤ maxLen) (hbytes : m * bytes ≤ 140737488355328)
 (k : ∀ A' c' w', Below w.heap.size w w' → w'.ownsRow base e size (.slice A' m c') m news → (∀ q, (Value.slice A' m c').ownBlock = some q → q = g ∨ w.heap.size ≤ q) → Post (.slice A' m c') w') :
 OW P N ops Q ⟨dst, .call ⟨.builtin .append, #[x, y], #[T, T]⟩, ty, pos, af, none⟩ σ w Post :=
 ow_appendE hd hi hzs hsz hx hy hr h1 h63 hbytes fun A' c' w' hw hO => by
  rcases hO with ⟨h0, hA, hc, hn⟩ | h
  · subst h0 hA hc hn;refine k _ _ _ hw ⟨by simp, Or.inr ⟨g, 0, #[], rfl, hb, hB.ext (Ext.of_below hw No) (fun h => h.elim), Nat.le_refl _, Nat.zero_le _, by simp, by simp⟩⟩ fun q hq => Or.inl ?_;exact (Option.some.inj hq).symm
  · exact k _ _ _ hw (oo h hbw) fun q hq => Or.inr (zhk h q hq)
end
theorem strV_one {xs : List ByteArray} : ∀ u ∈ strV xs, u.oneCell' = true := fun u hu => by
 obtain ⟨x, _, rfl⟩ := List.mem_map.1 hu;rfl
theorem conV_one {xs : List (Int × ByteArray)} : ∀ u ∈ conV xs, u.oneCell' = true := fun u hu => by
 obtain ⟨x, _, h⟩ := List.mem_flatMap.1 hu;rcases List.mem_cons.1 h with rfl | h
 · rfl
 · rw [List.mem_singleton.1 h]; rfl
theorem rgsV_one {xs : List LReg} : ∀ u ∈ rgsV xs, u.oneCell' = true := fun u hu => by
 obtain ⟨x, _, h⟩ := List.mem_flatMap.1 hu;unfold regV at h;simp only [List.mem_cons, List.not_mem_nil, or_false] at h
 rcases h with rfl | rfl | rfl | rfl <;> rfl
theorem yaz {α : Type} {en : α → List Value} {s : Nat} (hs : ∀ x, (en x).length = s) : ∀ (xs : List α), (xs.flatMap en).length = xs.length * s
 | [] => by simp
 | x :: xs => by rw [List.flatMap_cons, List.length_append, hs, yaz hs xs, List.length_cons, Nat.succ_mul]; omega
theorem zvz {α : Type} {en : α → List Value} {s n : Nat} {w : World} {A : Option Addr} {xs : List α} (hs : ∀ x, (en x).length = s) (h0 : 0 < s) (h : RowS n w s (fun w g o x => xp w g o (en x)) A xs) {B : Nat} (hB : n ≤ B) : Reads w B s A xs.length (xs.flatMap en) := by
 refine ⟨yaz hs xs, fun hx => ?_⟩;obtain ⟨g, o, e, hg, hc⟩ := h (fun e => by rw [e] at hx; simp at hx);refine ⟨_, e, by show g < B; omega, fun j u hj => ?_⟩;rw [Lib.add_plain];have hjl := (List.getElem?_eq_some_iff.1 hj).1;rw [yaz hs] at hjl;have hq : j / s < xs.length := Nat.div_lt_of_lt_mul (by rwa [Nat.mul_comm] at hjl)
 have hy : xs[j / s]? = some xs[j / s] := List.getElem?_eq_getElem hq;have hm : j % s < (en xs[j / s]).length := by rw [hs]; exact Nat.mod_lt _ h0
 have hv : (en xs[j / s])[j % s]? = some (en xs[j / s])[j % s] := List.getElem?_eq_getElem hm;have h2 := zjq hs hy hv;have e2 : j / s * s + j % s = j := by rw [Nat.mul_comm]; exact Nat.div_add_mod j s
 rw [e2, hj] at h2;have h3 := hc _ _ hy _ _ hv;rw [Nat.add_assoc, e2] at h3;rw [h3, h2]
theorem strV_flat : ∀ (xs : List ByteArray), (xs.flatMap fun x => [Value.string x]) = strV xs
 | [] => rfl
 | x :: xs => by rw [List.flatMap_cons, strV_flat xs]; rfl
theorem StrsA.reads {n : Nat} {w : World} {A : Option Addr} {xs : List ByteArray} (h : StrsA n w A xs) {B : Nat} (hB : n ≤ B) : Reads w B 1 A xs.length (strV xs) := by
 have := zvz (en := fun x => [.string x]) (s := 1) (fun _ => rfl) (by decide) (xs := xs) (A := A) (w := w) (n := n) (fun h0 => by
  obtain ⟨g, o, e, hg, hc⟩ := h.row h0;refine ⟨g, o, e, hg, fun j x hx i v hv => ?_⟩;match i, hv with
  | 0, hv =>
   obtain rfl := Option.some.inj hv;exact hc j x hx
  | i + 1, hv => cases hv) hB
 rwa [strV_flat] at this
theorem ConsA.reads {n : Nat} {w : World} {A : Option Addr} {xs : List (Int × ByteArray)} (h : ConsA n w A xs) {B : Nat} (hB : n ≤ B) : Reads w B 2 A xs.length (conV xs) := zvz (s := 2) (fun _ => rfl) (by decide) h.row hB
theorem RegsA.reads {n : Nat} {w : World} {A : Option Addr} {xs : List LReg} (h : RegsA n w A xs) {B : Nat} (hB : n ≤ B) : Reads w B 4 A xs.length (rgsV xs) := zvz (s := 4) (fun _ => rfl) (by decide) h.row hB
/-! ### instructions that grow -/
theorem InsO.nil {lo : Nat} {w : World} : InsO lo w none 0 [] := ⟨xc, fun x hx => (by cases hx), fun j k x y h => (by cases h)⟩
section
variable {lo : Nat} {w w1 : World} {A : Option Addr} {c : Nat} {is : List IB} {X : Nat → Prop}
theorem InsO.ext (h : InsO lo w A c is) (k : Ext X w w1) (hi : ∀ q, (Value.slice A is.length c).ownBlock = some q → ¬ X q) (hl : ∀ x ∈ is, ∀ q, (liV x).ownBlock = some q → ¬ X q) : InsO lo w1 A c is :=
 ⟨qg h.i k hi, fun x hx => qg (h.l x hx) k (hl x hx), h.ap⟩
theorem InsO.no (h : InsO lo w A c is) (k : Ext No w w1) : InsO lo w1 A c is := h.ext k (fun _ _ h => h.elim) fun _ _ _ _ h => h.elim
theorem InsO.other {base' n' s' : Nat} {e' : TypeId} {v' : Value} {xs' : List Value} (h : InsO lo w A c is) (h' : w.ownsRow base' e' s' v' n' xs') (h1 : 40 ≠ e') (h2 : 3 ≠ e') (k : Ext (Mut [v'.ownBlock]) w w1) : InsO lo w1 A c is :=
 ⟨qw h.i h' h1 k, fun x hx => qw (h.l x hx) h' h2 k, h.ap⟩
theorem InsO.blk {g' : Nat} {t : TypeId} {cs : Array Value} (h : InsO lo w A c is) (h' : Blk w g' t cs) (h1 : 40 ≠ t) (h2 : 3 ≠ t) (k : Ext (Mut [some g']) w w1) : InsO lo w1 A c is :=
 ⟨qb h.i h' h1 k, fun x hx => qb (h.l x hx) h' h2 k, h.ap⟩
theorem InsO.add {x : IB} {A' : Option Addr} {c' : Nat} (h : InsO lo w A c is) (hx : w.ownsRow lo 3 1 (liV x) x.1.l.length (vm x.1.l)) (hap : ∀ y ∈ is, ∀ q, (liV y).ownBlock = some q → (liV x).ownBlock ≠ some q)
 (h1 : w1.ownsRow lo 40 7 (.slice A' (is ++ [x]).length c') (is ++ [x]).length (ju (is ++ [x]))) (k : Ext (Mut [(Value.slice A is.length c).ownBlock]) w w1) : InsO lo w1 A' c' (is ++ [x]) := by
 refine ⟨h1, fun y hy => ?_, fun i j a b ha hb hij q hq => ?_⟩
 · rcases List.mem_append.1 hy with hy | hy
   · exact qw (h.l y hy) h.i (by decide) k
   · rw [List.mem_singleton.1 hy]; exact qw hx h.i (by decide) k
 · have key : ∀ (i : Nat) (a : IB), (is ++ [x])[i]? = some a → (i < is.length ∧ is[i]? = some a) ∨ (i = is.length ∧ a = x) := fun i a ha => by
    rcases Nat.lt_or_ge i is.length with h3 | h3
    · rw [List.getElem?_append_left h3] at ha;exact Or.inl ⟨h3, ha⟩
    · rw [List.getElem?_append_right h3] at ha;have h4 := (List.getElem?_eq_some_iff.1 ha).1;simp at h4
      have h5 : i = is.length := by omega
      subst h5;simp at ha
      exact Or.inr ⟨rfl, ha.symm⟩
   rcases key i a ha with ⟨_, ha2⟩ | ⟨e1, ea⟩
   · rcases key j b hb with ⟨_, hb2⟩ | ⟨e2, eb⟩
     · exact h.ap i j a b ha2 hb2 hij q hq
     · rw [eb]; exact hap a (List.mem_of_getElem? ha2) q hq
   · rcases key j b hb with ⟨_, hb2⟩ | ⟨e2, eb⟩
     · rw [ea] at hq;exact fun h2 => hap b (List.mem_of_getElem? hb2) q h2 hq
     · omega
end
theorem insCs_add (is : List IB) (x : IB) : ju is ++ zlz x.1 x.2.1 x.2.2 = ju (is ++ [x]) := by unfold ju; rw [List.flatMap_append]; simp
end Go.Proofs.YtmjbnhjgebjhlaaDoor
namespace Go.Proofs.YtmjbnhjgebjhlaaDoor
open Go.RowKit
set_option maxRecDepth 100000
attribute [local irreducible] OW RS
def fcC (f : LFn) (an : Option Addr) (cn : Nat) (ac : Option Addr) (cc : Nat) (A : Option Addr) (n c : Nat) (ar : Option Addr) (cr rn : Nat) (regs : Int) : Array Value := #[.string f.name, .int .i64 f.params, .int .i64 regs, .int .i64 f.frees, .bool f.gen, .int .i64 f.bound, .slice an f.names.length cn, .slice ac f.consts.length cc, .slice A n c, .slice ar rn cr]
structure CM (lo g1 g2 : Nat) (z2 : Array Value) (f : LFn) (an : Option Addr) (cn : Nat) (ac : Option Addr) (cc : Nat) (ar : Option Addr) (cr : Nat) (rs : List LReg) (regs : Int) (A : Option Addr) (c : Nat) (is : List IB) (w : World) : Prop where
 fb : Blk w g1 37 (fcC f an cn ac cc A is.length c ar cr rs.length regs)
 names : w.ownsRow lo 9 1 (.slice an f.names.length cn) f.names.length (strV f.names)
 consts : w.ownsRow lo 55 2 (.slice ac f.consts.length cc) f.consts.length (conV f.consts)
 rgs : w.ownsRow lo 50 4 (.slice ar rs.length cr) rs.length (rgsV rs)
 ins : InsO lo w A c is
 gb : Blk w g2 37 z2
 h12 : g1 ≠ g2
section
variable {lo g1 g2 : Nat} {z2 : Array Value} {f : LFn} {an : Option Addr} {cn : Nat} {ac : Option Addr} {cc : Nat} {ar : Option Addr} {cr : Nat} {rs : List LReg} {regs : Int} {A : Option Addr} {c : Nat} {is : List IB} {w w1 w2 : World}
theorem CM.no (h : CM lo g1 g2 z2 f an cn ac cc ar cr rs regs A c is w) (k : Ext No w w1) : CM lo g1 g2 z2 f an cn ac cc ar cr rs regs A c is w1 :=
 ⟨h.fb.ext k (fun h => h.elim), qg h.names k (fun _ _ h => h.elim), qg h.consts k (fun _ _ h => h.elim), qg h.rgs k (fun _ _ h => h.elim), h.ins.no k, h.gb.ext k (fun h => h.elim), h.h12⟩
theorem CM.late {X : Nat → Prop} (h : CM lo g1 g2 z2 f an cn ac cc ar cr rs regs A c is w) (k : Ext X w w1) (hX : ∀ q, X q → w.heap.size ≤ q) : CM lo g1 g2 z2 f an cn ac cc ar cr rs regs A c is w1 := by
 have hl : ∀ q, q < w.heap.size → ¬ X q := fun q hq hm => by have := hX q hm; omega
 exact ⟨h.fb.ext k (hl _ h.fb.lt), qg h.names k fun q hq => hl q (vi h.names q hq), qg h.consts k fun q hq => hl q (vi h.consts q hq), qg h.rgs k fun q hq => hl q (vi h.rgs q hq), h.ins.ext k (fun q hq => hl q (vi h.ins.i q hq)) fun x hx q hq => hl q (vi (h.ins.l x hx) q hq), h.gb.ext k (hl _ h.gb.lt), h.h12⟩
theorem CM.lt (h : CM lo g1 g2 z2 f an cn ac cc ar cr rs regs A c is w) {x : IB} (hx : x ∈ is) {q : Nat} (hq : (liV x).ownBlock = some q) : q < w.heap.size := vi (h.ins.l x hx) q hq
theorem CM.put {x : IB} {A' : Option Addr} {c' : Nat} (h : CM lo g1 g2 z2 f an cn ac cc ar cr rs regs A c is w) (hx : w.ownsRow lo 3 1 (liV x) x.1.l.length (vm x.1.l)) (hap : ∀ y ∈ is, ∀ q, (liV y).ownBlock = some q → (liV x).ownBlock ≠ some q)
 (h1 : w1.ownsRow lo 40 7 (.slice A' (is ++ [x]).length c') (is ++ [x]).length (ju (is ++ [x]))) (k1 : Ext (Mut [(Value.slice A is.length c).ownBlock]) w w1) (h2 : Blk w2 g1 37 (fcC f an cn ac cc A' (is ++ [x]).length c' ar cr rs.length regs)) (k2 : Ext (Mut [some g1]) w1 w2) : CM lo g1 g2 z2 f an cn ac cc ar cr rs regs A' c' (is ++ [x]) w2 := by
 have hb1 := zsk h.fb h.ins.i (by decide) k1
 exact ⟨h2, qb (qw h.names h.ins.i (by decide) k1) hb1 (by decide) k2, qb (qw h.consts h.ins.i (by decide) k1) hb1 (by decide) k2, qb (qw h.rgs h.ins.i (by decide) k1) hb1 (by decide) k2, (h.ins.add hx hap h1 k1).blk hb1 (by decide) (by decide) k2, (zsk h.gb h.ins.i (by decide) k1).ext k2 (fun hm => h.h12 (kq hm).symm), h.h12⟩
end
section
variable {lo g1 g2 : Nat} {z2 : Array Value} {f : LFn} {an : Option Addr} {cn : Nat} {ac : Option Addr} {cc : Nat} {ar : Option Addr} {cr : Nat} {rs : List LReg} {regs : Int} {A : Option Addr} {c : Nat} {is : List IB} {w w1 w2 : World}
end
def RetFn (w : World) (f : LFn) : Ending → World → Prop := fun e w' => ∃ q, e = .returned (fnV q.pl f) ∧ FnO w.heap.size w' q f ∧ Below w.heap.size w w'
section
variable (w : World) (p : Pl) (f : LFn) (n0 : Nat) (hF : FnA n0 w p f)
include hF
theorem copy_any : Calls Tryd.prog 15 #[fnV p f] w (RetFn w f) := by
 have hn0 := hF.size;have hnl := hF.names.len;have hcl := hF.consts.len;have hil := hF.ins.len;have hrl := hF.rgs.len;obtain ⟨lo, hlo⟩ : ∃ lo, lo = w.heap.size := ⟨_, rfl⟩;refine yk Tryd.func15 rfl Tryd.ntmps15 rfl (srx (za rfl (jx rfl ?_)));rintro g1 wA B1 E1 G1;refine za rfl (va zr37 ?_);rintro g2 wB B2 E2 G2
 have B1b : Blk wB g1 37 (fcC f p.an p.cn p.ac p.cc p.ai f.ins.length p.ci p.ar p.cr f.rgs.length f.regs) := B1.ext E2 (fun h => h.elim);have h12 : g1 < g2 := by have := B1.lt; omega
 have hs1 := E1.size;have hs2 := E2.size;have hx2 : ∀ q, q ≠ g1 → ¬ Mut [some g1] q := fun q hq hm => hq (kq hm);have hEB : Ext (fun q => lo ≤ q) w wB := (E1.mono (Y := fun q => lo ≤ q) (fun _ h _ => h.elim)).step E2 (fun _ h => h.elim);refine rnx (srx (za rfl (zqx Tryd.underlying32 sz9 zr9 ?_)));rintro g3 wC B3 hb Gq;have E3 := Ext.of_below hb No
 have B1c := B1b.ext E3 (fun h => h.elim);have hEC := hEB.step E3 (fun _ h => h.elim);have hFC := hF.low (X := fun q => lo ≤ q) ⟨hEC, fun q hq => by have hq : lo ≤ q := hq; omega⟩
 refine za rfl (zb Tryd.underlying37 rfl sz32 (by decide) rfl (za rfl (zl Tryd.underlying32 rfl rfl B1c rfl (za rfl (zcz Tryd.underlying32 inf9 rfl (by decide) rfl rfl B3 (show lo ≤ g3 by omega) (by have := E3.size; omega) (hFC.names.reads hFC.size) strV_one (by unfold maxLen; omega) (by omega) ?_)))));rintro an cn wD hb ON Nq;have E4 := Ext.of_below hb No
 have B1d := B1c.ext E4 (fun h => h.elim);refine za rfl (zb Tryd.underlying37 rfl sz32 (by decide) rfl (yu (qa (cs' := fcC f an cn p.ac p.cc p.ai f.ins.length p.ci p.ar p.cr f.rgs.length f.regs) sz32 rfl rfl B1d rfl rfl (Nat.le_of_ble_eq_true rfl) rfl ?_)));rintro wE B1e E5;have ON5 := qb ON B1d (by decide) E5
 have hE5 := (hEC.step E4 (fun _ h => h.elim)).step E5 (fun q hq => Or.inl (show lo ≤ q by have := kq hq; omega));refine rnx (srx (za rfl (zqx Tryd.underlying33 sz55 zr55 ?_)));rintro g4 wF B4 hb Gq2;have E6 := Ext.of_below hb No;have B1f := B1e.ext E6 (fun h => h.elim);have hE6 := hE5.step E6 (fun _ h => h.elim)
 have hF6 := hF.low (X := fun q => lo ≤ q) ⟨hE6, fun q hq => by have hq : lo ≤ q := hq; omega⟩
 refine za rfl (zb Tryd.underlying37 rfl sz33 (by decide) rfl (za rfl (zl Tryd.underlying33 rfl rfl B1f rfl (za rfl (zcz Tryd.underlying33 inf55 rfl (by decide) rfl rfl B4 (show lo ≤ g4 by have := hE5.size; omega) (by have := hE6.size; omega) (hF6.consts.reads hF6.size) conV_one (by unfold maxLen; omega) (by omega) ?_)))));rintro ac cc wG hb OC Nq2
 have E7 := Ext.of_below hb No;have B1g := B1f.ext E7 (fun h => h.elim);refine za rfl (zb Tryd.underlying37 rfl sz33 (by decide) rfl (yu (qa (cs' := fcC f an cn ac cc p.ai f.ins.length p.ci p.ar p.cr f.rgs.length f.regs) sz33 rfl rfl B1g rfl rfl (Nat.le_of_ble_eq_true rfl) rfl ?_)));rintro wH B1h E8;have OC8 := qb OC B1g (by decide) E8
 have ON8 := qb (qg (qg ON5 E6 (fun _ _ h => h.elim)) E7 (fun _ _ h => h.elim)) B1g (by decide) E8;have hE8 := (hE6.step E7 (fun _ h => h.elim)).step E8 (fun q hq => Or.inl (show lo ≤ q by have := kq hq; omega));refine rnx (srx (za rfl (zqx Tryd.underlying35 sz50 zr50 ?_)));rintro g5 wI B5 hb Gq3;have E9 := Ext.of_below hb No
 have B1i := B1h.ext E9 (fun h => h.elim);have hE9 := hE8.step E9 (fun _ h => h.elim);have hF9 := hF.low (X := fun q => lo ≤ q) ⟨hE9, fun q hq => by have hq : lo ≤ q := hq; omega⟩
 refine za rfl (zb Tryd.underlying37 rfl sz35 (by decide) rfl (za rfl (zl Tryd.underlying35 rfl rfl B1i rfl (za rfl (zcz Tryd.underlying35 inf50 rfl (by decide) rfl rfl B5 (show lo ≤ g5 by have := hE8.size; omega) (by have := hE9.size; omega) (hF9.rgs.reads hF9.size) rgsV_one (by unfold maxLen; omega) (by omega) ?_)))));rintro ar cr wJ hb OR Nq3
 have E10 := Ext.of_below hb No;have B1j := B1i.ext E10 (fun h => h.elim);refine za rfl (zb Tryd.underlying37 rfl sz35 (by decide) rfl (yu (qa (cs' := fcC f an cn ac cc p.ai f.ins.length p.ci ar cr f.rgs.length f.regs) sz35 rfl rfl B1j rfl rfl (Nat.le_of_ble_eq_true rfl) rfl ?_)));rintro wK B1k E11;have OR11 := qb OR B1j (by decide) E11
 have OC11 := qb (qg (qg OC8 E9 (fun _ _ h => h.elim)) E10 (fun _ _ h => h.elim)) B1j (by decide) E11;have ON11 := qb (qg (qg ON8 E9 (fun _ _ h => h.elim)) E10 (fun _ _ h => h.elim)) B1j (by decide) E11;have hE11 := (hE9.step E10 (fun _ h => h.elim)).step E11 (fun q hq => Or.inl (show lo ≤ q by have := kq hq; omega))
 refine rnx (srx (za rfl (zb Tryd.underlying37 rfl og (by decide) rfl (za rfl (zl Tryd.underlying34 rfl rfl B1k rfl (anx rfl (srx (za rfl (zb Tryd.underlying37 rfl og (by decide) rfl (yu (qa (cs' := fcC f an cn ac cc none 0 0 ar cr f.rgs.length f.regs) og rfl rfl B1k rfl rfl (Nat.le_of_ble_eq_true rfl) rfl ?_)))))))))));rintro wL B1l E12
 have hXL : Ext (Mut [some g1]) wB wL := (((((((((E3.mono (Y := Mut [some g1]) (fun _ h _ => h.elim)).step E4 (fun _ h => h.elim)).step E5 (fun _ h => Or.inl h)).step E6 (fun _ h => h.elim)).step E7 (fun _ h => h.elim)).step E8 (fun _ h => Or.inl h)).step E9 (fun _ h => h.elim)).step E10 (fun _ h => h.elim)).step E11 (fun _ h => Or.inl h)).step E12 (fun _ h => Or.inl h)
 obtain ⟨z2, hz2⟩ : ∃ z2, Blk wB g2 37 z2 ∧ z2.size = 10 := ⟨_, B2, rfl⟩;have M0 : CM lo g1 g2 z2 f an cn ac cc ar cr f.rgs f.regs none 0 [] wL := ⟨B1l, qb ON11 B1k (by decide) E12, qb OC11 B1k (by decide) E12, qb OR11 B1k (by decide) E12, InsO.nil, hz2.1.ext hXL (hx2 g2 (by omega)), Nat.ne_of_lt h12⟩
 have hE12 := hE11.step E12 (fun q hq => Or.inl (show lo ≤ q by have := kq hq; omega))
 refine rnx (zf (srx (anx rfl (zy (qq (ι := Nat × List IB × Option Addr × Nat) (fun (i, is, A, c) => [(1, .pointer (some ⟨g1, 0, none⟩)), (2, .pointer (some ⟨g2, 0, none⟩)), (3, .slice p.ai f.ins.length p.ci), (4, .int .i64 ((i : Nat) : Int))]) (fun (i, is, A, c) w' => i ≤ f.ins.length ∧ Ext (fun q => lo ≤ q) w w' ∧ CM lo g1 g2 z2 f an cn ac cc ar cr f.rgs f.regs A c is w' ∧ is.map (·.1) = f.ins.take i) (fun (i, _) => f.ins.length - i) (0, [], none, 0) ⟨rfl, rfl, rfl, rfl, trivial⟩ (⟨Nat.zero_le _, hE12, M0, rfl⟩) ?_)))))
 rintro ⟨i, is, A, c⟩ w2 ⟨hil2, hEi, Mi, hisi⟩;have hisl : is.length = i := by have h := congrArg List.length hisi; rw [List.length_map, List.length_take] at h; omega
 refine zf (srx (mvx rfl (mvx rfl (za rfl (vj Tryd.underlying34 rfl (za rfl (yv rfl rfl (rnx (zt rfl (fun hi => ?_) (fun hi => ?_))))))))))
 ·
  have hi := of_decide_eq_true hi;have hilt : i < f.ins.length := by omega
  obtain ⟨x, hx⟩ : ∃ x, f.ins[i]? = some x := ⟨_, List.getElem?_eq_getElem hilt⟩;have hFi := hF.low (X := fun q => lo ≤ q) ⟨hEi, fun q hq => by have hq : lo ≤ q := hq; omega⟩;obtain ⟨gi, oi, hAi, hgi, hcx⟩ := hFi.ins.row.at hx;obtain ⟨hI, B, cB, hcB, hl, hcells⟩ := hcx;have hsz := hEi.size;obtain ⟨wi, hwi⟩ : ∃ wi, wi = w2 := ⟨_, rfl⟩;subst hwi
  refine zk (ze (zf (zy (srx (mvx rfl (mvx rfl (za rfl (qh (j := i) Tryd.underlying34 oe (congrArg (fun z ↦ some (Value.slice z f.ins.length p.ci)) hAi) rfl rfl hilt (za rfl (ow (cs := (zlz x B cB).toArray) Tryd.underlying40 rfl oe rfl rfl (fun j v hj ↦ hcells j v (by simpa using hj)) (za rfl (va zr40 ?_))))))))))));rintro g5 wM B50 E13 G5
  refine yu (gk oe rfl rfl B50 rfl rfl rfl ?_);rintro wN B5 E14;have hE14 := (hEi.step E13 (fun _ h => h.elim)).step E14 (fun q hq => Or.inl (show lo ≤ q by have := kq hq; omega));refine rnx (srx (za rfl (zqx Tryd.underlying38 sz3 zr3 ?_)));rintro g6 wO B6 hb Gq6;have E15 := Ext.of_below hb No;have B5b := B5.ext E15 (fun h => h.elim)
  have hE15 := hE14.step E15 (fun _ h => h.elim);have hF15 := hF.low (X := fun q => lo ≤ q) ⟨hE15, fun q hq => by have hq : lo ≤ q := hq; omega⟩;have hl15 : IntsA n0 wO B x.l := ((hl.low (X := No) ⟨E13, fun _ h => h.elim⟩).low (X := Mut [some g5]) ⟨E14, fun q hq => by have := kq hq; omega⟩).low (X := No) ⟨E15, fun _ h => h.elim⟩
  refine za rfl (zb Tryd.underlying40 rfl sz38 (by decide) rfl (za rfl (zl Tryd.underlying38 rfl rfl B5b rfl (za rfl (zcz Tryd.underlying38 inf3 rfl (by decide) rfl rfl B6 (show lo ≤ g6 by have := hE14.size; omega) (by have := hE15.size; omega) (hl15.reads hF15.size) znx (by unfold maxLen; omega) (by omega) ?_)))));rintro A4 c4 wP hb OL Nq4
  have E16 := Ext.of_below hb No;have B5c := B5b.ext E16 (fun h => h.elim);refine za rfl (zb Tryd.underlying40 rfl sz38 (by decide) rfl (yu (qa (cs' := (zlz x A4 c4).toArray) sz38 rfl rfl B5c rfl rfl (Nat.le_of_ble_eq_true rfl) rfl ?_)));rintro wQ B5d E17;have hg5 : ∀ q, Mut [some g5] q → wi.heap.size ≤ q := fun q hq => by have := kq hq; omega
  have hK : Ext (fun q => wi.heap.size ≤ q) wi wQ := ((((E13.mono (Y := fun q => wi.heap.size ≤ q) (fun _ h _ => h.elim)).step E14 (fun q hq => Or.inl (hg5 q hq))).step E15 (fun _ h => h.elim)).step E16 (fun _ h => h.elim)).step E17 (fun q hq => Or.inl (hg5 q hq));have M3 := Mi.late hK (fun _ h => h);have OL17 := qb OL B5c (by decide) E17
  have hE17 := hEi.step hK (fun q hq => Or.inl (show lo ≤ q by have hq : wi.heap.size ≤ q := hq; omega));obtain ⟨x9, hx9⟩ : ∃ x9 : IB, x9 = (x, A4, c4) := ⟨_, rfl⟩;have hO9 : wQ.ownsRow lo 3 1 (liV x9) x9.1.l.length (vm x9.1.l) := by rw [hx9]; exact OL17
  have hap9 : ∀ y ∈ is, ∀ q, (liV y).ownBlock = some q → (liV x9).ownBlock ≠ some q := fun y hy q hq h9 => by
   have h1 := Mi.lt hy hq;rw [hx9] at h9;have h13 := E13.size;have h14 := E14.size;have h15 := E15.size;rcases Nq4 q h9 with h | h
   · omega
   · omega
  have hl9 : (is ++ [x9]).length = is.length + 1 := by rw [List.length_append]; rfl
  refine rnx (zj (za rfl (zb Tryd.underlying37 rfl og (by decide) rfl (za rfl (zl Tryd.underlying34 rfl rfl M3.fb rfl (za rfl (vh Tryd.underlying40 rfl oe rfl B5d rfl (za rfl (qn (cs := #[.int .i64 x.op, .int .i64 x.d, .int .i64 x.a, .int .i64 x.b, .int .i64 x.t, .int .i64 x.k, .slice A4 x.l.length c4]) Tryd.underlying34 oe zr40 (by decide) rfl (fill1x7 (.int .i64 x.op) (.int .i64 x.d) (.int .i64 x.a) (.int .i64 x.b) (.int .i64 x.t) (.int .i64 x.k) (.slice A4 x.l.length c4)) ?_)))))))))
  rintro g7 wR B7 E18 G7;have M4 := M3.no E18;have hO18 := qg hO9 E18 (fun _ _ h => h.elim)
  refine za rfl (zhv (n' := (is ++ [x9]).length) (xs' := ju (is ++ [x9])) Tryd.underlying34 inf40 rfl (by decide) rfl M4.ins.i rfl (zuk B7 B7.lt rfl) (by simp [Value.oneCell']) hl9.symm (by rw [← insCs_add, hx9]; rfl) (by rw [hl9]; unfold maxLen; omega) (by rw [hl9]; omega) (by have := hE17.size; have := E18.size; omega) ?_);rintro A5 c5 wS O5 E19 N5
  have Bf := zsk M4.fb M4.ins.i (by decide) E19;refine za rfl (zb Tryd.underlying37 rfl og (by decide) rfl (yu (qa (cs' := fcC f an cn ac cc A5 (is ++ [x9]).length c5 ar cr f.rgs.length f.regs) og rfl rfl Bf rfl rfl (Nat.le_of_ble_eq_true rfl) rfl ?_)));rintro wT Bs E20;have M5 := M4.put hO18 hap9 O5 E19 Bs E20
  have hE20 := ((hE17.step E18 (fun _ h => h.elim)).step E19 (fun q hq => Or.inl (show lo ≤ q from own_ge M4.ins.i q hq))).step E20 (fun q hq => Or.inl (show lo ≤ q by have := kq hq; omega));refine yd (zm (ze (zj (mvx rfl (za rfl (yh rfl rfl (zo (by omega)) (avx rfl (yd ?_))))))))
  exact yn (i + 1, is ++ [x9], A5, c5) (by show f.ins.length - (i + 1) < f.ins.length - i; omega) ⟨rfl, rfl, rfl, rfl, trivial⟩ (⟨hilt, hE20, M5, by rw [List.map_append, hisi, List.take_add_one, hx, hx9]; rfl⟩)
 ·
  have hi := of_decide_eq_false hi;have hie : i = f.ins.length := by omega
  rw [hie, List.take_length] at hisi;refine yo (zh (zh (zu (ze (srx (za rfl (vh Tryd.underlying37 rfl ztx rfl Mi.fb rfl (yu (gk ztx rfl rfl Mi.gb rfl rfl hz2.2.symm ?_)))))))));rintro wU Bz E21
  have hFO : FnO lo wU ⟨an, cn, ac, cc, A, c, ar, cr, is⟩ f := ⟨qb Mi.names Mi.gb (by decide) E21, qb Mi.consts Mi.gb (by decide) E21, Mi.ins.blk Mi.gb (by decide) (by decide) E21, hisi, qb Mi.rgs Mi.gb (by decide) E21⟩;have hFin := hEi.step E21 (fun q hq => Or.inl (show lo ≤ q by have := kq hq; omega))
  have hisn : is.length = f.ins.length := by rw [← hisi, List.length_map]
  refine rnx (zr (zq (rs := [.cell 2 37]) (vs := [_]) rfl ⟨⟨_, rfl, jq Tryd.underlying37 rfl ztx Bz rfl⟩, trivial⟩ ?_));exact ⟨⟨an, cn, ac, cc, A, c, ar, cr, is⟩, by rw [hisn]; rfl, hlo ▸ hFO, hFin.below (fun q h => by rw [hlo] at h; exact h)⟩
end
end Go.Proofs.YtmjbnhjgebjhlaaDoor
namespace Go.Proofs.YtmjbnhjgebjhlaaDoor
open Go.RowKit
set_option maxRecDepth 100000
attribute [local irreducible] OW RS
theorem same_ints (w : World) (A A' : Option Addr) (c c' n n' : Nat) (xs : List Int) (h : IntsA n w A xs) (h' : IntsA n' w A' xs) : Calls Tryd.prog 11 #[.slice A xs.length c, .slice A' xs.length c'] w fun e w' => e = .returned (.bool true) ∧ Below w.heap.size w w' := by
 obtain ⟨w0, hw0⟩ : ∃ w0, w0 = w := ⟨_, rfl⟩;have hlen := h.len
 refine yk Tryd.func11 rfl Tryd.ntmps11 rfl (srx (anx rfl (zf (srx (mvx rfl (za rfl (vj Tryd.underlying38 rfl (mvx rfl (za rfl (vj Tryd.underlying38 rfl (za rfl (qj rfl rfl (rnx (zv 10 (.bool false) rfl ((by rw [bne_self_eq_false] : (.bool ((((xs.length : Nat)) : Int) != (((xs.length : Nat)) : Int)) : Value) = _)) (zx rfl (zk (ze (zf (srx (anx rfl (zy (qq (ι := Nat) (fun i => [(0, .slice A xs.length c), (1, .slice A' xs.length c'), (5, .int .i64 ((i : Nat) : Int))]) (fun i w' => i ≤ xs.length ∧ Ext No w0 w') (fun i => xs.length - i) 0 ⟨rfl, rfl, rfl, trivial⟩ (⟨Nat.zero_le _, by rw [hw0]; exact Ext.refl _ _⟩) ?_))))))))))))))))))))))
 rintro i w2 ⟨hi0, hEi⟩;refine zf (srx (mvx rfl (mvx rfl (za rfl (vj Tryd.underlying38 rfl (za rfl (yv rfl rfl (rnx (zt rfl (fun hi => ?_) (fun hi => ?_))))))))))
 ·
  have hi := of_decide_eq_true hi;have hil : i < xs.length := by omega
  obtain ⟨x, hx⟩ : ∃ x, xs[i]? = some x := ⟨_, List.getElem?_eq_getElem hil⟩;rw [hw0] at hEi;have hz := h.low (X := No) ⟨hEi, fun _ h => h.elim⟩;have hz' := h'.low (X := No) ⟨hEi, fun _ h => h.elim⟩;obtain ⟨g, o, hA, hg, hc⟩ := hz.cell hx;obtain ⟨g', o', hA', hg', hc'⟩ := hz'.cell hx;refine zk (ze (zf (zy (zf ?_))))
  refine vt (No) Mut.none_ [] [] (xy [Fx.of (.slice A xs.length c),
   Fx.of (.int .i64 ((i : Nat) : Int)),
   Fx.of (.pointer (some ⟨g, o + i, none⟩)),
   Fx.of (.int .i64 x),
   Fx.of (.slice A' xs.length c'),
   Fx.of (.int .i64 ((i : Nat) : Int)),
   Fx.of (.pointer (some ⟨g', o' + i, none⟩)),
   Fx.of (.int .i64 x),
   Fx.of (.bool false)]) mixed rfl trivial (fun _ h => by cases h) ?_ ?_
  · refine ⟨?_, ?_, ?_, ?_, ?_, ?_, ?_, ?_, ?_, trivial⟩
    · intro vs X wq K;exact zn rfl ⟨Below.refl _ _, Left.of rfl⟩
    · intro vs X wq K;exact zn rfl ⟨Below.refl _ _, Left.of rfl⟩
    · intro vs X wq K;obtain ⟨_, e0, k0⟩ := K.dep 0 rfl rfl rfl;refine zi 17 (.slice A xs.length c) rfl e0 ?_;obtain ⟨_, e1, k1⟩ := K.dep 1 rfl rfl rfl;refine zi 18 (.int .i64 ((i : Nat) : Int)) rfl e1 ?_;exact xr (j := i) Tryd.underlying38 sz3 (congrArg (fun z ↦ some (Value.slice z xs.length c)) hA) rfl rfl hil ⟨Below.refl _ _, Left.of rfl⟩
    · intro vs X wq K;have LE := K.1;obtain ⟨_, e2, k2⟩ := K.dep 2 rfl rfl rfl;refine zi 19 (.pointer (some ⟨g, o + i, none⟩)) rfl e2 ?_;exact yi Tryd.underlying3 rfl rfl (cell_z LE (fun h ↦ h) hc) ⟨Below.refl _ _, Left.of rfl⟩
    · intro vs X wq K;exact zn rfl ⟨Below.refl _ _, Left.of rfl⟩
    · intro vs X wq K;exact zn rfl ⟨Below.refl _ _, Left.of rfl⟩
    · intro vs X wq K;obtain ⟨_, e4, k4⟩ := K.dep 4 rfl rfl rfl;refine zi 21 (.slice A' xs.length c') rfl e4 ?_;obtain ⟨_, e5, k5⟩ := K.dep 5 rfl rfl rfl;refine zi 22 (.int .i64 ((i : Nat) : Int)) rfl e5 ?_;exact xr (j := i) Tryd.underlying38 sz3 (congrArg (fun z ↦ some (Value.slice z xs.length c')) hA') rfl rfl hil ⟨Below.refl _ _, Left.of rfl⟩
    · intro vs X wq K;have LE := K.1;obtain ⟨_, e6, k6⟩ := K.dep 6 rfl rfl rfl;refine zi 23 (.pointer (some ⟨g', o' + i, none⟩)) rfl e6 ?_;exact yi Tryd.underlying3 rfl rfl (cell_z LE (fun h ↦ h) hc') ⟨Below.refl _ _, Left.of rfl⟩
    · intro vs X wq K;obtain ⟨_, e3, k3⟩ := K.dep 3 rfl rfl rfl;refine zi 20 (.int .i64 x) rfl e3 ?_;obtain ⟨_, e7, k7⟩ := K.dep 7 rfl rfl rfl;refine zi 24 (.int .i64 x) rfl e7 ?_;exact qj rfl rfl ⟨Below.refl _ _, Left.of ((by rw [bne_self_eq_false] : (.bool (x != x) : Value) = _))⟩
  intro vs w3 LE AO AL AF AA;have hbd : Below (w2).heap.size (w2) w3 := (((Ext.refl No (w2)).drew).trans LE).toBelow;obtain ⟨_, e8, k8⟩ := AL.2.2.2.2.2.2.2.2.1;refine ja (τ := [(0, _), (1, _), (5, _), (25, .bool false)]) ⟨rfl, rfl, rfl, congrArg some e8, trivial⟩ ?_;clear AL AF AA AO
  refine ze (zx rfl (zk (zm (ze (zj (mvx rfl (za rfl (yh rfl rfl (zo (by omega)) (avx rfl (yd ?_))))))))));exact yn (i + 1) (by show xs.length - (i + 1) < xs.length - i; omega) ⟨rfl, rfl, rfl, trivial⟩ (⟨hil, by rw [hw0]; exact hEi.trans (Ext.of_below hbd No)⟩)
 ·
  refine yo (zh (zh (zu (ze (srx (anx rfl (zr (zq (rs := [.tmp 4]) (vs := [_]) rfl ⟨rfl, trivial⟩ ?_))))))));exact ⟨rfl, by rw [hw0] at hEi; exact hEi.toBelow⟩
end Go.Proofs.YtmjbnhjgebjhlaaDoor

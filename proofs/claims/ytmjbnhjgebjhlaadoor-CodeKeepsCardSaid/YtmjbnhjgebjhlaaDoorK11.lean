/- Texts of this claim. -/
import Derived.Test.YtmjbnhjgebjhlaaDoorK10
import Derived.Laws.StructEq
namespace Go.Proofs.YtmjbnhjgebjhlaaDoor
open Go.RowKit
set_option maxRecDepth 100000
def PlainV (P : Program) (t : TypeId) (v : Value) : Prop := (∃ k k' n, P.underlying t = some (.int k') ∧ v = .int k n) ∨ (∃ s, P.underlying t = some .string ∧ v = .string s)
section
variable {P : Program} {w : World}
def PlainS (P : Program) (T : TypeId) (cs : Array Value) : Prop := P.underlying T = some (.struct (P.fieldsOf T)) ∧ P.stoodInHeld T = false ∧ P.eqGuardType P.depth T = false ∧ ∀ q ∈ (P.fieldsOf T).toList.map (fun f => (f.type, f.offset)), ∃ v, cs[q.2]? = some v ∧ PlainV P q.1 v
variable {N : Nat} {ops : Array Oper} {Q : Exit → Act → World → Prop} {σ : Env} {ty : TypeId} {pos : String} {af : Array Edge} {dst : Option Nat} {Post : Value → World → Prop}
end
/-! ### the structs of a function -/
end Go.Proofs.YtmjbnhjgebjhlaaDoor
namespace Go.Proofs.YtmjbnhjgebjhlaaDoor
open Go.RowKit
set_option maxRecDepth 100000
attribute [local irreducible] OW RS
theorem ybk (w : World) (A A' : Option Addr) (c c' n n' : Nat) (xs : List Int) (h : IntsA n w A xs) (h' : IntsA n' w A' xs) : Calls Tryd.prog 11 #[.slice A xs.length c, .slice A' xs.length c'] w fun e w' => e = .returned (.bool true) ∧ Below w.heap.size w w' := by
 obtain ⟨w0, hw0⟩ : ∃ w0, w0 = w := ⟨_, rfl⟩;have hlen := h.len
 refine yl Tryd.func11 rfl Tryd.ntmps11 rfl (srx (anx rfl (zf (srx (mvx rfl (za rfl (vi Tryd.underlying38 rfl (mvx rfl (za rfl (vi Tryd.underlying38 rfl (za rfl (qn rfl rfl (rnx (zu 10 (.bool false) rfl ((by rw [bne_self_eq_false] : (.bool ((((xs.length : Nat)) : Int) != (((xs.length : Nat)) : Int)) : Value) = _)) (zy rfl (zj (ze (zf (srx (anx rfl (zx (qk (ι := Nat) (fun i => [(0, .slice A xs.length c), (1, .slice A' xs.length c'), (5, .int .i64 ((i : Nat) : Int))]) (fun i w' => i ≤ xs.length ∧ Ext No w0 w') (fun i => xs.length - i) 0 ⟨rfl, rfl, rfl, trivial⟩ (⟨Nat.zero_le _, by rw [hw0]; exact Ext.refl _ _⟩) ?_))))))))))))))))))))))
 rintro i w2 ⟨hi0, hEi⟩;refine zf (srx (mvx rfl (mvx rfl (za rfl (vi Tryd.underlying38 rfl (za rfl (yt rfl rfl (rnx (zt rfl (fun hi => ?_) (fun hi => ?_))))))))))
 ·
  have hi := of_decide_eq_true hi;have hil : i < xs.length := by omega
  obtain ⟨x, hx⟩ : ∃ x, xs[i]? = some x := ⟨_, List.getElem?_eq_getElem hil⟩;rw [hw0] at hEi;have hz := h.low (X := No) ⟨hEi, fun _ h => h.elim⟩;have hz' := h'.low (X := No) ⟨hEi, fun _ h => h.elim⟩;obtain ⟨g, o, hA, hg, hc⟩ := hz.cell hx;obtain ⟨g', o', hA', hg', hc'⟩ := hz'.cell hx;refine zj (ze (zf (zx (zf ?_))))
  refine vu (No) Mut.none_ [] [] (oz [Fx.of (.slice A xs.length c),
   Fx.of (.int .i64 ((i : Nat) : Int)),
   Fx.of (.pointer (some ⟨g, o + i, none⟩)),
   Fx.of (.int .i64 x),
   Fx.of (.slice A' xs.length c'),
   Fx.of (.int .i64 ((i : Nat) : Int)),
   Fx.of (.pointer (some ⟨g', o' + i, none⟩)),
   Fx.of (.int .i64 x),
   Fx.of (.bool false)]) mixed rfl trivial (fun _ h => by cases h) ?_ ?_
  · refine ⟨?_, ?_, ?_, ?_, ?_, ?_, ?_, ?_, ?_, trivial⟩
    · intro vs X wq K;exact zq rfl ⟨Below.refl _ _, Left.of rfl⟩
    · intro vs X wq K;exact zq rfl ⟨Below.refl _ _, Left.of rfl⟩
    · intro vs X wq K;obtain ⟨_, e0, k0⟩ := K.dep 0 rfl rfl rfl;refine zh 17 (.slice A xs.length c) rfl e0 ?_;obtain ⟨_, e1, k1⟩ := K.dep 1 rfl rfl rfl;refine zh 18 (.int .i64 ((i : Nat) : Int)) rfl e1 ?_;exact va (j := i) Tryd.underlying38 sz3 (congrArg (fun z ↦ some (Value.slice z xs.length c)) hA) rfl rfl hil ⟨Below.refl _ _, Left.of rfl⟩
    · intro vs X wq K;have LE := K.1;obtain ⟨_, e2, k2⟩ := K.dep 2 rfl rfl rfl;refine zh 19 (.pointer (some ⟨g, o + i, none⟩)) rfl e2 ?_;exact yk Tryd.underlying3 rfl rfl (cell_z LE (fun h ↦ h) hc) ⟨Below.refl _ _, Left.of rfl⟩
    · intro vs X wq K;exact zq rfl ⟨Below.refl _ _, Left.of rfl⟩
    · intro vs X wq K;exact zq rfl ⟨Below.refl _ _, Left.of rfl⟩
    · intro vs X wq K;obtain ⟨_, e4, k4⟩ := K.dep 4 rfl rfl rfl;refine zh 21 (.slice A' xs.length c') rfl e4 ?_;obtain ⟨_, e5, k5⟩ := K.dep 5 rfl rfl rfl;refine zh 22 (.int .i64 ((i : Nat) : Int)) rfl e5 ?_;exact va (j := i) Tryd.underlying38 sz3 (congrArg (fun z ↦ some (Value.slice z xs.length c')) hA') rfl rfl hil ⟨Below.refl _ _, Left.of rfl⟩
    · intro vs X wq K;have LE := K.1;obtain ⟨_, e6, k6⟩ := K.dep 6 rfl rfl rfl;refine zh 23 (.pointer (some ⟨g', o' + i, none⟩)) rfl e6 ?_;exact yk Tryd.underlying3 rfl rfl (cell_z LE (fun h ↦ h) hc') ⟨Below.refl _ _, Left.of rfl⟩
    · intro vs X wq K;obtain ⟨_, e3, k3⟩ := K.dep 3 rfl rfl rfl;refine zh 20 (.int .i64 x) rfl e3 ?_;obtain ⟨_, e7, k7⟩ := K.dep 7 rfl rfl rfl;refine zh 24 (.int .i64 x) rfl e7 ?_;exact qn rfl rfl ⟨Below.refl _ _, Left.of ((by rw [bne_self_eq_false] : (.bool (x != x) : Value) = _))⟩
  intro vs w3 LE AO AL AF AA;have hbd : Below (w2).heap.size (w2) w3 := (((Ext.refl No (w2)).drew).trans LE).toBelow;obtain ⟨_, e8, k8⟩ := AL.2.2.2.2.2.2.2.2.1;refine je (τ := [(0, _), (1, _), (5, _), (25, .bool false)]) ⟨rfl, rfl, rfl, congrArg some e8, trivial⟩ ?_;clear AL AF AA AO
  refine ze (zy rfl (zj (zm (ze (zi (mvx rfl (za rfl (yg rfl rfl (zo (by omega)) (avx rfl (yf ?_))))))))));exact ym (i + 1) (by show xs.length - (i + 1) < xs.length - i; omega) ⟨rfl, rfl, rfl, trivial⟩ (⟨hil, by rw [hw0]; exact hEi.trans (Ext.of_below hbd No)⟩)
 ·
  refine yn (zg (zg (zv (ze (srx (anx rfl (zr (zp (rs := [.tmp 4]) (vs := [_]) rfl ⟨rfl, trivial⟩ ?_))))))));exact ⟨rfl, by rw [hw0] at hEi; exact hEi.toBelow⟩
end Go.Proofs.YtmjbnhjgebjhlaaDoor
namespace Go.Proofs.YtmjbnhjgebjhlaaDoor
open Go.RowKit
set_option maxRecDepth 100000
def strV (xs : List ByteArray) : List Value := xs.map fun x => .string x
def conV (xs : List (Int × ByteArray)) : List Value := xs.flatMap fun x => [.int .i64 x.1, .string x.2]
def rgsV (xs : List LReg) : List Value := xs.flatMap regV
abbrev IB := LIns × Option Addr × Nat
def liV (x : IB) : Value := .slice x.2.1 x.1.l.length x.2.2
structure InsO (lo : Nat) (w : World) (A : Option Addr) (c : Nat) (is : List IB) : Prop where
 i : w.ownsRow lo 40 7 (.slice A is.length c) is.length (yhx is)
 l : ∀ x ∈ is, w.ownsRow lo 3 1 (liV x) x.1.l.length (qx x.1.l)
 ap : ∀ (j k : Nat) x y, is[j]? = some x → is[k]? = some y → j ≠ k → ∀ q, (liV x).ownBlock = some q → (liV y).ownBlock ≠ some q
structure QP where
 an : Option Addr
 cn : Nat
 ac : Option Addr
 cc : Nat
 ai : Option Addr
 ci : Nat
 ar : Option Addr
 cr : Nat
 is : List IB
def QP.pl (q : QP) : Pl := ⟨q.an, q.cn, q.ac, q.cc, q.ai, q.ci, q.ar, q.cr⟩
structure FnO (lo : Nat) (w : World) (q : QP) (f : LFn) : Prop where
 names : w.ownsRow lo 9 1 (.slice q.an f.names.length q.cn) f.names.length (strV f.names)
 consts : w.ownsRow lo 55 2 (.slice q.ac f.consts.length q.cc) f.consts.length (conV f.consts)
 ins : InsO lo w q.ai q.ci q.is
 ise : q.is.map (·.1) = f.ins
 rgs : w.ownsRow lo 50 4 (.slice q.ar f.rgs.length q.cr) f.rgs.length (rgsV f.rgs)
structure FnI (f : LFn) : Prop where
 params : I64 f.params
 regs : I64 f.regs
 frees : I64 f.frees
 bound : I64 f.bound
 name : f.name.size ≤ maxLen
 nl : 16 * f.names.length ≤ 140737488351232
 ni : ∀ x ∈ f.names, x.size ≤ maxLen
 cl : 24 * f.consts.length ≤ 140737488351232
 ci : ∀ x ∈ f.consts, I64 x.1 ∧ x.2.size ≤ maxLen
 il : 72 * f.ins.length ≤ 140737488351304
 ii : ∀ x ∈ f.ins, InsI x ∧ 8 * x.l.length ≤ 140737488351232 ∧ ∀ y ∈ x.l, I64 y
 rl : 32 * f.rgs.length ≤ 140737488351232
 ri : ∀ x ∈ f.rgs, RegI x
theorem FnA.nums {n : Nat} {w : World} {p : Pl} {f : LFn} (h : FnA n w p f) : FnI f :=
 ⟨h.params, h.regs, h.frees, h.bound, h.name, h.names.len, h.names.in_, h.consts.len, h.consts.in_, h.ins.len, fun x hx => by
  obtain ⟨j, hj⟩ := List.mem_iff_getElem?.1 hx;obtain ⟨g, o, _, _, hc⟩ := h.ins.row.at hj;obtain ⟨hi, B, c, hl, hI, _⟩ := hc;exact ⟨hi, hl, hI.in_⟩, h.rgs.len, h.rgs.in_⟩
section
variable {lo : Nat} {w w' : World} {q : QP} {f : LFn} {X : Nat → Prop}
def FnBl (q : QP) (f : LFn) (k : Nat) : Prop := (Value.slice q.an f.names.length q.cn).ownBlock = some k ∨ (Value.slice q.ac f.consts.length q.cc).ownBlock = some k ∨ (Value.slice q.ai q.is.length q.ci).ownBlock = some k ∨ (Value.slice q.ar f.rgs.length q.cr).ownBlock = some k ∨ ∃ x ∈ q.is, (liV x).ownBlock = some k
theorem FnO.bl (h : FnO lo w q f) {k : Nat} (hk : FnBl q f k) : lo ≤ k ∧ k < w.heap.size := by
 rcases hk with hk | hk | hk | hk | ⟨x, hx, hk⟩
 · exact ⟨gu h.names k hk, vk h.names k hk⟩
 · exact ⟨gu h.consts k hk, vk h.consts k hk⟩
 · exact ⟨gu h.ins.i k hk, vk h.ins.i k hk⟩
 · exact ⟨gu h.rgs k hk, vk h.rgs k hk⟩
 · exact ⟨gu (h.ins.l x hx) k hk, vk (h.ins.l x hx) k hk⟩
theorem FnO.ext (h : FnO lo w q f) (k : Ext X w w') (hX : ∀ b, FnBl q f b → ¬ X b) : FnO lo w' q f :=
 ⟨yx h.names k fun b hb => hX b (Or.inl hb), yx h.consts k fun b hb => hX b (Or.inr (Or.inl hb)),
  ⟨yx h.ins.i k fun b hb => hX b (Or.inr (Or.inr (Or.inl hb))), fun x hx => yx (h.ins.l x hx) k fun b hb => hX b (Or.inr (Or.inr (Or.inr (Or.inr ⟨x, hx, hb⟩)))), h.ins.ap⟩,
  h.ise, yx h.rgs k fun b hb => hX b (Or.inr (Or.inr (Or.inr (Or.inl hb))))⟩
theorem FnO.no (h : FnO lo w q f) (k : Ext No w w') : FnO lo w' q f := h.ext k fun _ _ h => h.elim
theorem FnO.fn (h : FnO lo w q f) (hn : FnI f) : FnA w.heap.size w q.pl f := by
 have hil : q.is.length = f.ins.length := by rw [← h.ise, List.length_map]
 refine ⟨hn.params, hn.regs, hn.frees, hn.bound, hn.name, ⟨hn.nl, hn.ni, fun h0 => ?_⟩, ⟨hn.cl, hn.ci, fun h0 => ?_⟩, ⟨hn.il, fun h0 => ?_⟩, ⟨hn.rl, hn.ri, fun h0 => ?_⟩, Nat.le_refl _⟩
 · obtain ⟨g, hA, _, hg, hc⟩ := xh h.names (List.length_pos_iff.2 h0);refine ⟨g, 0, hA, hg, fun j x hx => ?_⟩;show w.cell? ⟨g, 0 + j * 1, none⟩ = _
   rw [Nat.zero_add, Nat.mul_one];exact hc j _ (by unfold strV; rw [List.getElem?_map, hx]; rfl)
 · obtain ⟨g, hA, _, hg, hc⟩ := zkz h.consts (List.length_pos_iff.2 h0);refine ⟨g, 0, hA, hg, fun j x hx i v hv => ?_⟩;rw [Nat.zero_add];exact hc _ _ (ylz (s := 2) (fun _ => rfl) hx hv)
 · obtain ⟨g, hA, _, hg, hc⟩ := zkz h.ins.i (by rw [hil]; exact List.length_pos_iff.2 h0);have := insA_of (is := q.is) hg hc (by rw [hil]; exact hn.il) fun x hx => by
    have hm : x.1 ∈ f.ins := by rw [← h.ise]; exact List.mem_map_of_mem hx
    obtain ⟨h1, h2, h3⟩ := hn.ii _ hm;exact ⟨h1, h2, OwnsI.ints (h.ins.l x hx) (by omega) h3⟩
   rw [h.ise] at this;show ∃ g o, q.ai = _ ∧ _
   rw [hA];exact this.row h0
 · obtain ⟨g, hA, _, hg, hc⟩ := zkz h.rgs (List.length_pos_iff.2 h0);refine ⟨g, 0, hA, hg, fun j x hx i v hv => ?_⟩;rw [Nat.zero_add];exact hc _ _ (ylz (s := 4) (fun _ => rfl) hx hv)
end
section
variable {P : Program} {N : Nat} {ops : Array Oper} {Q : Exit → Act → World → Prop} {σ : Env} {w : World} {ty : TypeId} {pos : String} {af : Array Edge} {dst : Option Nat} {Post : Value → World → Prop}
theorem ow_appendEO {T e : TypeId} {x y : Operand} {z : Value} {size bytes g m c B base : Nat} {A : Option Addr} {news : List Value} (hd : P.underlying T = some (.slice e)) (hi : zmx P e z size bytes) (hzs : z.cells.size = size) (hsz : 0 < size)
 (hx : ev σ x = some (.slice (some ⟨g, 0, none⟩) 0 0)) (hy : ev σ y = some (.slice A m c)) (hB : Blk w g e #[]) (hb : base ≤ g) (hbw : base ≤ w.heap.size) (hr : Reads w B size A m news) (h1 : ∀ u ∈ news, u.oneCell' = true) (h63 : m ≤ maxLen) (hbytes : m * bytes ≤ 140737488355328)
 (k : ∀ A' c' w', Below w.heap.size w w' → w'.ownsRow base e size (.slice A' m c') m news → (∀ q, (Value.slice A' m c').ownBlock = some q → q = g ∨ w.heap.size ≤ q) → Post (.slice A' m c') w') :
 OW P N ops Q ⟨dst, .call ⟨.builtin .append, #[x, y], #[T, T]⟩, ty, pos, af, none⟩ σ w Post :=
 ow_appendE hd hi hzs hsz hx hy hr h1 h63 hbytes fun A' c' w' hw hO => by
  rcases hO with ⟨h0, hA, hc, hn⟩ | h
  · subst h0 hA hc hn;refine k _ _ _ hw ⟨by simp, Or.inr ⟨g, 0, #[], rfl, hb, hB.ext (Ext.of_below hw No) (fun h => h.elim), Nat.le_refl _, Nat.zero_le _, by simp, by simp⟩⟩ fun q hq => Or.inl ?_;exact (Option.some.inj hq).symm
  · exact k _ _ _ hw (xi h hbw) fun q hq => Or.inr (gu h q hq)
end
theorem flat_len {α : Type} {en : α → List Value} {s : Nat} (hs : ∀ x, (en x).length = s) : ∀ (xs : List α), (xs.flatMap en).length = xs.length * s
 | [] => by simp
 | x :: xs => by rw [List.flatMap_cons, List.length_append, hs, flat_len hs xs, List.length_cons, Nat.succ_mul]; omega
theorem ztx {α : Type} {en : α → List Value} {s n : Nat} {w : World} {A : Option Addr} {xs : List α} (hs : ∀ x, (en x).length = s) (h0 : 0 < s) (h : RowS n w s (fun w g o x => zdz w g o (en x)) A xs) {B : Nat} (hB : n ≤ B) : Reads w B s A xs.length (xs.flatMap en) := by
 refine ⟨flat_len hs xs, fun hx => ?_⟩;obtain ⟨g, o, e, hg, hc⟩ := h (fun e => by rw [e] at hx; simp at hx);refine ⟨_, e, by show g < B; omega, fun j u hj => ?_⟩;rw [Lib.add_plain];have hjl := (List.getElem?_eq_some_iff.1 hj).1;rw [flat_len hs] at hjl;have hq : j / s < xs.length := Nat.div_lt_of_lt_mul (by rwa [Nat.mul_comm] at hjl)
 have hy : xs[j / s]? = some xs[j / s] := List.getElem?_eq_getElem hq;have hm : j % s < (en xs[j / s]).length := by rw [hs]; exact Nat.mod_lt _ h0
 have hv : (en xs[j / s])[j % s]? = some (en xs[j / s])[j % s] := List.getElem?_eq_getElem hm;have h2 := ylz hs hy hv;have e2 : j / s * s + j % s = j := by rw [Nat.mul_comm]; exact Nat.div_add_mod j s
 rw [e2, hj] at h2;have h3 := hc _ _ hy _ _ hv;rw [Nat.add_assoc, e2] at h3;rw [h3, h2]
theorem strV_flat : ∀ (xs : List ByteArray), (xs.flatMap fun x => [Value.string x]) = strV xs
 | [] => rfl
 | x :: xs => by rw [List.flatMap_cons, strV_flat xs]; rfl
theorem StrsA.reads {n : Nat} {w : World} {A : Option Addr} {xs : List ByteArray} (h : StrsA n w A xs) {B : Nat} (hB : n ≤ B) : Reads w B 1 A xs.length (strV xs) := by
 have := ztx (en := fun x => [.string x]) (s := 1) (fun _ => rfl) (by decide) (xs := xs) (A := A) (w := w) (n := n) (fun h0 => by
  obtain ⟨g, o, e, hg, hc⟩ := h.row h0;refine ⟨g, o, e, hg, fun j x hx i v hv => ?_⟩;match i, hv with
  | 0, hv =>
   obtain rfl := Option.some.inj hv;exact hc j x hx
  | i + 1, hv => cases hv) hB
 rwa [strV_flat] at this
theorem ConsA.reads {n : Nat} {w : World} {A : Option Addr} {xs : List (Int × ByteArray)} (h : ConsA n w A xs) {B : Nat} (hB : n ≤ B) : Reads w B 2 A xs.length (conV xs) := ztx (s := 2) (fun _ => rfl) (by decide) h.row hB
theorem RegsA.reads {n : Nat} {w : World} {A : Option Addr} {xs : List LReg} (h : RegsA n w A xs) {B : Nat} (hB : n ≤ B) : Reads w B 4 A xs.length (rgsV xs) := ztx (s := 4) (fun _ => rfl) (by decide) h.row hB
/-! ### instructions that grow -/
theorem InsO.nil {lo : Nat} {w : World} : InsO lo w none 0 [] := ⟨jd, fun x hx => (by cases hx), fun j k x y h => (by cases h)⟩
section
variable {lo : Nat} {w w1 : World} {A : Option Addr} {c : Nat} {is : List IB} {X : Nat → Prop}
theorem InsO.ext (h : InsO lo w A c is) (k : Ext X w w1) (hi : ∀ q, (Value.slice A is.length c).ownBlock = some q → ¬ X q) (hl : ∀ x ∈ is, ∀ q, (liV x).ownBlock = some q → ¬ X q) : InsO lo w1 A c is :=
 ⟨yx h.i k hi, fun x hx => yx (h.l x hx) k (hl x hx), h.ap⟩
theorem InsO.no (h : InsO lo w A c is) (k : Ext No w w1) : InsO lo w1 A c is := h.ext k (fun _ _ h => h.elim) fun _ _ _ _ h => h.elim
theorem InsO.other {base' n' s' : Nat} {e' : TypeId} {v' : Value} {xs' : List Value} (h : InsO lo w A c is) (h' : w.ownsRow base' e' s' v' n' xs') (h1 : 40 ≠ e') (h2 : 3 ≠ e') (k : Ext (Mut [v'.ownBlock]) w w1) : InsO lo w1 A c is :=
 ⟨zfk h.i h' h1 k, fun x hx => zfk (h.l x hx) h' h2 k, h.ap⟩
theorem InsO.blk {g' : Nat} {t : TypeId} {cs : Array Value} (h : InsO lo w A c is) (h' : Blk w g' t cs) (h1 : 40 ≠ t) (h2 : 3 ≠ t) (k : Ext (Mut [some g']) w w1) : InsO lo w1 A c is :=
 ⟨oh h.i h' h1 k, fun x hx => oh (h.l x hx) h' h2 k, h.ap⟩
theorem InsO.add {x : IB} {A' : Option Addr} {c' : Nat} (h : InsO lo w A c is) (hx : w.ownsRow lo 3 1 (liV x) x.1.l.length (qx x.1.l)) (hap : ∀ y ∈ is, ∀ q, (liV y).ownBlock = some q → (liV x).ownBlock ≠ some q)
 (h1 : w1.ownsRow lo 40 7 (.slice A' (is ++ [x]).length c') (is ++ [x]).length (yhx (is ++ [x]))) (k : Ext (Mut [(Value.slice A is.length c).ownBlock]) w w1) : InsO lo w1 A' c' (is ++ [x]) := by
 refine ⟨h1, fun y hy => ?_, fun i j a b ha hb hij q hq => ?_⟩
 · rcases List.mem_append.1 hy with hy | hy
   · exact zfk (h.l y hy) h.i (by decide) k
   · rw [List.mem_singleton.1 hy]; exact zfk hx h.i (by decide) k
 · have key : ∀ (i : Nat) (a : IB), (is ++ [x])[i]? = some a → (i < is.length ∧ is[i]? = some a) ∨ (i = is.length ∧ a = x) := fun i a ha => by
    rcases Nat.lt_or_ge i is.length with h3 | h3
    · rw [List.getElem?_append_left h3] at ha;exact Or.inl ⟨h3, ha⟩
    · rw [List.getElem?_append_right h3] at ha;have h4 := (List.getElem?_eq_some_iff.1 ha).1;simp at h4
      have h5 : i = is.length := by omega
      subst h5;simp at ha
      exact Or.inr ⟨rfl, ha.symm⟩
   rcases key i a ha with ⟨_, ha2⟩ | ⟨e1, ea⟩
   · rcases key j b hb with ⟨_, hb2⟩ | ⟨e2, eb⟩
     · exact h.ap i j a b ha2 hb2 hij q hq
     · rw [eb]; exact hap a (List.mem_of_getElem? ha2) q hq
   · rcases key j b hb with ⟨_, hb2⟩ | ⟨e2, eb⟩
     · rw [ea] at hq;exact fun h2 => hap b (List.mem_of_getElem? hb2) q h2 hq
     · omega
end
end Go.Proofs.YtmjbnhjgebjhlaaDoor

/- Texts of this claim. -/
import Derived.Test.YtjhmifebmplahaaK6
import Derived.Test.YtjhmifebmplahaaProg
import Derived.KernelRfl
import Derived.ArgAppend
namespace Go.Proofs.Ytjhmifebmplahaa
theorem sz3 : qm Try.prog 3 1 := (by kernel_rfl : (Try.prog.info? 3).map (·.size) = some 1)
theorem zr3 : vn Try.prog 3 (.int .i64 0) := (by kernel_rfl : (Try.prog.info? 3).map (·.zero) = some (some (.int .i64 0)))
theorem sz4 : qm Try.prog 4 1 := (by kernel_rfl : (Try.prog.info? 4).map (·.size) = some 1)
theorem sz9 : qm Try.prog 9 1 := (by kernel_rfl : (Try.prog.info? 9).map (·.size) = some 1)
theorem qv : qm Try.prog 22 1 := (by kernel_rfl : (Try.prog.info? 22).map (·.size) = some 1)
theorem zr22 : vn Try.prog 22 (.slice none 0 0) := (by kernel_rfl : (Try.prog.info? 22).map (·.zero) = some (some (.slice none 0 0)))
theorem qz : qm Try.prog 24 2 := (by kernel_rfl : (Try.prog.info? 24).map (·.size) = some 2)
theorem zr24 : vn Try.prog 24 (.agg #[.slice none 0 0, .int .i64 0]) := (by kernel_rfl : (Try.prog.info? 24).map (·.zero) = some (some (.agg #[.slice none 0 0, .int .i64 0])))
theorem sz26 : qm Try.prog 26 2 := (by kernel_rfl : (Try.prog.info? 26).map (·.size) = some 2)
theorem qi : qm Try.prog 27 1 := (by kernel_rfl : (Try.prog.info? 27).map (·.size) = some 1)
theorem zr27 : vn Try.prog 27 (.int .u64 0) := (by kernel_rfl : (Try.prog.info? 27).map (·.zero) = some (some (.int .u64 0)))
theorem sz28 : qm Try.prog 28 1 := (by kernel_rfl : (Try.prog.info? 28).map (·.size) = some 1)
theorem sz30 : qm Try.prog 30 7 := (by kernel_rfl : (Try.prog.info? 30).map (·.size) = some 7)
theorem zr30 : vn Try.prog 30 (.agg #[.int .i64 0, .bool false, .bool false, .slice none 0 0, .int .u64 0, .string ⟨#[]⟩, .slice none 0 0]) := (by kernel_rfl : (Try.prog.info? 30).map (·.zero) = some (some (.agg #[.int .i64 0, .bool false, .bool false, .slice none 0 0, .int .u64 0, .string ⟨#[]⟩, .slice none 0 0])))
theorem sz81 : qm Try.prog 81 3 := (by kernel_rfl : (Try.prog.info? 81).map (·.size) = some 3)
theorem zr81 : vn Try.prog 81 (.agg #[.int .i64 0, .int .i64 0, .int .i64 0]) := (by kernel_rfl : (Try.prog.info? 81).map (·.zero) = some (some (.agg #[.int .i64 0, .int .i64 0, .int .i64 0])))
theorem kf : qm Try.prog 89 3 := (by kernel_rfl : (Try.prog.info? 89).map (·.size) = some 3)
theorem zr89 : vn Try.prog 89 (.agg #[.int .i64 0, .int .i64 0, .int .i64 0]) := (by kernel_rfl : (Try.prog.info? 89).map (·.zero) = some (some (.agg #[.int .i64 0, .int .i64 0, .int .i64 0])))
theorem ko : qm Try.prog 105 4 := (by kernel_rfl : (Try.prog.info? 105).map (·.size) = some 4)
theorem xn : vn Try.prog 105 (.agg #[.int .i64 0, .int .i64 0, .int .i64 0, .int .i64 0]) := (by kernel_rfl : (Try.prog.info? 105).map (·.zero) = some (some (.agg #[.int .i64 0, .int .i64 0, .int .i64 0, .int .i64 0])))
theorem inf3 : kl Try.prog 3 (.int .i64 0) 1 8 := (by kernel_rfl : (Try.prog.info? 3).map (fun i => (i.zero, i.size, i.bytes)) = some (some (.int .i64 0), 1, 8))
theorem inf4 : kl Try.prog 4 (.bool false) 1 1 := (by kernel_rfl : (Try.prog.info? 4).map (fun i => (i.zero, i.size, i.bytes)) = some (some (.bool false), 1, 1))
theorem inf22 : kl Try.prog 22 (.slice none 0 0) 1 24 := (by kernel_rfl : (Try.prog.info? 22).map (fun i => (i.zero, i.size, i.bytes)) = some (some (.slice none 0 0), 1, 24))
theorem pl24 : zaz Try.prog 24 [(0, 1), (1, 1)] := ⟨_, Try.underlying24, by kernel_rfl⟩
theorem oa : kl Try.prog 27 (.int .u64 0) 1 8 := (by kernel_rfl : (Try.prog.info? 27).map (fun i => (i.zero, i.size, i.bytes)) = some (some (.int .u64 0), 1, 8))
theorem pl30 : zaz Try.prog 30 [(0, 1), (1, 1), (2, 2), (4, 1), (5, 1), (6, 1)] := ⟨_, Try.underlying30, by kernel_rfl⟩
theorem pl81 : zaz Try.prog 81 [(0, 1), (1, 1), (2, 1)] := ⟨_, Try.underlying81, by kernel_rfl⟩
theorem pl89 : zaz Try.prog 89 [(0, 1), (1, 1), (2, 1)] := ⟨_, Try.underlying89, by kernel_rfl⟩
theorem pl105 : zaz Try.prog 105 [(0, 1), (1, 1), (2, 1), (3, 1)] := ⟨_, Try.underlying105, by kernel_rfl⟩
theorem en5 : qx Try.prog 5 := ⟨_, Try.func5, by kernel_rfl, by kernel_rfl⟩
theorem en6 : qx Try.prog 6 := ⟨_, Try.func6, by kernel_rfl, by kernel_rfl⟩
theorem en8 : qx Try.prog 8 := ⟨_, Try.func8, by kernel_rfl, by kernel_rfl⟩
theorem en9 : qx Try.prog 9 := ⟨_, Try.func9, by kernel_rfl, by kernel_rfl⟩
theorem en11 : qx Try.prog 11 := ⟨_, Try.func11, by kernel_rfl, by kernel_rfl⟩
theorem en12 : qx Try.prog 12 := ⟨_, Try.func12, by kernel_rfl, by kernel_rfl⟩
theorem en13 : qx Try.prog 13 := ⟨_, Try.func13, by kernel_rfl, by kernel_rfl⟩
theorem en14 : qx Try.prog 14 := ⟨_, Try.func14, by kernel_rfl, by kernel_rfl⟩
theorem en15 : qx Try.prog 15 := ⟨_, Try.func15, by kernel_rfl, by kernel_rfl⟩
theorem en16 : qx Try.prog 16 := ⟨_, Try.func16, by kernel_rfl, by kernel_rfl⟩
theorem en17 : qx Try.prog 17 := ⟨_, Try.func17, by kernel_rfl, by kernel_rfl⟩
theorem en18 : qx Try.prog 18 := ⟨_, Try.func18, by kernel_rfl, by kernel_rfl⟩
theorem en19 : qx Try.prog 19 := ⟨_, Try.func19, by kernel_rfl, by kernel_rfl⟩
theorem en20 : qx Try.prog 20 := ⟨_, Try.func20, by kernel_rfl, by kernel_rfl⟩
theorem en21 : qx Try.prog 21 := ⟨_, Try.func21, by kernel_rfl, by kernel_rfl⟩
theorem en22 : qx Try.prog 22 := ⟨_, Try.func22, by kernel_rfl, by kernel_rfl⟩
theorem en30 : qx Try.prog 30 := ⟨_, Try.func30, by kernel_rfl, by kernel_rfl⟩
theorem en31 : qx Try.prog 31 := ⟨_, Try.func31, by kernel_rfl, by kernel_rfl⟩
theorem en32 : qx Try.prog 32 := ⟨_, Try.func32, by kernel_rfl, by kernel_rfl⟩
theorem en34 : qx Try.prog 34 := ⟨_, Try.func34, by kernel_rfl, by kernel_rfl⟩
theorem en36 : qx Try.prog 36 := ⟨_, Try.func36, by kernel_rfl, by kernel_rfl⟩
theorem en37 : qx Try.prog 37 := ⟨_, Try.func37, by kernel_rfl, by kernel_rfl⟩
theorem en38 : qx Try.prog 38 := ⟨_, Try.func38, by kernel_rfl, by kernel_rfl⟩
theorem en39 : qx Try.prog 39 := ⟨_, Try.func39, by kernel_rfl, by kernel_rfl⟩
theorem en40 : qx Try.prog 40 := ⟨_, Try.func40, by kernel_rfl, by kernel_rfl⟩
theorem en41 : qx Try.prog 41 := ⟨_, Try.func41, by kernel_rfl, by kernel_rfl⟩
theorem en42 : qx Try.prog 42 := ⟨_, Try.func42, by kernel_rfl, by kernel_rfl⟩
theorem en43 : qx Try.prog 43 := ⟨_, Try.func43, by kernel_rfl, by kernel_rfl⟩
theorem en44 : qx Try.prog 44 := ⟨_, Try.func44, by kernel_rfl, by kernel_rfl⟩
theorem en45 : qx Try.prog 45 := ⟨_, Try.func45, by kernel_rfl, by kernel_rfl⟩
theorem en46 : qx Try.prog 46 := ⟨_, Try.func46, by kernel_rfl, by kernel_rfl⟩
theorem en52 : qx Try.prog 52 := ⟨_, Try.func52, by kernel_rfl, by kernel_rfl⟩
theorem en53 : qx Try.prog 53 := ⟨_, Try.func53, by kernel_rfl, by kernel_rfl⟩
theorem en54 : qx Try.prog 54 := ⟨_, Try.func54, by kernel_rfl, by kernel_rfl⟩
theorem en57 : qx Try.prog 57 := ⟨_, Try.func57, by kernel_rfl, by kernel_rfl⟩
theorem en58 : qx Try.prog 58 := ⟨_, Try.func58, by kernel_rfl, by kernel_rfl⟩
theorem en59 : qx Try.prog 59 := ⟨_, Try.func59, by kernel_rfl, by kernel_rfl⟩
theorem en60 : qx Try.prog 60 := ⟨_, Try.func60, by kernel_rfl, by kernel_rfl⟩
theorem en61 : qx Try.prog 61 := ⟨_, Try.func61, by kernel_rfl, by kernel_rfl⟩
theorem en62 : qx Try.prog 62 := ⟨_, Try.func62, by kernel_rfl, by kernel_rfl⟩
theorem en63 : qx Try.prog 63 := ⟨_, Try.func63, by kernel_rfl, by kernel_rfl⟩
theorem en64 : qx Try.prog 64 := ⟨_, Try.func64, by kernel_rfl, by kernel_rfl⟩
theorem en65 : qx Try.prog 65 := ⟨_, Try.func65, by kernel_rfl, by kernel_rfl⟩
theorem en66 : qx Try.prog 66 := ⟨_, Try.func66, by kernel_rfl, by kernel_rfl⟩
theorem vf : Try.prog.follows .mixedOrders = true := by kernel_rfl
end Go.Proofs.Ytjhmifebmplahaa
namespace Go.Proofs.Ytjhmifebmplahaa
open Go.RowKit
set_option maxRecDepth 100000
abbrev Sl := Option Addr × Nat × Nat
def sl3 (r : Sl) : Value := .slice r.1 r.2.1 r.2.2
def mk3 (v : Nat) : Value := .int .u64 (v : Int)
def Lane (w : World) (r : Sl) : Prop := (r.1 = none ∧ r.2.1 = 0 ∧ r.2.2 = 0) ∨ ∃ g cur, r.1 = some ⟨g, 0, none⟩ ∧ Blk w g 27 cur ∧ r.2.1 ≤ r.2.2 ∧ r.2.2 ≤ maxLen ∧ cur.size = r.2.2
def Marked (w : World) (r : Sl) (n : Nat) (v : Nat) : Prop := ∀ g, r.1 = some ⟨g, 0, none⟩ → ∀ j, j < n → w.cell? ⟨g, j, none⟩ = some (mk3 v)
def Owns (ls : List Sl) (b k : Nat) : Prop := ∃ r, ls[k]? = some r ∧ r.1 = some ⟨b, 0, none⟩
def Bk (ls : List Sl) (b : Nat) : Prop := ∃ k, Owns ls b k
def Single (ls : List Sl) : Prop := ∀ b k m, Owns ls b k → Owns ls b m → k = m
def Bank (w : World) (ls : List Sl) : Prop := ∀ r ∈ ls, Lane w r
def Paint (ls : List Sl) (B : Nat) (w w' : World) : Prop := ∀ (b : Nat) (cur : Array Value), b < B → Blk w b 27 cur → ∃ cur' : Array Value, Blk w' b 27 cur' ∧ cur'.size = cur.size ∧ ∀ (j : Nat) (x : Value), cur'[j]? = some x → cur[j]? = some x ∨ ∃ k, Owns ls b k ∧ x = mk3 (k + 1000)
variable {ls : List Sl} {B : Nat} {w w' w'' : World}
theorem Paint.refl : Paint ls B w w := fun _ cur _ h => ⟨cur, h, rfl, fun _ _ h => .inl h⟩
theorem Paint.trans (h : Paint ls B w w') (k : Paint ls B w' w'') : Paint ls B w w'' := fun b cur hb h1 => by
 obtain ⟨c1, h2, h3, h4⟩ := h b cur hb h1;obtain ⟨c2, h5, h6, h7⟩ := k b c1 hb h2;exact ⟨c2, h5, by omega, fun j x hx => (h7 j x hx).elim (h4 j x) .inr⟩
theorem Paint.mono {C : Nat} (h : Paint ls B w w') (hc : C ≤ B) : Paint ls C w w' := fun b cur hb h1 => h b cur (by omega) h1
theorem Paint.no {X : Nat → Prop} (h : Ext X w w') (hx : ∀ b, X b → b < B → False) (_hB : B ≤ w.heap.size) : Paint ls B w w' := fun b cur hb h1 => ⟨cur, h.blk h1 (fun hX => hx b hX hb), rfl, fun _ _ h => .inl h⟩
theorem Lane.blk {r : Sl} (h : Lane w r) {g : Nat} (hg : r.1 = some ⟨g, 0, none⟩) : ∃ cur, Blk w g 27 cur ∧ r.2.1 ≤ r.2.2 ∧ r.2.2 ≤ maxLen ∧ cur.size = r.2.2 := by
 rcases h with ⟨h1, _⟩ | ⟨g', cur, h1, h2, h3⟩
 · rw [h1] at hg; cases hg
 · rw [h1] at hg; cases hg; exact ⟨cur, h2, h3⟩
theorem Lane.lt {r : Sl} (h : Lane w r) {g : Nat} (hg : r.1 = some ⟨g, 0, none⟩) : g < w.heap.size := by
 obtain ⟨_, h1, _⟩ := h.blk hg; exact h1.lt
theorem Lane.addr {r : Sl} (h : Lane w r) (h0 : 0 < r.2.1) : ∃ g, r.1 = some ⟨g, 0, none⟩ := by
 rcases h with ⟨_, h1, _⟩ | ⟨g', cur, h1, _⟩
 · omega
 · exact ⟨g', h1⟩
theorem Paint.lane {r : Sl} (h : Paint ls B w w') (hl : Lane w r) (hB : ∀ g, r.1 = some ⟨g, 0, none⟩ → g < B) : Lane w' r := by
 rcases hl with h1 | ⟨g, cur, h1, h2, h3, h4, h5⟩
 · exact .inl h1
 · obtain ⟨c, k1, k2, _⟩ := h g cur (hB g h1) h2;exact .inr ⟨g, c, h1, k1, h3, h4, by omega⟩
theorem Paint.marked {r : Sl} {n v : Nat} (h : Paint ls B w w') (hl : Lane w r) (hm : Marked w r n v) (hn : n ≤ r.2.2) (hB : ∀ g, r.1 = some ⟨g, 0, none⟩ → g < B) (ho : ∀ g k, r.1 = some ⟨g, 0, none⟩ → Owns ls g k → v = k + 1000) : Marked w' r n v := by
 intro g hg j hj;obtain ⟨cur, k1, k2, k3, k4⟩ := hl.blk hg;obtain ⟨c, q1, q2, q3⟩ := h g cur (hB g hg) k1;have h1 := hm g hg j hj;rw [k1.cell] at h1;rw [q1.cell];have h2 : j < c.size := by omega
 have h3 : c[j]? = some c[j] := Array.getElem?_eq_getElem h2;rw [h3];rcases q3 j _ h3 with h4 | ⟨k, h4, h5⟩
 · rw [← h4, h1]
 · rw [h5, ho g k hg h4]
def AppStep (w w' : World) (r r' : Sl) (v : Nat) : Prop :=
 (r'.1 = r.1 ∧ ∃ (b : Nat) (cur cur' : Array Value), r.1 = some ⟨b, 0, none⟩ ∧ Blk w b 27 cur ∧ Blk w' b 27 cur' ∧ cur'.size = cur.size ∧ Ext (Mut [some b]) w w' ∧ ∀ (j : Nat) (x : Value), cur'[j]? = some x → cur[j]? = some x ∨ x = mk3 v) ∨
 ((∃ b, r'.1 = some ⟨b, 0, none⟩ ∧ w.heap.size ≤ b) ∧ Ext No w w')
theorem AppStep.ext {r r' : Sl} {v k : Nat} {w1 : World} (h : AppStep w w' r r' v) (E : Ext (Bk ls) w1 w) (ho : ∀ b, r.1 = some ⟨b, 0, none⟩ → Owns ls b k ∨ w1.heap.size ≤ b) : Ext (Bk ls) w1 w' := by
 rcases h with ⟨_, b, _, _, h1, _, _, _, h2, _⟩ | ⟨_, h2⟩
 · refine E.step h2 fun i hi => ?_;rcases hi with hi | hi
   · cases hi; exact (ho b h1).imp (fun h => ⟨k, h⟩) id
   · exact hi.elim
 · exact E.step h2 fun i hi => hi.elim
theorem AppStep.paint {r r' : Sl} {k : Nat} (h : AppStep w w' r r' (k + 1000)) (hB : B ≤ w.heap.size) (ho : ∀ b, r.1 = some ⟨b, 0, none⟩ → Owns ls b k ∨ B ≤ b) : Paint ls B w w' := by
 rcases h with ⟨_, b, cur, cur', h1, h2, h3, h4, h5, h6⟩ | ⟨_, h2⟩
 · intro b' c' hb hc;by_cases e : b' = b
   · subst e;have e1 : c' = cur := by have := hc.symm.trans h2; simpa using this
     subst e1;have ho' : Owns ls b' k := (ho b' h1).resolve_right (by omega);exact ⟨cur', h3, h4, fun j x hx => (h6 j x hx).imp id (fun e => ⟨k, ho', e⟩)⟩
   · exact ⟨c', h5.blk hc (fun hX => hX.elim (fun hX => e (Option.some.inj hX)) (fun hX => hX.elim)), rfl, fun _ _ h => .inl h⟩
 · exact Paint.no h2 (fun _ h _ => h.elim) hB
theorem AppStep.same {r r' s : Sl} {n v : Nat} (h : AppStep w w' r r' v) (hl : Lane w s) (hm : Marked w s n v) (hn : n ≤ s.2.2) : Lane w' s ∧ Marked w' s n v := by
 have key : ∀ (g : Nat) (cur cur' : Array Value), s.1 = some ⟨g, 0, none⟩ → Blk w g 27 cur → cur.size = s.2.2 → s.2.1 ≤ s.2.2 → s.2.2 ≤ maxLen → Blk w' g 27 cur' → cur'.size = cur.size → (∀ (j : Nat) (x : Value), cur'[j]? = some x → cur[j]? = some x ∨ x = mk3 v) → Lane w' s ∧ Marked w' s n v := by
  intro g cur cur' h1 h2 h3 h4 h5 h6 h7 h8;refine ⟨.inr ⟨g, cur', h1, h6, h4, h5, by omega⟩, fun g' hg' j hj => ?_⟩;rw [h1] at hg'; cases hg';have e1 := hm g h1 j hj;rw [h2.cell] at e1;rw [h6.cell];have e2 : j < cur'.size := by omega
  have e3 : cur'[j]? = some cur'[j] := Array.getElem?_eq_getElem e2;rw [e3];rcases h8 j _ e3 with h4 | h4
  · rw [← h4, e1]
  · rw [h4]
 rcases hl with ⟨h1, h2, h3⟩ | ⟨g, cur, h1, h2, h3, h4, h5⟩
 · exact ⟨.inl ⟨h1, h2, h3⟩, fun g hg => by rw [h1] at hg; cases hg⟩
 · rcases h with ⟨_, b, c, c', q1, q2, q3, q4, q5, q6⟩ | ⟨_, q⟩
   · by_cases e : g = b
     · subst e;have e1 : c = cur := by have := q2.symm.trans h2; simpa using this
       subst e1;exact key g c c' h1 h2 h5 h3 h4 q3 q4 q6
     · exact key g cur cur h1 h2 h5 h3 h4 (q5.blk h2 (fun hX => hX.elim (fun hX => e (Option.some.inj hX)) (fun hX => hX.elim))) rfl (fun _ _ h => .inl h)
   · exact key g cur cur h1 h2 h5 h3 h4 (q.blk h2 (fun h => h.elim)) rfl (fun _ _ h => .inl h)
theorem Ext.lane {X : Nat → Prop} {r : Sl} (h : Ext X w w') (hl : Lane w r) (hx : ∀ g, r.1 = some ⟨g, 0, none⟩ → ¬ X g) : Lane w' r := by
 rcases hl with h1 | ⟨g, cur, h1, h2, h3⟩
 · exact .inl h1
 · exact .inr ⟨g, cur, h1, h.blk h2 (hx g h1), h3⟩
theorem Ext.marked {X : Nat → Prop} {r : Sl} {n v : Nat} (h : Ext X w w') (hl : Lane w r) (hm : Marked w r n v) (hx : ∀ g, r.1 = some ⟨g, 0, none⟩ → ¬ X g) : Marked w' r n v := fun g hg j hj => by
 rw [h.cell (p := ⟨g, j, none⟩) (hl.lt hg) (hx g hg)];exact hm g hg j hj
section
variable {P : Program} {N : Nat} {ops : Array Oper} {Q : Exit → Act → World → Prop} {σ : Env} {ty : TypeId} {pos : String} {af : Array Edge} {dst : Option Nat} {Post : Value → World → Prop}
theorem sc_eq (l : List Value) : ∀ (w : World) (g o : Nat), w.setCells g o l = World.setCells w g o l := by
 induction l with
 | nil => intro w g o; rfl
 | cons v l ih => intro w g o; exact ih _ _ _
theorem setCells_row (w : World) (g o : Nat) (news : List Value) (t : TypeId) (cur : Array Value) (hb : Blk w g t cur) (hl : o + news.length ≤ cur.size) : ∃ cur', Blk (w.setCells g o news) g t cur' ∧ cur'.size = cur.size ∧ (∀ j x, cur'[j]? = some x → (j < o ∧ cur[j]? = some x) ∨ (o + news.length ≤ j ∧ cur[j]? = some x) ∨ (o ≤ j ∧ news[j - o]? = some x)) :=
  ⟨      yx cur o news, by rw [sc_eq]; exact           xp news o hb,            jd news cur o, fun j x hx => by
    have key : ∀ (l : List Value) (cs : Array Value) (o : Nat), o + l.length ≤ cs.size → ∀ x, (      yx cs o l)[j]? = some x → (j < o ∧ cs[j]? = some x) ∨ (o + l.length ≤ j ∧ cs[j]? = some x) ∨ (o ≤ j ∧ l[j - o]? = some x) := by
      intro l
      induction l with
      | nil => intro cs o _ x hx; rcases Nat.lt_or_ge j o with h | h; · exact .inl ⟨h, hx⟩
               · exact .inr (.inl ⟨h, hx⟩)
      | cons v l ih =>
        intro cs o ho x hx
        simp only [List.length_cons] at ho
        have h := ih (cs.setIfInBounds o v) (o + 1) (by simp; omega) x hx
        simp only [List.length_cons]
        rcases h with ⟨h1, h2⟩ | ⟨h1, h2⟩ | ⟨h1, h2⟩
        · rw [Array.getElem?_setIfInBounds] at h2
          by_cases e : o = j
          · subst e
            rw [if_pos rfl, if_pos (by omega)] at h2
            exact .inr (.inr ⟨Nat.le_refl _, by simpa using h2⟩)
          · rw [if_neg e] at h2
            exact .inl ⟨by omega, h2⟩
        · rw [Array.getElem?_setIfInBounds, if_neg (by omega)] at h2
          exact .inr (.inl ⟨by omega, h2⟩)
        · refine .inr (.inr ⟨by omega, ?_⟩)
          rw [show j - o = (j - (o + 1)) + 1 by omega]
          simpa using h2
    exact key news cur o hl x hx⟩
theorem ow_appendL {x y : Operand} {r : Sl} {v m : Nat} {a : Addr} {c : Nat} (hd : P.underlying 22 = some (.slice 27)) (hi : kl P 27 (.int .u64 0) 1 8)
 (hx : ev σ x = some (sl3 r)) (hl : Lane w r) (hm : Marked w r r.2.1 v) (hy : ev σ y = some (.slice (some a) m c)) (hnew : ∀ j, j < m → w.cell? (a.add j) = some (mk3 v)) (hsz : r.2.1 + m ≤ 17592186044416) (h0 : 0 < m)
 (k : ∀ r' w', r'.2.1 = r.2.1 + m → Lane w' r' → Marked w' r' r'.2.1 v → AppStep w w' r r' v → Post (sl3 r') w') :
 OW P N ops Q ⟨dst, .call ⟨.builtin .append, #[x, y], #[22, 22]⟩, ty, pos, af, none⟩ σ w Post := by
 obtain ⟨i, hi1, hi2⟩ := Option.map_eq_some_iff.1 hi;simp only [Prod.mk.injEq] at hi2
 obtain ⟨hz, hs, hby⟩ := hi2;have hnews : ∀ j u, (List.replicate m (mk3 v))[j]? = some u → w.cell? (a.add j) = some u := fun j u hu => by
  have hj : j < m := by have := List.getElem?_eq_some_iff.1 hu; simpa using this.1
  rw [hnew j hj];simpa [hj] using hu
 have h1 : ∀ u ∈ List.replicate m (mk3 v), u.oneCell' = true := fun u hu => by rw [List.eq_of_mem_replicate hu]; rfl
 have hml : r.2.1 + m ≤ maxLen := by unfold maxLen; omega
 have go : ∀ v' w', (Builtin.append_ #[22, 22] ty #[sl3 r, .slice (some a) m c]).run P w = .ok v' w' → Post v' w' → OW P N ops Q ⟨dst, .call ⟨.builtin .append, #[x, y], #[22, 22]⟩, ty, pos, af, none⟩ σ w Post := fun v' w' hrun hp =>
  yu (v := v') (w' := w') (fun ρ ha => by
   simp only [execOp, resolve, invoke, builtin, Sem.run_bind, Sem.run_pure, Result.andThen_ok, List.map_toArray, List.map_cons, List.map_nil, ha hx, ha hy, hrun]) hp
 have grow : ∀ (v' : Value) (w' : World), w'.ownsRow w.heap.size 27 1 v' (r.2.1 + m) (List.replicate (r.2.1 + m) (mk3 v)) → w.grownBy w' none → Post v' w' := fun v' w' hw hg => by
  rcases hw.2 with ⟨_, h2⟩ | ⟨g, cap, cur, rfl, q1, q2, q3, q4, q5, q6⟩
  · omega
  · refine k (some ⟨g, 0, none⟩, r.2.1 + m, cap) w' rfl (.inr ⟨g, cur, rfl, q2, q3, q4, by simpa using q5⟩) (fun g' hg' j hj => ?_) (.inr ⟨⟨g, rfl, q1⟩, ?_⟩)
    · cases hg'
      have hb : Blk w' g 27 cur := q2;rw [hb.cell];have h2 := congrArg (fun l => l[j]?) q6;simp only [List.getElem?_take, Nat.mul_one] at h2
      have hj' : j < r.2.1 + m := hj;rw [if_pos hj'] at h2;rw [← Array.getElem?_toList, h2];simp [hj']
    · exact ⟨hg.os, hg.tape, hg.output, hg.size, fun i hi _ => hg.block i hi (by simp)⟩
 rcases hl with ⟨e1, e2, e3⟩ | ⟨g, cur, e1, e2, e3, e4, e5⟩
 · have hv : sl3 r = .slice none 0 0 := by unfold sl3; rw [e1, e2, e3]
   obtain ⟨v', w', hrun, r1, r2, _⟩ := run_append_own (P := P) w w.heap.size 22 ty 27 i (.int .u64 0) 1 8 hd hi1 hz hs hby rfl (by decide) (sl3 r) 0 [] (by rw [hv]; exact World.ownsRow_nil w _ _ _) a m c (List.replicate m (mk3 v)) (by simp) hnews h1 (by omega) (by omega) (Nat.le_refl _);refine go v' w' hrun (grow v' w' (by rw [e2]; simpa using r1) ?_);rw [hv] at r2;exact r2
 · have hv : sl3 r = .slice (some ⟨g, 0, none⟩) r.2.1 r.2.2 := by unfold sl3; rw [e1]
   by_cases hr : r.2.1 + m ≤ r.2.2
   · have hcell : ∀ j, j < m → (w.cell? ⟨g, 0 + r.2.1 * i.size + j, none⟩).isSome = true ∧ w.frozen? ⟨g, 0 + r.2.1 * i.size + j, none⟩ = false := fun j hj => by
      rw [hs];refine ⟨?_, ?_⟩
      · rw [e2.cell, Array.getElem?_eq_getElem (by omega)]; rfl
      · unfold World.frozen?;simp [show w.heap[g]? = some (.cells cur 27 (0, 0)) from e2]
     have hrun := run_append_room_cells (P := P) w 22 ty 27 i hd hi1 g 0 r.2.1 r.2.2 a m c (List.replicate m (mk3 v)) (by simp [hs]) hnews h1 hr (fun j hj => (hcell j (by simpa using hj)).1) (fun j hj => (hcell j (by simpa using hj)).2);rw [← hv] at hrun;refine go _ _ hrun ?_;have e0 : 0 + r.2.1 * i.size = r.2.1 := by rw [hs]; omega
     rw [e0];obtain ⟨cur', q1, q2, q3⟩ := setCells_row w g r.2.1 (List.replicate m (mk3 v)) 27 cur e2 (by simp; omega);have q3' : ∀ j x, cur'[j]? = some x → (cur[j]? = some x ∧ (j < r.2.1 ∨ r.2.1 + m ≤ j)) ∨ x = mk3 v := fun j x hx => by
      rcases q3 j x hx with ⟨k1, k2⟩ | ⟨k1, k2⟩ | ⟨_, k2⟩
      · exact .inl ⟨k2, .inl k1⟩
      · exact .inl ⟨k2, .inr (by simpa using k1)⟩
      · exact .inr (List.eq_of_mem_replicate (List.mem_of_getElem? k2))
     have hext : Ext (Mut [some g]) w (w.setCells g r.2.1 (List.replicate m (mk3 v))) := by rw [sc_eq]; exact (xo _ w g _).one
     refine k (some ⟨g, 0, none⟩, r.2.1 + m, r.2.2) _ rfl (.inr ⟨g, cur', rfl, q1, hr, e4, by show cur'.size = r.2.2; omega⟩) (fun g' hg' j hj => ?_) (.inl ⟨e1.symm, g, cur, cur', e1, e2, q1, q2, hext, fun j x hx => (q3' j x hx).imp (·.1) id⟩);cases hg'
     have hj' : j < r.2.1 + m := hj;rw [q1.cell];have h2 : j < cur'.size := by omega
     have h3 : cur'[j]? = some cur'[j] := Array.getElem?_eq_getElem h2;rw [h3];rcases q3' j _ h3 with ⟨h4, h5⟩ | h4
     · have h6 := hm g e1 j (by omega);rw [e2.cell, h4] at h6;exact h6
     · rw [h4]
   · have holds : ∀ j u, (List.replicate r.2.1 (mk3 v))[j]? = some u → w.cell? ((⟨g, 0, none⟩ : Addr).add j) = some u := fun j u hu => by
      have hj : j < r.2.1 := by have := List.getElem?_eq_some_iff.1 hu; simpa using this.1
      rw [Lib.add_plain, Nat.zero_add, hm g e1 j hj];simpa [hj] using hu
     obtain ⟨v', w', hrun, r1, r2⟩ := run_append_arg_grows (P := P) w 22 ty 27 i (.int .u64 0) 1 8 hd hi1 hz hs hby rfl (by decide) ⟨g, 0, none⟩ r.2.1 r.2.2 (List.replicate r.2.1 (mk3 v)) (by simp) holds a m c (List.replicate m (mk3 v)) (by simp) hnews (by omega) hml (by omega);rw [← hv] at hrun;refine go v' w' hrun (grow v' w' (by rw [List.replicate_append_replicate] at r1; exact r1) r2)
end
end Go.Proofs.Ytjhmifebmplahaa
namespace Go.Proofs.Ytjhmifebmplahaa
open Go.RowKit
set_option maxRecDepth 100000
def at3 (ls : List Sl) (k : Nat) : Sl := ls.getD k (none, 0, 0)
theorem at3_get {ls : List Sl} {k : Nat} (h : k < ls.length) : ls[k]? = some (at3 ls k) := by
 unfold at3;rw [List.getD_eq_getElem?_getD, List.getElem?_eq_getElem h]; rfl
theorem at3_mem {ls : List Sl} {k : Nat} (h : k < ls.length) : at3 ls k ∈ ls := List.mem_of_getElem? (at3_get h)
theorem oi {ls : List Sl} {k g : Nat} (h : k < ls.length) (hg : (at3 ls k).1 = some ⟨g, 0, none⟩) : Owns ls g k := ⟨_, at3_get h, hg⟩
theorem Bank.at_ {w : World} {ls : List Sl} (h : Bank w ls) {k : Nat} (hk : k < ls.length) : Lane w (at3 ls k) := h _ (at3_mem hk)
theorem Lane.le {w : World} {r : Sl} (h : Lane w r) : r.2.1 ≤ r.2.2 := by
 rcases h with ⟨_, h1, h2⟩ | ⟨_, _, _, _, h, _⟩
 · omega
 · exact h
theorem Marked.less {w : World} {r : Sl} {n m v : Nat} (h : Marked w r n v) (hm : m ≤ n) : Marked w r m v := fun g hg j hj => h g hg j (by omega)
theorem Marked.none_ {w : World} {r : Sl} {v : Nat} : Marked w r 0 v := fun _ _ _ h => absurd h (Nat.not_lt_zero _)
theorem ow_storeL {P : Program} {N : Nat} {ops : Array Oper} {Q : Exit → Act → World → Prop} {σ : Env} {w : World} {dst : Option Nat} {ty : TypeId} {pos : String} {af : Array Edge} {Post : Value → World → Prop} {x y : Operand} {r : Sl} {g i v : Nat}
 (hs : qm P 27 1) (hx : ev σ x = some (.pointer (some ⟨g, i, none⟩))) (hy : ev σ y = some (mk3 v)) (hl : Lane w r) (hg : r.1 = some ⟨g, 0, none⟩) (hi : i < r.2.1) (hm : Marked w r i v)
 (k : ∀ w', AppStep w w' r r v → Lane w' r → Marked w' r (i + 1) v → Post undef w') : OW P N ops Q ⟨dst, .store 27 x y, ty, pos, af, none⟩ σ w Post := by
 obtain ⟨cur, h1, h2, h3, h4⟩ := hl.blk hg;refine gj hs hx hy h1 rfl rfl (by omega) fun w' hb he => ?_;have hb : Blk w' g 27 (yx cur i [mk3 v]) := hb;have key : ∀ j z, (yx cur i [mk3 v])[j]? = some z → (j ≠ i ∧ cur[j]? = some z) ∨ z = mk3 v := fun j z hz => by
  simp only [yx, Array.getElem?_setIfInBounds] at hz
  by_cases e : i = j
  · subst e;rw [if_pos rfl, if_pos (by omega)] at hz;exact .inr (by simpa using hz.symm)
  · rw [if_neg e] at hz; exact .inl ⟨fun e' => e e'.symm, hz⟩
 have hsz : (yx cur i [mk3 v]).size = cur.size := jd _ _ _;refine k w' (.inl ⟨rfl, g, cur, _, hg, h1, hb, hsz, he, fun j z hz => (key j z hz).imp (·.2) id⟩) (.inr ⟨g, _, hg, hb, h2, h3, by omega⟩) (fun g' hg' j hj => ?_);rw [hg] at hg'; cases hg';have hb' : Blk w' g 27 (yx cur i [mk3 v]) := hb;rw [hb'.cell];have e2 : j < (yx cur i [mk3 v]).size := by omega
 have e3 : (yx cur i [mk3 v])[j]? = some (yx cur i [mk3 v])[j] := Array.getElem?_eq_getElem e2;rw [e3];rcases key j _ e3 with ⟨h5, h6⟩ | h6
 · have h7 := hm g hg j (by omega);rw [h1.cell, h6] at h7;exact h7
 · rw [h6]
def Laid (ls : List Sl) (k : Nat) (w : World) : Prop := Bank w ls ∧ ∀ m, m < k → Marked w (at3 ls m) (at3 ls m).2.1 (m + 1000)
theorem Laid.paint {ls : List Sl} {k : Nat} {w w' : World} (h : Laid ls k w) (hk : k ≤ ls.length) (hs : Single ls) (p : Paint ls w.heap.size w w') : Laid ls k w' :=
 ⟨fun r hr => p.lane (h.1 r hr) (fun g hg => (h.1 r hr).lt hg), fun m hm => p.marked (h.1.at_ (by omega)) (h.2 m hm) (h.1.at_ (by omega)).le (fun g hg => (h.1.at_ (by omega : m < ls.length)).lt hg) (fun g q hg hq => by rw [hs g m q (oi (by omega) hg) hq])⟩
def Grown (ls gs : List Sl) (w : World) : Prop := ∀ m r, gs[m]? = some r → Lane w r ∧ Marked w r r.2.1 (m / 2 + 1000) ∧ ∀ b q, r.1 = some ⟨b, 0, none⟩ → Owns ls b q → q = m / 2
theorem Grown.paint {ls gs : List Sl} {w w' : World} (h : Grown ls gs w) (p : Paint ls w.heap.size w w') : Grown ls gs w' := fun m r hr => by
 obtain ⟨h1, h2, h3⟩ := h m r hr;exact ⟨p.lane h1 (fun g hg => h1.lt hg), p.marked h1 h2 h1.le (fun g hg => h1.lt hg) (fun g q hg hq => by rw [h3 g q hg hq]), h3⟩
theorem Ext.ownsX {X : Nat → Prop} {w w' : World} {base n size : Nat} {e : TypeId} {v : Value} {xs : List Value} (h : Ext X w w') (ho : w.ownsRow base e size v n xs) (hx : ∀ g, v.ownBlock = some g → ¬ X g) : w'.ownsRow base e size v n xs := by
 refine ⟨ho.1, ?_⟩;rcases ho.2 with h1 | ⟨g, cap, cur, hv, hg, hh, r⟩
 · exact .inl h1
 · exact .inr ⟨g, cap, cur, hv, hg, (h.block g (Array.getElem?_eq_some_iff.1 hh).1 (hx g (by rw [hv]; rfl))).trans hh, r⟩
theorem Ext.atEnd {X : Nat → Prop} {w w' : World} (h : Ext X w w') {g o : Nat} {v : Value} (hc : w.cell? ⟨g, o, none⟩ = some v) (hx : ¬ X g) : w'.cell? ⟨g, o, none⟩ = some v := by
 rw [h.cell (p := ⟨g, o, none⟩) (World.block_lt_of_cell? w _ hc) hx]; exact hc
structure Grow (ls : List Sl) (k : Nat) (w4 w' : World) (r : Sl) (n : Nat) : Prop where
 lane : Lane w' r
 mark : Marked w' r n (k + 1000)
 le : n ≤ r.2.1
 own : ∀ b, r.1 = some ⟨b, 0, none⟩ → Owns ls b k ∨ w4.heap.size ≤ b
structure Went (ls : List Sl) (w4 w' : World) : Prop where
 ext : Ext (Bk ls) w4 w'
 paint : Paint ls w4.heap.size w4 w'
theorem Went.refl {ls : List Sl} {w4 : World} : Went ls w4 w4 := ⟨Ext.refl _ _, Paint.refl⟩
theorem Went.fresh {ls : List Sl} {w4 w' w'' : World} (h : Went ls w4 w') (e : Ext No w' w'') : Went ls w4 w'' :=
 ⟨h.ext.step e (fun _ h => h.elim), h.paint.trans (Paint.no e (fun _ h _ => h.elim) h.ext.size)⟩
theorem Went.step {ls : List Sl} {k n : Nat} {w4 w' w'' : World} {r r' : Sl} (h : Went ls w4 w') (g : Grow ls k w4 w' r n) (s : AppStep w' w'' r r' (k + 1000)) : Went ls w4 w'' :=
 ⟨s.ext h.ext g.own, h.paint.trans (s.paint h.ext.size g.own)⟩
theorem Went.row {ls : List Sl} {w4 w' w'' : World} {base n size : Nat} {e : TypeId} {v : Value} {xs : List Value} (h : Went ls w4 w') (o : w'.ownsRow base e size v n xs) (he : e ≠ 27) (E : Ext (Mut [v.ownBlock]) w' w'') : Paint ls w4.heap.size w4 w'' :=
 h.paint.trans fun b cur hlt hc => ⟨cur, E.blk hc (fun hX => by
  rcases hX with hX | hX
  · rcases o.2 with ⟨rfl, _⟩ | ⟨g, cap, cu, rfl, _, hg, _⟩
    · cases hX
    · have e : b = g := Option.some.inj hX;have h1 : w'.heap[b]? = some (.cells cur 27 (0, 0)) := hc;rw [← e, h1] at hg;simp only [Option.some.injEq, Obj.cells.injEq] at hg
      exact he hg.2.1.symm
  · exact hX.elim), rfl, fun _ _ h => .inl h⟩
theorem Grow.fresh {ls : List Sl} {k n : Nat} {w4 w' w'' : World} {r : Sl} (h : Grow ls k w4 w' r n) (e : Ext No w' w'') : Grow ls k w4 w'' r n :=
 ⟨e.lane h.lane (fun _ _ h => h.elim), e.marked h.lane h.mark (fun _ _ h => h.elim), h.le, h.own⟩
theorem Grow.other {ls : List Sl} {k n : Nat} {w4 w' w'' : World} {r s s' : Sl} (h : Grow ls k w4 w' r n) (st : AppStep w' w'' s s' (k + 1000)) : Grow ls k w4 w'' r n :=
 have h1 := st.same h.lane h.mark (Nat.le_trans h.le h.lane.le);⟨h1.1, h1.2, h.le, h.own⟩
theorem Grow.step {ls : List Sl} {k n : Nat} {w4 w' w'' : World} {r r' : Sl} (h : Grow ls k w4 w' r n) (W : Went ls w4 w') (st : AppStep w' w'' r r' (k + 1000)) (hl : Lane w'' r') (hm : Marked w'' r' r'.2.1 (k + 1000)) : Grow ls k w4 w'' r' r'.2.1 :=
 ⟨hl, hm, Nat.le_refl _, fun b hb => by
  rcases st with ⟨h1, _⟩ | ⟨⟨b', h1, h2⟩, _⟩
  · exact h.own b (h1 ▸ hb)
  · rw [h1] at hb; cases hb; exact .inr (Nat.le_trans W.ext.size h2)⟩
theorem Grow.row {ls : List Sl} {k m : Nat} {w4 w' w'' : World} {r : Sl} {base n size : Nat} {e : TypeId} {v : Value} {xs : List Value} (h : Grow ls k w4 w' r m) (o : w'.ownsRow base e size v n xs) (he : e ≠ 27) (E : Ext (Mut [v.ownBlock]) w' w'') : Grow ls k w4 w'' r m := by
 have hx : ∀ g, r.1 = some ⟨g, 0, none⟩ → ¬ Mut [v.ownBlock] g := fun g hg hX => by
  rcases hX with hX | hX
  · rcases o.2 with ⟨rfl, _⟩ | ⟨g', cap, cu, rfl, _, hg', _⟩
    · cases hX
    · have e : g = g' := Option.some.inj hX;obtain ⟨cur, h1, _⟩ := h.lane.blk hg;have h2 : w'.heap[g]? = some (.cells cur 27 (0, 0)) := h1;rw [← e, h2] at hg';simp only [Option.some.injEq, Obj.cells.injEq] at hg'
      exact he hg'.2.1.symm
  · exact hX.elim
 exact ⟨E.lane h.lane hx, E.marked h.lane h.mark hx, h.le, h.own⟩
theorem grown_snoc {ls gs : List Sl} {k : Nat} {w4 w' : World} {r s : Sl} (h : Grown ls gs w') (hl : gs.length = 2 * k) (hS : Single ls) (hk : ∀ b, Bk ls b → b < w4.heap.size) (g1 : Grow ls k w4 w' r r.2.1) (g2 : Grow ls k w4 w' s s.2.1) : Grown ls (gs ++ [r, s]) w' := by
 have key : ∀ {t : Sl}, Grow ls k w4 w' t t.2.1 → ∀ b q, t.1 = some ⟨b, 0, none⟩ → Owns ls b q → q = k := fun g b q hb hq => by
  rcases g.own b hb with h1 | h1
  · exact hS b q k hq h1
  · have := hk b ⟨q, hq⟩; omega
 intro m t ht;rcases Nat.lt_or_ge m gs.length with h1 | h1
 · rw [List.getElem?_append_left h1] at ht; exact h m t ht
 · rw [List.getElem?_append_right h1, hl] at ht;obtain ⟨d, hd⟩ : ∃ d, m - 2 * k = d := ⟨_, rfl⟩;rw [hd] at ht;have hm : m / 2 = k ∨ 2 ≤ d := by omega
   rcases d with _ | _ | d
   · simp at ht; subst ht
     rw [show m / 2 = k by omega];exact ⟨g1.lane, g1.mark, key g1⟩
   · simp at ht; subst ht
     rw [show m / 2 = k by omega];exact ⟨g2.lane, g2.mark, key g2⟩
   · simp at ht
section
variable (ls : List Sl) (gl ol c : Nat) (w : World)
theorem apart_any (hB : Bank w ls) (hS : Single ls) (hgl : ¬ Bk ls gl) (hrow : ∀ j, j < ls.length → w.cell? ⟨gl, ol + j, none⟩ = some (sl3 (at3 ls j))) (hlen : ls.length ≤ 1000) (hbd : ∀ r ∈ ls, r.2.1 + 48 ≤ 17592186044416) :
 Calls Try.prog 19 #[.slice (some ⟨gl, ol, none⟩) ls.length c] w fun e w' => e = .returned (.bool true) ∧ Ext (Bk ls) w w' := by
 have hsz : ∀ {k : Nat}, k < ls.length → (at3 ls k).2.1 + 48 ≤ 17592186044416 := fun hk => hbd _ (at3_mem hk)
 refine yg Try.func19 rfl Try.ntmps19 rfl (srx (anx rfl (zi (srx (anx rfl (zu (qa (ι := Nat) (fun k => [(0, .slice (some ⟨gl, ol, none⟩) ls.length c), (2, .bool false), (3, .int .i64 (k : Int))]) (fun k w' => Laid ls k w' ∧ Ext (Bk ls) w w' ∧ k ≤ ls.length) (fun k => ls.length - k) 0 ⟨rfl, rfl, rfl, trivial⟩ (⟨⟨hB, fun _ h => absurd h (Nat.not_lt_zero _)⟩, Ext.refl _ _, Nat.zero_le _⟩) ?_)))))))
 rintro k w2 ⟨hL, hE, hk⟩;refine zi (srx (mvx rfl (mvx rfl (zb rfl (yi Try.underlying50 rfl (zb rfl (yl rfl rfl (rnx (ym rfl (fun q => ?_) (fun q => ?_))))))))))
 ·
  have q := of_decide_eq_true q;have hk' : k < ls.length := by omega
  refine zp (zd (zi (zu (srx (anx rfl (zu (qa (ι := Nat) (fun i => [(0, .slice (some ⟨gl, ol, none⟩) ls.length c), (2, .bool false), (3, .int .i64 (k : Int)), (4, .int .i64 (i : Int))]) (fun i w' => Laid ls k w' ∧ Ext (Bk ls) w w' ∧ i ≤ (at3 ls k).2.1 ∧ Marked w' (at3 ls k) i (k + 1000)) (fun i => (at3 ls k).2.1 - i) 0 ⟨rfl, rfl, rfl, rfl, trivial⟩ (⟨hL, hE, Nat.zero_le _, Marked.none_⟩) ?_)))))))
  rintro i w4 ⟨hL2, hE2, hi, hM⟩;refine zi (srx (mvx rfl (mvx rfl (mvx rfl (zb rfl (zk (j := k) Try.underlying50 qv rfl rfl rfl hk' (zb rfl (yk Try.underlying22 rfl rfl (hE2.atEnd (hrow k hk') hgl) (zb rfl (yi Try.underlying22 rfl (zb rfl (yl rfl rfl (rnx (ym rfl (fun q2 => ?_) (fun q2 => ?_)))))))))))))))
  ·
   have q2 := of_decide_eq_true q2;have hsz' := hsz hk'
   refine zp (zd (zi (zu (zz (mvx rfl (mvx rfl (zb rfl (zk (j := k) Try.underlying50 qv rfl rfl rfl hk' (zb rfl (yk Try.underlying22 rfl rfl (hE2.atEnd (hrow k hk') hgl) (mvx rfl (mvx rfl (zb rfl (yt Try.underlying27 Try.underlying3 rfl (yf (by omega)) (zb rfl (yc rfl rfl (yf (by omega)) ?_))))))))))))))))
   have hla := hL2.1.at_ hk';obtain ⟨g, hg⟩ := hla.addr (by omega)
   refine zt 33 (.slice (some ⟨g, 0, none⟩) (at3 ls k).2.1 (at3 ls k).2.2) rfl ((by rw [hg] : (.slice (at3 ls k).1 (at3 ls k).2.1 (at3 ls k).2.2 : Value) = _)) (zb rfl (zk (j := i) Try.underlying22 qi rfl rfl rfl (by omega) (zt 38 (.pointer (some ⟨g, i, none⟩)) rfl ((by rw [Nat.zero_add] : (.pointer (some ⟨g, 0 + i, none⟩) : Value) = _)) (qd (ow_storeL (r := at3 ls k) (v := k + 1000) qi rfl rfl hla hg (by omega) hM ?_)))))
   rintro w3 hst hl3 hm3;have hp := hst.paint (ls := ls) (k := k) (Nat.le_refl _) (fun b hb => .inl (oi hk' hb));refine yp (zh (zd (zz (mvx rfl (zb rfl (yc rfl rfl (zo (by omega)) (avx rfl (yp ?_))))))))
   exact yo (i + 1) (by show (at3 ls k).2.1 - (i + 1) < (at3 ls k).2.1 - i; omega) ⟨rfl, rfl, rfl, rfl, trivial⟩ (⟨hL2.paint hk hS hp, hst.ext hE2 (fun b hb => .inl (oi hk' hb)), by omega, hm3⟩)
  ·
   have q2 := of_decide_eq_false q2;have hi2 : i = (at3 ls k).2.1 := by omega
   subst hi2;refine qb (zm (zm (yb (zh (zd (zz (mvx rfl (zb rfl (yc rfl rfl (zo (by omega)) (avx rfl (yp ?_)))))))))))
   exact yo (k + 1) (by show ls.length - (k + 1) < ls.length - k; omega) ⟨rfl, rfl, rfl, trivial⟩ (⟨⟨hL2.1, fun m hm => (Nat.lt_or_ge m k).elim (hL2.2 m) (fun h => by rw [show m = k by omega]; exact hM)⟩, hE2, by omega⟩)
 ·
  have q := of_decide_eq_false q;have hk2 : k = ls.length := by omega
  subst hk2;have hbk : ∀ {b}, Bk ls b → b < w.heap.size := fun ⟨m, r, hr, hb⟩ => (hB r (List.mem_of_getElem? hr)).lt hb
  refine qb (zm (zm (yb (zd (srx (anx rfl (zi (srx (anx rfl (zu (qa (ι := Nat × List Sl × Option Addr × Nat) (fun (k, gs, A5, c5) => [(0, .slice (some ⟨gl, ol, none⟩) ls.length c), (2, .bool false), (5, .slice A5 (2 * k) c5), (6, .int .i64 (k : Int))]) (fun (k, gs, A5, c5) w' => Laid ls ls.length w' ∧ Ext (Bk ls) w w' ∧ k ≤ ls.length ∧ gs.length = 2 * k ∧ Grown ls gs w' ∧ w'.ownsRow w.heap.size 22 1 (.slice A5 (2 * k) c5) (2 * k) (gs.map sl3)) (fun (k, gs, A5, c5) => ls.length - k) (0, [], none, 0) ⟨rfl, rfl, rfl, rfl, trivial⟩ (⟨hL, hE, Nat.zero_le _, rfl, fun m r h => by simp at h, World.ownsRow_nil _ _ _ _⟩) ?_)))))))))))
  rintro ⟨k, gs, A5, c5⟩ w6 ⟨hL4, hE4, hk4, hgl4, hG4, hO4⟩;refine zi (srx (mvx rfl (mvx rfl (zb rfl (yi Try.underlying50 rfl (zb rfl (yl rfl rfl (rnx (ym rfl (fun q4 => ?_) (fun q4 => ?_))))))))))
  ·
   have q4 := of_decide_eq_true q4;have hk' : k < ls.length := by omega
   have hsz' := hsz hk';obtain ⟨w4, hw4⟩ : ∃ w4, w4 = w6 := ⟨_, rfl⟩;rw [← hw4] at hL4 hE4 hG4 hO4;have hbk4 : ∀ b, Bk ls b → b < w4.heap.size := fun b hb => Nat.lt_of_lt_of_le (hbk hb) hE4.size
   have hO4' : ∀ {w'}, Ext (Bk ls) w4 w' → w'.ownsRow w.heap.size 22 1 (.slice A5 (2 * k) c5) (2 * k) (gs.map sl3) := fun e => Ext.ownsX e hO4 (fun g hg hX => by have h1 := (hO4.lt g hg).1; have h2 := hbk hX; omega);have G0 : Grow ls k w4 w4 (at3 ls k) (at3 ls k).2.1 := ⟨hL4.1.at_ hk', hL4.2 k hk', Nat.le_refl _, fun b hb => .inl (oi hk' hb)⟩;have W0 : Went ls w4 w4 := Went.refl
   refine zp (zd (zi (zu (srx (mvx rfl (mvx rfl (zb rfl (zk (j := k) Try.underlying50 qv rfl rfl rfl hk' (zb rfl (yk Try.underlying22 rfl rfl ((hw4 ▸ hE4).atEnd (hrow k hk') hgl) (anx rfl (zi (srx (anx rfl (zu (qa (ι := Nat × Sl) (fun (i, r) => [(0, .slice (some ⟨gl, ol, none⟩) ls.length c), (2, .bool false), (5, .slice A5 (2 * k) c5), (6, .int .i64 (k : Int)), (7, .slice r.1 r.2.1 r.2.2), (8, .int .i64 (i : Int))]) (fun (i, r) w' => i ≤ 6 ∧ r.2.1 = (at3 ls k).2.1 + i ∧ Went ls w4 w' ∧ Grow ls k w4 w' (at3 ls k) (at3 ls k).2.1 ∧ Grow ls k w4 w' r r.2.1) (fun (i, r) => 6 - i) (0, at3 ls k) ⟨rfl, rfl, rfl, rfl, rfl, rfl, trivial⟩ (⟨Nat.zero_le _, rfl, hw4 ▸ W0, hw4 ▸ G0, hw4 ▸ G0⟩) ?_))))))))))))))))
   rintro ⟨i, r⟩ w8 ⟨hi, hr, W1, G1, R1⟩;refine zi (srx (mvx rfl (zb rfl (yl rfl rfl (rnx (ym rfl (fun q5 => ?_) (fun q5 => ?_)))))))
   ·
    have q5 := of_decide_eq_true q5;refine zp (zd (zi (zu (zz (mvx rfl (mvx rfl (zb rfl (yt Try.underlying27 Try.underlying3 rfl (yf (by omega)) (zb rfl (yc rfl rfl (yf (by omega)) (zb rfl (qn (cs := #[.int .u64 ((k : Int) + 1000)]) Try.underlying22 qi zr27 (by decide) rfl (by rw [vc]; rfl) ?_))))))))))))
    rintro g6 w6 hb6 he6 hg6;have hn6 : ∀ j, j < 1 → w6.cell? ((⟨g6, 0, none⟩ : Addr).add j) = some (mk3 (k + 1000)) := fun j hj => by
     obtain rfl : j = 0 := by omega
     rw [Lib.add_plain, hb6.cell]; rfl
    have W2 := W1.fresh he6;have G2 := G1.fresh he6;have R2 := R1.fresh he6;refine zb rfl (ow_appendL (r := r) (v := k + 1000) (m := 1) Try.underlying22 oa rfl R2.lane R2.mark rfl hn6 (by omega) (by decide) ?_);rintro r7 w7 hn7 hl7 hm7 hs7;refine avx rfl (yp (zh (zd (zz (mvx rfl (zb rfl (yc rfl rfl (zo (by omega)) (avx rfl (yp ?_)))))))))
    exact yo (i + 1, r7) (by show 6 - (i + 1) < 6 - i; omega) ⟨rfl, rfl, rfl, rfl, rfl, rfl, trivial⟩ (⟨by omega, by rw [hn7, hr]; omega, W2.step R2 hs7, G2.other hs7, R2.step W2 hs7 hl7 hm7⟩)
   ·
    have q5 := of_decide_eq_false q5;have hr6 : r.2.1 = (at3 ls k).2.1 + 6 := by omega
    refine qb (zm (zm (yb (zd (srx (zb rfl (jy (n := 48) Try.underlying22 oa rfl rfl rfl rfl rfl (by decide) (by decide) ?_)))))));rintro gm w8 hb8 he8 hg8;have W2 := W1.fresh he8;have G2 := G1.fresh he8;have R2 := R1.fresh he8;have hgm4 : w4.heap.size ≤ gm := Nat.le_trans W1.ext.size hg8
    have M2 : Grow ls k w4 w8 (some ⟨gm, 0, none⟩, 48, 48) 0 := ⟨.inr ⟨gm, _, rfl, hb8, Nat.le_refl _, (by unfold maxLen; omega : 48 ≤ maxLen), by simp⟩, Marked.none_, Nat.zero_le _, fun b hb => by cases hb; exact .inr hgm4⟩
    refine anx rfl (zi (srx (anx rfl (zu (qa (ι := Nat) (fun i => [(0, .slice (some ⟨gl, ol, none⟩) ls.length c), (2, .bool false), (5, .slice A5 (2 * k) c5), (6, .int .i64 (k : Int)), (7, .slice r.1 r.2.1 r.2.2), (9, .slice (some ⟨gm, 0, none⟩) 48 48), (10, .int .i64 (i : Int))]) (fun i w' => Went ls w4 w' ∧ Grow ls k w4 w' (at3 ls k) (at3 ls k).2.1 ∧ Grow ls k w4 w' r r.2.1 ∧ Grow ls k w4 w' (some ⟨gm, 0, none⟩, 48, 48) i) (fun i => 48 - i) 0 ⟨rfl, rfl, rfl, rfl, rfl, rfl, rfl, trivial⟩ (⟨W2, G2, R2, M2⟩) ?_)))))
    rintro i w10 ⟨W3, G3, R3, M3⟩;refine zi (srx (mvx rfl (mvx rfl (zb rfl (yi Try.underlying22 rfl (zb rfl (yl rfl rfl (rnx (ym rfl (fun q6 => ?_) (fun q6 => ?_))))))))))
    ·
     have q6 := of_decide_eq_true q6
     refine zp (zd (zi (zu (zz (mvx rfl (mvx rfl (mvx rfl (zb rfl (yt Try.underlying27 Try.underlying3 rfl (yf (by omega)) (zb rfl (yc rfl rfl (yf (by omega)) (zb rfl (zk (j := i) Try.underlying22 qi rfl rfl rfl (by omega) (zt 71 (.pointer (some ⟨gm, i, none⟩)) rfl ((by rw [Nat.zero_add] : (.pointer (some ⟨gm, 0 + i, none⟩) : Value) = _)) (qd (ow_storeL (r := (some ⟨gm, 0, none⟩, 48, 48)) (v := k + 1000) qi rfl rfl M3.lane rfl (by show i < 48; omega) M3.mark ?_))))))))))))))))
     rintro w9 hs9 hl9 hm9;refine yp (zh (zd (zz (mvx rfl (zb rfl (yc rfl rfl (zo (by omega)) (avx rfl (yp ?_))))))));exact yo (i + 1) (by show 48 - (i + 1) < 48 - i; omega) ⟨rfl, rfl, rfl, rfl, rfl, rfl, rfl, trivial⟩ (⟨W3.step M3 hs9, G3.other hs9, R3.other hs9, ⟨hl9, hm9, (by omega : i + 1 ≤ 48), M3.own⟩⟩)
    ·
     have q6 := of_decide_eq_false q6;have hi48 : i = 48 := by have := M3.le; have : i ≤ 48 := this; omega
     subst hi48
     refine qb (zm (zm (yb (zd (zz (mvx rfl (mvx rfl (mvx rfl (mvx rfl (zb rfl (zk (j := k) Try.underlying50 qv rfl rfl rfl hk' (zb rfl (yk Try.underlying22 rfl rfl (W3.ext.atEnd (hE4.atEnd (hrow k hk') hgl) hgl) (mvx rfl (zb rfl (ow_appendL (r := at3 ls k) (v := k + 1000) (m := 48) Try.underlying22 oa rfl G3.lane G3.mark rfl (fun j hj => by rw [Lib.add_plain, Nat.zero_add]; exact M3.mark gm rfl j hj) (by omega) (by decide) ?_))))))))))))))))
     rintro r7 w10 hn7 hl7 hm7 hs7;have W4 := W3.step G3 hs7;have G4 := G3.step W3 hs7 hl7 hm7;have R4 := R3.other hs7;refine zb rfl (qn (cs := #[sl3 r, sl3 r7]) Try.underlying50 qv zr22 (by decide) rfl (by rw [vc]; rfl) ?_);rintro g11 w11 hb11 he11 hg11;have W5 := W4.fresh he11;have G5 := G4.fresh he11;have R5 := R4.fresh he11;have O5 := hO4' W5.ext
     refine zb rfl (ow_append (news := [sl3 r, sl3 r7]) Try.underlying50 inf22 rfl (by decide) rfl O5 rfl (reads_row hb11 hb11.lt rfl) (by simp [Value.oneCell', sl3]) (by unfold maxLen; omega) (by omega) (Nat.le_trans hE4.size W5.ext.size) ?_);rintro v12 w12 On En KN;obtain ⟨A12, c12, rfl⟩ := xj On;have P6 : Paint ls w4.heap.size w4 w12 := W5.row O5 (by decide) En
     have E6 : Ext (Bk ls) w w12 := (hE4.trans W5.ext).step En (fun i hi => by
      rcases hi with hi | hi
      · exact .inr (O5.lt i hi.symm).1
      · exact hi.elim)
     refine avx rfl (yp (zh (zd (zz (mvx rfl (zb rfl (yc rfl rfl (zo (by omega)) (avx rfl (yp (ku 5 (.slice A12 (2 * (k + 1)) c12) rfl (rfl) ?_))))))))))
     exact yo (k + 1, gs ++ [r, r7], A12, c12) (by show ls.length - (k + 1) < ls.length - k; omega) ⟨rfl, rfl, rfl, rfl, trivial⟩ (⟨hL4.paint (Nat.le_refl _) hS P6, E6, by omega, by rw [List.length_append, hgl4]; rfl, grown_snoc (hG4.paint P6) hgl4 hS hbk4 (R5.row O5 (by decide) En) (G5.row O5 (by decide) En), by rw [List.map_append]; exact On⟩)
  ·
   have q4 := of_decide_eq_false q4;have hk2 : k = ls.length := by omega
   subst hk2;have hgsl : ∀ {m}, m < 2 * ls.length → gs[m]? = some (at3 gs m) := fun hm => at3_get (by omega);have hgrow : ∀ {m}, m < 2 * ls.length → ∃ g, A5 = some ⟨g, 0, none⟩ ∧ World.cell? w6 ⟨g, 0 + m, none⟩ = some (sl3 (at3 gs m)) := fun {m} hm => by
    obtain ⟨g, h1, _, _, h2⟩ := js hO4 (by omega);refine ⟨g, h1, ?_⟩;rw [Nat.zero_add];exact h2 m _ (by rw [List.getElem?_map, hgsl hm]; rfl)
   obtain ⟨w5, hw5⟩ : ∃ w5, w5 = w6 := ⟨_, rfl⟩;rw [← hw5] at hL4 hE4 hG4 hgrow
   refine qb (zm (zm (yb (zd (zi (srx (anx rfl (zu (qa (ι := Nat) (fun k => [(0, .slice (some ⟨gl, ol, none⟩) ls.length c), (2, .bool false), (5, .slice A5 (2 * ls.length) c5), (11, .int .i64 (k : Int))]) (fun k w' => w5 = w') (fun k => 2 * ls.length - k) 0 ⟨rfl, rfl, rfl, rfl, trivial⟩ (hw5) ?_)))))))));rintro k w12 rfl
   refine zi (srx (mvx rfl (mvx rfl (zb rfl (yi Try.underlying50 rfl (zb rfl (yl rfl rfl (rnx (ym rfl (fun q7 => ?_) (fun q7 => ?_))))))))))
   ·
    have q7 := of_decide_eq_true q7;have hk' : k < 2 * ls.length := by omega
    obtain ⟨gg, hA5, hcg⟩ := hgrow hk';obtain ⟨hl7, hm7, _⟩ := hG4 k _ (hgsl hk')
    refine zp (zd (zi (zu (srx (anx rfl (zu (qk 5 (.slice (some ⟨gg, 0, none⟩) (2 * ls.length) c5) rfl ((by rw [hA5] : (.slice A5 (2 * ls.length) c5 : Value) = _)) (qa (ι := Nat) (fun i => [(0, .slice (some ⟨gl, ol, none⟩) ls.length c), (2, .bool false), (5, .slice (some ⟨gg, 0, none⟩) (2 * ls.length) c5), (11, .int .i64 (k : Int)), (12, .int .i64 (i : Int))]) (fun i w' => w5 = w') (fun i => (at3 gs k).2.1 - i) 0 ⟨rfl, rfl, rfl, rfl, rfl, trivial⟩ (rfl) ?_))))))))
    rintro i w14 rfl;refine zi (srx (mvx rfl (mvx rfl (mvx rfl (zb rfl (zk (j := k) Try.underlying50 qv rfl rfl rfl hk' (zb rfl (yk Try.underlying22 rfl rfl hcg (zb rfl (yi Try.underlying22 rfl (zb rfl (yl rfl rfl (rnx (ym rfl (fun q8 => ?_) (fun q8 => ?_)))))))))))))))
    ·
     have q8 := of_decide_eq_true q8;have hi8 : i < (at3 gs k).2.1 := by omega
     obtain ⟨g8, hg8⟩ := hl7.addr (by omega);obtain ⟨_, _, _, hmx, _⟩ := hl7.blk hg8;have hle7 := hl7.le;unfold maxLen at hmx
     refine zp (zd (zi (zu (srx (mvx rfl (mvx rfl (zb rfl (zk (j := k) Try.underlying50 qv rfl rfl rfl hk' (zb rfl (yk Try.underlying22 rfl rfl hcg (zt 100 (.slice (some ⟨g8, 0, none⟩) (at3 gs k).2.1 (at3 gs k).2.2) rfl ((by rw [hg8] : (.slice (at3 gs k).1 (at3 gs k).2.1 (at3 gs k).2.2 : Value) = _)) (mvx rfl (zb rfl (zk (j := i) Try.underlying22 qi rfl rfl rfl hi8 (zb rfl (yk Try.underlying27 rfl rfl (by rw [Nat.zero_add]; exact hm7 g8 hg8 i hi8) (mvx rfl (zb rfl (jv (z := ((k / 2 : Nat) : Int)) rfl rfl (by decide) (by rw [show ((k : Int).tdiv 2) = ((k / 2 : Nat) : Int) by rw [Int.tdiv_eq_ediv_of_nonneg (by omega)]; omega]; exact zo (by omega)) (zb rfl (yt Try.underlying27 Try.underlying3 rfl (yf (by omega)) (zb rfl (yc rfl rfl (yf (by omega)) (zb rfl (qj rfl rfl (rnx (qk 108 (.bool false) rfl ((by rw [show (((k / 2 + 1000 : Nat) : Int)) = ((k / 2 : Nat) : Int) + 1000 by omega, bne_self_eq_false] : (.bool (((k / 2 + 1000 : Nat) : Int) != (((k / 2 : Nat) : Int) + 1000)) : Value) = _)) (zy rfl (zp (zh (zd (zz (mvx rfl (zb rfl (yc rfl rfl (zo (by omega)) (avx rfl (yp ?_)))))))))))))))))))))))))))))))))))))
     exact yo (i + 1) (by show (at3 gs k).2.1 - (i + 1) < (at3 gs k).2.1 - i; omega) ⟨rfl, rfl, rfl, rfl, rfl, trivial⟩ (rfl)
    ·
     refine qb (zm (zm (yb (zh (zd (zz (mvx rfl (zb rfl (yc rfl rfl (zo (by omega)) (avx rfl (yp (ku 5 (.slice A5 (2 * ls.length) c5) rfl ((by rw [hA5] : (.slice (some ⟨gg, 0, none⟩) (2 * ls.length) c5 : Value) = _)) ?_))))))))))))
     exact yo (k + 1) (by show 2 * ls.length - (k + 1) < 2 * ls.length - k; omega) ⟨rfl, rfl, rfl, rfl, trivial⟩ (rfl)
   ·
    refine qb (zm (zm (yb (zd (zi (srx (anx rfl (zu (qa (ι := Nat) (fun k => [(0, .slice (some ⟨gl, ol, none⟩) ls.length c), (2, .bool false), (13, .int .i64 (k : Int))]) (fun k w' => w5 = w') (fun k => ls.length - k) 0 ⟨rfl, rfl, rfl, trivial⟩ (rfl) ?_)))))))));rintro k w16 rfl
    refine zi (srx (mvx rfl (mvx rfl (zb rfl (yi Try.underlying50 rfl (zb rfl (yl rfl rfl (rnx (ym rfl (fun q7 => ?_) (fun q7 => ?_))))))))))
    ·
     have q7 := of_decide_eq_true q7;have hk' : k < ls.length := by omega
     refine zp (zd (zi (zu (srx (anx rfl (zu (qa (ι := Nat) (fun i => [(0, .slice (some ⟨gl, ol, none⟩) ls.length c), (2, .bool false), (13, .int .i64 (k : Int)), (14, .int .i64 (i : Int))]) (fun i w' => w5 = w') (fun i => (at3 ls k).2.1 - i) 0 ⟨rfl, rfl, rfl, rfl, trivial⟩ (rfl) ?_)))))));rintro i w18 rfl
     refine zi (srx (mvx rfl (mvx rfl (mvx rfl (zb rfl (zk (j := k) Try.underlying50 qv rfl rfl rfl hk' (zb rfl (yk Try.underlying22 rfl rfl (hE4.atEnd (hrow k hk') hgl) (zb rfl (yi Try.underlying22 rfl (zb rfl (yl rfl rfl (rnx (ym rfl (fun q8 => ?_) (fun q8 => ?_)))))))))))))))
     ·
      have q8 := of_decide_eq_true q8;have hi8 : i < (at3 ls k).2.1 := by omega
      obtain ⟨g8, hg8⟩ := (hL4.1.at_ hk').addr (by omega);have hsz8 := hsz hk'
      refine zp (zd (zi (zu (srx (mvx rfl (mvx rfl (zb rfl (zk (j := k) Try.underlying50 qv rfl rfl rfl hk' (zb rfl (yk Try.underlying22 rfl rfl (hE4.atEnd (hrow k hk') hgl) (zt 127 (.slice (some ⟨g8, 0, none⟩) (at3 ls k).2.1 (at3 ls k).2.2) rfl ((by rw [hg8] : (.slice (at3 ls k).1 (at3 ls k).2.1 (at3 ls k).2.2 : Value) = _)) (mvx rfl (zb rfl (zk (j := i) Try.underlying22 qi rfl rfl rfl hi8 (zb rfl (yk Try.underlying27 rfl rfl (by rw [Nat.zero_add]; exact hL4.2 k hk' g8 hg8 i hi8) (mvx rfl (zb rfl (yt Try.underlying27 Try.underlying3 rfl (yf (by omega)) (zb rfl (yc rfl rfl (yf (by omega)) (zb rfl (qj rfl rfl (rnx (qk 134 (.bool false) rfl ((by rw [show (((k + 1000 : Nat) : Int)) = (k : Int) + 1000 by omega, bne_self_eq_false] : (.bool (((k + 1000 : Nat) : Int) != ((k : Int) + 1000)) : Value) = _)) (zy rfl (zp (zh (zd (zz (mvx rfl (zb rfl (yc rfl rfl (zo (by omega)) (avx rfl (yp ?_)))))))))))))))))))))))))))))))))))
      exact yo (i + 1) (by show (at3 ls k).2.1 - (i + 1) < (at3 ls k).2.1 - i; omega) ⟨rfl, rfl, rfl, rfl, trivial⟩ (rfl)
     ·
      refine qb (zm (zm (yb (zh (zd (zz (mvx rfl (zb rfl (yc rfl rfl (zo (by omega)) (avx rfl (yp ?_)))))))))));exact yo (k + 1) (by show ls.length - (k + 1) < ls.length - k; omega) ⟨rfl, rfl, rfl, trivial⟩ (rfl)
    ·
     refine qb (zm (zm (yb (zd (srx (anx rfl (zx (zw (rs := [.tmp 2]) (vs := [_]) rfl ⟨rfl, trivial⟩ ?_))))))));exact ⟨rfl, hE4⟩
end
end Go.Proofs.Ytjhmifebmplahaa

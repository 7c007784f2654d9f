/- Texts of this claim. -/
import Derived.Test.YtppdgjlmeahimaaDoorE10
import Derived.RangeFuncOwn
import Derived.RangeFuncLeaves
import Derived.TacticsIn
import Derived.OrdersIn
namespace Go.Proofs.YtppdgjlmeahimaaDoor
open Go.RowKit
set_option maxRecDepth 100000
structure Kept (w w' : World) : Prop where
 same : ∀ (k : Nat), w.heap[k]? = some (.deferred (some [])) → w'.heap[k]? = some (.deferred (some []))
theorem Kept.refl (w : World) : Kept w w := ⟨fun _ h => h⟩
theorem Kept.trans {a b c : World} (h : Kept a b) (k : Kept b c) : Kept a c := ⟨fun i hi => k.same i (h.same i hi)⟩
def NC (w : World) (i : Nat) : Prop := ∀ o, w.heap[i]? = some o → o.isCells = false
def IsC (w : World) (i : Nat) : Prop := ∃ o, w.heap[i]? = some o ∧ o.isCells = true
theorem IsC.not {w : World} {i : Nat} (h : IsC w i) : ¬ NC w i := fun k => by obtain ⟨o, h1, h2⟩ := h; rw [k o h1] at h2; cases h2
theorem Blk.isC {w : World} {g : Nat} {t : TypeId} {cs : Array Value} (h : Blk w g t cs) : IsC w g := ⟨_, h, rfl⟩
theorem isC_cell {w : World} {a : Addr} {v : Value} (h : w.cell? a = some v) : IsC w a.block := cells_of_cell h
def markD (k : Nat) : Deferred := { target := .collected k, args := #[] }
def Marks (n0 : Nat) (w : World) (ds : List Deferred) : Prop := ∃ ks : List Nat, ds = ks.map markD ∧ ks.Nodup ∧ ∀ (k : Nat), k ∈ ks → n0 ≤ k ∧ w.heap[k]? = some (.deferred (some []))
theorem Marks.nil {n0 : Nat} {w : World} : Marks n0 w [] := ⟨[], rfl, List.nodup_nil, fun _ h => by cases h⟩
theorem Marks.kept {n0 : Nat} {w w' : World} {ds : List Deferred} (h : Marks n0 w ds) (k : Kept w w') : Marks n0 w' ds := by
 obtain ⟨ks, e, hn, hk⟩ := h;exact ⟨ks, e, hn, fun i hi => ⟨(hk i hi).1, k.same i (hk i hi).2⟩⟩
theorem Kept.ext {X : Nat → Prop} {w w' : World} (h : Ext X w w') (hx : ∀ k, X k → k < w.heap.size → IsC w k) : Kept w w' :=
 ⟨fun k hk => by
  have hlt := (Array.getElem?_eq_some_iff.1 hk).1;refine (h.block k hlt fun hX => ?_).trans hk;obtain ⟨o, h1, h2⟩ := hx k hX hlt;rw [hk] at h1;obtain rfl := Option.some.inj h1;cases h2⟩
theorem Kept.no {w w' : World} (h : Ext No w w') : Kept w w' := Kept.ext h fun _ e => e.elim
theorem Kept.drew (w : World) : Kept w w.drew := ⟨fun _ h => h⟩
theorem Kept.one {w w' : World} {g : Nat} {t : TypeId} {cs : Array Value} (h : Ext (Mut [some g]) w w') (hb : Blk w g t cs) : Kept w w' := Kept.ext h fun k e _ => by
 rcases e with e | e
 · obtain rfl := Option.some.inj e;exact hb.isC
 · exact e.elim
theorem isC_own {w : World} {base n size k : Nat} {e : TypeId} {v : Value} {xs : List Value} (ho : w.ownsRow base e size v n xs) (hk : some k = v.ownBlock) : IsC w k := by
 rcases ho.2 with ⟨rfl, _⟩ | ⟨g, cap, cur, rfl, _, hg, _⟩
 · cases hk
 · have hk : k = g := Option.some.inj hk;subst hk;exact ⟨_, hg, rfl⟩
theorem Kept.own {w w' : World} {base n size : Nat} {e : TypeId} {v : Value} {xs : List Value} (h : Ext (Mut [v.ownBlock]) w w') (ho : w.ownsRow base e size v n xs) : Kept w w' := Kept.ext h fun k hk _ => by
 rcases hk with hk | hk
 · exact isC_own ho hk
 · exact hk.elim
structure AtE (n0 N : Nat) (w : World) (σ : Env) (a : Act) : Prop where
 marks : Marks n0 w a.defers
 size : a.tmps.size = N
 get : ∀ t v, lk t σ = some v → a.tmps[t]? = some v
def clr (a : Act) : Act := { a with defers := [] }
theorem AtE.at {n0 N : Nat} {w : World} {σ : Env} {a : Act} (h : AtE n0 N w σ a) : At N σ (clr a) := ⟨rfl, h.size, h.get⟩
theorem AtE.weak {n0 N : Nat} {w : World} {σ τ : Env} {a : Act} (h : AtE n0 N w σ a) (hs : ∀ t v, lk t τ = some v → lk t σ = some v) : AtE n0 N w τ a := ⟨h.marks, h.size, fun t v ht => h.get t v (hs t v ht)⟩
theorem AtE.put {n0 N : Nat} {w w' : World} {σ : Env} {a : Act} {d : Nat} (h : AtE n0 N w σ a) (hd : Nat.blt d N = true) (v : Value) (k : Kept w w') : AtE n0 N w' ((d, v) :: σ) (a.put (some d) v) := by
 have h1 := h.at.put hd v;exact ⟨h.marks.kept k, h1.size, h1.get⟩
theorem AtE.kept {n0 N : Nat} {w w' : World} {σ : Env} {a : Act} (h : AtE n0 N w σ a) (k : Kept w w') : AtE n0 N w' σ a := ⟨h.marks.kept k, h.size, h.get⟩
def fw (ρ : Option Nat) : Fence := { Fence.wide with round := ρ }
section
variable {P : Program} {ρ : Option Nat} {n0 N : Nat} {ops : Array Oper} {Q : Exit → Act → World → Prop} {σ : Env} {w : World}
def Tight (Q : Exit → Act → World → Prop) : Prop := ¬ LetsOut Q
def CI (ρ : Option Nat) (n0 : Nat) (P : Program) (N : Nat) (c : Code) (Q : Exit → Act → World → Prop) (σ : Env) (w : World) : Prop := ∀ a, AtE n0 N w σ a → c.wpIn (fw ρ) 0 P Q a w
def EI (n0 N : Nat) (Q : Exit → Act → World → Prop) (e : Exit) (σ : Env) (w : World) : Prop := ∀ a, AtE n0 N w σ a → Q e a w
def RI (ρ : Option Nat) (n0 : Nat) (P : Program) (N : Nat) (ops : Array Oper) (Q : Exit → Act → World → Prop) (l : List Oper) (σ : Env) (w : World) : Prop := ∀ a, AtE n0 N w σ a → wpListIn (fw ρ) 0 P ops Q l a w
def NoQ : Exit → Act → World → Prop := fun _ _ _ => False
theorem noQ_out : ¬ LetsOut NoQ := fun ⟨_, _, h⟩ => h
def ztq : Op → Bool
 | .defer _ => true
 | _ => false
theorem calls_wide {f : FuncId} {args : Array Value} {R : Ending → World → Prop} (h : Calls P f args w R) : CallsIn (fw ρ) 0 P f args w R := by
 have h2 : CallsIn Fence.wide 0 P f args w R := callsIn_wide.2 h;cases ρ with
 | none => exact h2
 | some l => exact h2
theorem rows_wide {row : String} {args : Array Value} {R : Value → World → Prop} (h : Rows P row args w R) : RowsIn (fw ρ) 0 P row args w R := by
 have h2 : RowsIn Fence.wide 0 P row args w R := fun c cs _ => by
  obtain ⟨v, w', r, s⟩ := h c cs;exact ⟨v, w', r, stepsIn_wide.2 s⟩
 cases ρ with
 | none => exact h2
 | some l => exact h2
def addD (D : List Deferred) (a : Act) : Act := { a with defers := a.defers ++ D }
theorem ybx (a : Act) : addD a.defers (clr a) = a := rfl
theorem addD_eval (D : List Deferred) (a : Act) : (addD D a).eval = a.eval := by funext x; cases x <;> rfl
theorem zhx (D : List Deferred) (a : Act) (d : Option Nat) (v : Value) : (addD D a).put d v = addD D (a.put d v) := by cases d <;> rfl
theorem op_in {D : List Deferred} {o : Oper} {a : Act} {K K' : Act → World → Prop} {Q0 : Exit → Act → World → Prop} (hd : ztq o.op = false) (hQ : ∀ c a w, ¬ Q0 (.panic c) a w) (hL : ¬ LetsOut Q0) (hK : ∀ a1 w', K a1 w' → K' (addD D a1) w')
 (h : o.wp P a w K Q0) : o.wpIn (fw ρ) 0 P (addD D a) w K' Q := by
 refine ⟨fun _ _ => by cases ρ <;> trivial, ?_⟩;rw [Oper.semAt_eq _ _ _ (fun c e => by rw [e] at hd; cases hd), addD_eval];unfold Oper.wp at h;generalize (execOp a.eval o).run P w = r at h ⊢
 have hn : (fw ρ).depth.isSome = true → 1 ≤ 0 := fun e => by cases ρ <;> cases e
 cases r with
 | ok x w' =>
  cases x <;> simp only [Oper.upon] at h <;> simp only [Oper.uponIn]
  case value v => rw [zhx]; exact hK _ _ h
  case skip => rw [zhx]; exact hK _ _ h
  case defer d =>
   have := hK _ _ h;rw [← zhx] at this;exact this
  case enter f args => exact ⟨hn, calls_wide (Calls.mono h fun e w'' he => by
   cases e with
   | returned v => show K' ((addD D a).put o.dst v) w''; rw [zhx]; exact hK _ _ he
   | panicked c => exact absurd he (hQ c _ _)
   | outgrown => exact absurd he hL)⟩
  case row row args => exact ⟨hn, rows_wide (Rows.mono h fun v w'' he => by rw [zhx]; exact hK _ _ he)⟩
 | halt x w' =>
  cases x <;> simp only [Oper.upon] at h
  exact absurd h (hQ _ _ _)
/-! ### rows of operations -/
theorem yh {d : Nat} {op : Op} {ty : TypeId} {pos : String} {af : Array Edge} {g : Option (Nat × Bool)} {rest : List Oper} (hd : (Nat.blt d N && !ztq op) = true)
 (h : OW P N ops NoQ ⟨some d, op, ty, pos, af, g⟩ σ w (fun v w' => Kept w w' ∧ RI ρ n0 P N ops Q rest ((d, v) :: σ) w')) : RI ρ n0 P N ops Q (⟨some d, op, ty, pos, af, g⟩ :: rest) σ w := by
 simp only [Bool.and_eq_true, Bool.not_eq_true'] at hd
 intro a ha;have h1 := h (clr a) ha.at;unfold wpListIn;split
 · rename_i hw
   rw [if_pos (show Region.wanted _ (yielded ops (clr a).tmps) = true from hw)] at h1;have := op_in (ρ := ρ) (Q := Q) (D := a.defers) (K' := wpListIn (fw ρ) 0 P ops Q rest) hd.2 (fun _ _ _ h => h) noQ_out (fun a1 w' ⟨v, e, k, hr⟩ => by
    subst e;rw [← zhx, ybx];exact hr _ (ha.put hd.1 v k)) h1
   rwa [ybx] at this
 · rename_i hw
   rw [if_neg (show ¬ Region.wanted _ (yielded ops (clr a).tmps) = true from hw)] at h1;exact ⟨fun _ _ => by cases ρ <;> trivial, h1.2 _ (ha.put hd.1 _ h1.1)⟩
theorem xo {op : Op} {ty : TypeId} {pos : String} {af : Array Edge} {g : Option (Nat × Bool)} {rest : List Oper} (hd : ztq op = false)
 (h : OW P N ops NoQ ⟨none, op, ty, pos, af, g⟩ σ w (fun _ w' => Kept w w' ∧ RI ρ n0 P N ops Q rest σ w')) : RI ρ n0 P N ops Q (⟨none, op, ty, pos, af, g⟩ :: rest) σ w := by
 intro a ha;have h1 := h (clr a) ha.at;unfold wpListIn;split
 · rename_i hw
   rw [if_pos (show Region.wanted _ (yielded ops (clr a).tmps) = true from hw)] at h1;have := op_in (ρ := ρ) (Q := Q) (D := a.defers) (K' := wpListIn (fw ρ) 0 P ops Q rest) hd (fun _ _ _ h => h) noQ_out (fun a1 w' ⟨v, e, k, hr⟩ => by
    subst e;exact hr _ (ha.kept k)) h1
   rwa [ybx] at this
 · rename_i hw
   rw [if_neg (show ¬ Region.wanted _ (yielded ops (clr a).tmps) = true from hw)] at h1;exact ⟨fun _ _ => by cases ρ <;> trivial, h1.2 _ (ha.kept h1.1)⟩
theorem qm (h : EI n0 N Q .normal σ w) : RI ρ n0 P N ops Q [] σ w := fun a ha => h a ha
theorem ri_set {l : List Oper} (t : Nat) {v : Value} (u : Value) (h : lk t σ = some v) (e : v = u) (k : RI ρ n0 P N ops Q l ((t, u) :: σ) w) : RI ρ n0 P N ops Q l σ w := fun a ha => k a ⟨ha.marks, ha.size, (zwq h e ha.at).get⟩
theorem ci_set {c : Code} (t : Nat) {v : Value} (u : Value) (h : lk t σ = some v) (e : v = u) (k : CI ρ n0 P N c Q ((t, u) :: σ) w) : CI ρ n0 P N c Q σ w := fun a ha => k a ⟨ha.marks, ha.size, (zwq h e ha.at).get⟩
theorem ei_set {x : Exit} (t : Nat) {v : Value} (u : Value) (h : lk t σ = some v) (e : v = u) (k : EI n0 N Q x ((t, u) :: σ) w) : EI n0 N Q x σ w := fun a ha => k a ⟨ha.marks, ha.size, (zwq h e ha.at).get⟩
theorem ci_sub {c : Code} {τ : Env} (hs : Sub σ τ) (h : CI ρ n0 P N c Q τ w) : CI ρ n0 P N c Q σ w := fun a ha => h a (ha.weak (znq hs))
theorem ri_split {l : List Oper} (t : Nat) {b : Bool} (h : lk t σ = some (.bool b)) (ht : b = true → RI ρ n0 P N ops Q l ((t, .bool true) :: σ) w) (hf : b = false → RI ρ n0 P N ops Q l ((t, .bool false) :: σ) w) : RI ρ n0 P N ops Q l σ w := by
 cases b
 · exact ri_set t _ h rfl (hf rfl)
 · exact ri_set t _ h rfl (ht rfl)
/-! ### code -/
theorem ev_cl {a : Act} {x : Operand} {v : Value} (h : AtE n0 N w σ a) (hx : ev σ x = some v) : a.eval x = v := by
 have := h.at.ev hx;rwa [show (clr a).eval = a.eval by funext x; cases x <;> rfl] at this
theorem qh {x y : Code} (h : CI ρ n0 P N x (Exit.then (y.wpIn (fw ρ) 0 P Q) Q) σ w) : CI ρ n0 P N (.seq x y) Q σ w := fun a ha => wpIn_seq (h a ha)
theorem jk {id : Nat} {c : Code} (h : CI ρ n0 P N c (Exit.inBlock id Q) σ w) : CI ρ n0 P N (.block id c) Q σ w := fun a ha => wpIn_block (h a ha)
theorem xl (h : EI n0 N Q .normal σ w) : CI ρ n0 P N .skip Q σ w := fun a ha => wpIn_skip (h a ha)
theorem ci_ret (h : EI n0 N Q .ret σ w) : CI ρ n0 P N .ret Q σ w := fun a ha => wpIn_ret (h a ha)
theorem zok {id : Nat} (h : EI n0 N Q (.exit id) σ w) : CI ρ n0 P N (.exit id) Q σ w := fun a ha => wpIn_exit (h a ha)
theorem xx {c : Operand} {x y : Code} {t : Bool} (hc : ev σ c = some (.bool t)) (ht : t = true → CI ρ n0 P N x Q σ w) (hf : t = false → CI ρ n0 P N y Q σ w) : CI ρ n0 P N (.cond c x y) Q σ w :=
 fun a ha => wpIn_cond_split (ev_cl ha hc) (fun e => ht e a ha) (fun e => hf e a ha)
theorem ci_else {c : Operand} {x y : Code} (hc : ev σ c = some (.bool false)) (ht : CI ρ n0 P N y Q σ w) : CI ρ n0 P N (.cond c x y) Q σ w := fun a ha => wpIn_cond_false (ev_cl ha hc) (ht a ha)
theorem yq {id : Nat} {l : List Oper} (h : RI ρ n0 P N l.toArray Q l σ w) : CI ρ n0 P N (.region id l.toArray false) Q σ w := fun a ha => wpIn_region_lit (h a ha)
theorem qa {y : Code} (h : CI ρ n0 P N y Q σ w) : EI n0 N (Exit.then (y.wpIn (fw ρ) 0 P Q) Q) .normal σ w := h
theorem ei_then_ret {K : Act → World → Prop} (h : EI n0 N Q .ret σ w) : EI n0 N (Exit.then K Q) .ret σ w := h
theorem vu {K : Act → World → Prop} {id : Nat} (h : EI n0 N Q (.exit id) σ w) : EI n0 N (Exit.then K Q) (.exit id) σ w := h
theorem vm {id : Nat} (h : EI n0 N Q .normal σ w) : EI n0 N (Exit.inBlock id Q) .normal σ w := h
theorem kf {id : Nat} (h : EI n0 N Q .normal σ w) : EI n0 N (Exit.inBlock id Q) (.exit id) σ w := fun a ha => by simp only [Exit.inBlock, if_true]; exact h a ha
def MeetsI (n0 N : Nat) {ι : Type} (s : ι → Env) (R : ι → World → Prop) : Act → World → Prop := fun a w => ∃ i, AtE n0 N w (s i) a ∧ R i w
theorem ci_join {x y : Code} {ι : Type} (s : ι → Env) (R : ι → World → Prop) (h1 : CI ρ n0 P N x (Exit.then (MeetsI n0 N s R) Q) σ w) (h2 : ∀ i w, R i w → CI ρ n0 P N y Q (s i) w) : CI ρ n0 P N x (Exit.then (y.wpIn (fw ρ) 0 P Q) Q) σ w :=
 fun a ha => wpIn_mono (h1 a ha) (fun e a w q => by cases e <;> first | exact q | (obtain ⟨i, hi, hr⟩ := q; exact h2 i w hr a hi))
theorem ei_mid {ι : Type} {s : ι → Env} {R : ι → World → Prop} (i : ι) (hs : Sub σ (s i)) (hr : R i w) : EI n0 N (Exit.then (MeetsI n0 N s R) Q) .normal σ w := fun _ ha => ⟨i, ha.weak (znq hs), hr⟩
def RndI (n0 N : Nat) {ι : Type} (s : ι → Env) (R : ι → World → Prop) (m : ι → Nat) (i : ι) : Act → World → Prop := fun a w' => ∃ j, m j < m i ∧ AtE n0 N w' (s j) a ∧ R j w'
theorem zdx {ι : Type} {s : ι → Env} {R : ι → World → Prop} {m : ι → Nat} {i : ι} (j : ι) (hm : m j < m i) (hs : Sub σ (s j)) (hr : R j w) : EI n0 N (Exit.then (RndI n0 N s R m i) Q) .normal σ w := fun _ ha => ⟨j, hm, ha.weak (znq hs), hr⟩
theorem zoq {c : Code} {ι : Type} (s : ι → Env) (R : ι → World → Prop) (m : ι → Nat) (i : ι) (h0 : Sub σ (s i)) (hw : R i w)
 (hr : ∀ i w, R i w → CI ρ n0 P N c (Exit.then (RndI n0 N s R m i) Q) (s i) w) : CI ρ n0 P N (.loop c) Q σ w := by
 intro a ha;intro b k cs hro hb hroom;have key : ∀ n i a w, m i = n → AtE n0 N w (s i) a → R i w → ∃ e a' w', Q e a' w' ∧ ArrivesIn (Machine.fenced P (fw ρ)) P (lone (b.atR a (.code c :: .inLoop c :: k)) cs w) b k cs e a' w' := by
  intro n;induction n using Nat.strongRecOn with
  | _ n ih =>
   intro i a w hn ha hR;obtain ⟨e, a₁, w₁, hq, harr⟩ := hr i w hR a ha b (.inLoop c :: k) cs hro hb hroom;cases e with
   | normal =>
    obtain ⟨j, hlt, haj, hRj⟩ := hq;obtain ⟨e₂, a₂, w₂, hq₂, harr₂⟩ := ih (m j) (hn ▸ hlt) j a₁ w₁ rfl haj hRj;exact ⟨e₂, a₂, w₂, hq₂, .of_steps (StepsIn.trans harr (.one (fenced_calm hb hroom rfl) stepR_inLoop)) harr₂⟩
   | exit id => exact ⟨_, a₁, w₁, hq, .pass (x := .inLoop c) rfl (fun _ _ => .inl (by simp)) harr⟩
   | goto l => exact ⟨_, a₁, w₁, hq, .pass (x := .inLoop c) rfl (fun _ _ => .inl (by simp)) harr⟩
   | ret => exact ⟨_, a₁, w₁, hq, .pass (x := .inLoop c) rfl (fun _ _ => .inl (by simp)) harr⟩
   | panic ch => exact ⟨_, a₁, w₁, hq, .pass (x := .inLoop c) rfl (fun _ _ => .inl (by simp)) harr⟩
   | outgrown => exact ⟨_, a₁, w₁, hq, .pass (x := .inLoop c) rfl (fun _ _ => .inl (by simp)) harr⟩
 obtain ⟨e, a', w', hq, harr⟩ := key _ i a w rfl (ha.weak (znq h0)) hw;exact ⟨e, a', w', hq, .of_steps (.one (fenced_calm hb hroom rfl) stepR_loop) harr⟩
/-! ### regions that draw their order -/
theorem any_prefixI {l : List Oper} {D : List Deferred} {Q0 : Exit → Act → World → Prop} {m : Nat} (hg : zrk l m = true) (hnd : (l.take m).all (fun o => !ztq o.op) = true) (hQ : ∀ c a w, ¬ Q0 (.panic c) a w) (hL : ¬ LetsOut Q0) (hN : ∀ a w, Q0 .normal a w → wpAnyIn (fw ρ) 0 P .any l.toArray Q (l.length - m) (trL m l.length) (addD D a) w) : ∀ (f : Nat) (ls : List Bool) (a : Act) (w : World), ls.length = m → ls.count false = f →
 (∀ i, Ran ls.toArray i → ∀ j ∈ vf l.toArray i, Ran ls.toArray j) →
 wpAny P .any (l.take m).toArray Q0 f ls.toArray a w →
 wpAnyIn (fw ρ) 0 P .any l.toArray Q (f + (l.length - m)) (ls ++ List.replicate (l.length - m) false).toArray (addD D a) w := by
 unfold zrk at hg;simp only [Bool.and_eq_true] at hg
 obtain ⟨⟨⟨hml, hrow⟩, hgd⟩, hcov⟩ := hg;have hml := Nat.le_of_ble_eq_true hml;have htk : ∀ i, i < m → (l.take m).toArray[i]? = l.toArray[i]? := fun i hi => by simp [List.getElem?_take, hi]
 have hget : ∀ (ls : List Bool) (i : Nat) (d : Bool), ls.length = m → i < m → (ls ++ List.replicate (l.length - m) false).toArray.getD i d = ls.toArray.getD i d := by
  intro ls i d hl hi;simp [Array.getD_eq_getD_getElem?, List.getElem?_append, hl, hi]
 have hget2 : ∀ (ls : List Bool) (i : Nat), ls.length = m → m ≤ i → (ls ++ List.replicate (l.length - m) false).toArray.getD i false = false := by
  intro ls i hl hi;have hni : ¬ i < m := by omega
  simp only [Array.getD_eq_getD_getElem?, List.getElem?_toArray, List.getElem?_append, hl, hni, if_false, List.getElem?_replicate]
  split <;> rfl
 have hfull : ∀ ls : List Bool, ls.length = m → (∀ i, i < m → Ran ls.toArray i) → ls.count false = 0 := by
  intro ls hl h;refine List.count_eq_zero.2 fun hf => ?_;obtain ⟨i, hi, he⟩ := List.getElem_of_mem hf;have := h i (by omega);unfold Ran at this;simp [hi, he] at this
 intro f;induction f with
 | zero =>
  intro ls a w hl hc hd h;have hall : ls = List.replicate m true := by
   refine List.eq_replicate_iff.2 ⟨hl, fun b hb => ?_⟩;cases b with
   | true => rfl
   | false => exact absurd hb (List.count_eq_zero.1 hc)
  have h2 := hN _ _ h.2;rw [Nat.zero_add, hall];exact h2
 | succ f ih =>
  intro ls a w hl hc hd h;rw [Nat.succ_add];refine ⟨fun hr => ?_, fun i hi => ?_⟩
  · exfalso
    have hall : ∀ i, i < m → Ran ls.toArray i := by
     intro i;induction i using Nat.strongRecOn with
     | _ i ihi =>
      intro him;rcases Classical.em (Ran ls.toArray i) with h' | h'
      · exact h'
      · exfalso
        have : i ∈ Region.ready .any l.toArray (ls ++ List.replicate (l.length - m) false).toArray := by
         have hil : i < l.length := by omega
         refine mem_ready.2 ⟨?_, l[i], by simp [hil], fun e he hb => ?_⟩
         · rw [hget ls i true hl him];unfold Ran at h';have : i < ls.length := by omega
           simp [this] at h' ⊢
           exact h'
         · have hlt := (kw hrow (i := i) (o := l[i]) (by simp [List.getElem?_take, him, hil])).1 e.on (kh (by simpa using he) hb);have hei : e.on < i := by omega
           rw [hget ls e.on false hl (by omega)];exact ihi e.on hei (by omega)
        rw [hr] at this;cases this
    have := hfull ls hl hall;omega
  · obtain ⟨h0, o, ho, hdep⟩ := mem_ready.1 hi;rcases Nat.lt_or_ge i m with him | him
    · have hdl : ∀ j ∈ vf l.toArray i, Ran ls.toArray j := by
       intro j hj;have ho' : l[i]? = some o := by simpa using ho
       unfold vf at hj;rw [ho] at hj;obtain ⟨e, he, hb, rfl⟩ := kq hj;have hlt := (kw hrow (i := i) (o := o) (by simp [List.getElem?_take, him, ho'])).1 e.on (kh he hb);have := hdep e (by simpa using he) hb;rwa [hget ls e.on false hl (by omega)] at this
      rw [hget ls i true hl him] at h0;have hi1 : i ∈ Region.ready .any (l.take m).toArray ls.toArray := by
       refine mem_ready.2 ⟨h0, o, by rw [htk i him]; exact ho, fun e he hb => ?_⟩;refine hdl e.on ?_;unfold vf;rw [ho];exact kh (by simpa using he) hb
      have h1 := h.2 i hi1;have hset : ((ls ++ List.replicate (l.length - m) false).toArray.setIfInBounds i true) = (ls.set i true ++ List.replicate (l.length - m) false).toArray := by
       apply Array.toList_inj.1
       rw [Array.toList_setIfInBounds];simp [List.set_append, hl, him]
      have hset1 : ls.toArray.setIfInBounds i true = (ls.set i true).toArray := by
       apply Array.toList_inj.1
       rw [Array.toList_setIfInBounds]
      rw [hset1] at h1;rw [hset];have hlsi : ls[i]? = some false := by
       have hil : i < ls.length := by omega
       have e : ls[i] = false := by simpa [hil] using h0
       simp [hil, e]
      have hK : ∀ a w, wpAny P .any (l.take m).toArray Q0 f (ls.set i true).toArray a w →
       wpAnyIn (fw ρ) 0 P .any l.toArray Q (f + (l.length - m)) (ls.set i true ++ List.replicate (l.length - m) false).toArray (addD D a) w := by
       intro a w h;refine ih (ls.set i true) a w (by simpa using hl) (by have := zev ls i hlsi; omega) ?_ h;have hup : ∀ j, Ran ls.toArray j → Ran (ls.set i true).toArray j := by
        intro j hj;unfold Ran at hj ⊢;rw [← hset1];exact getD_set_true hj
       intro j hj k hk;rcases Classical.em (j = i) with rfl | hji
       · exact hup k (hdl k hk)
       · refine hup k (hd j ?_ k hk);unfold Ran at hj ⊢;rw [← hset1, getD_set_ne false (Ne.symm hji)] at hj;exact hj
      unfold wpOp at h1;unfold wpOpIn;rw [htk i him, ho] at h1;rw [ho];simp only [] at h1 ⊢
      have hy : Region.wanted o (yielded (l.take m).toArray a.tmps) = Region.wanted o (yielded l.toArray a.tmps) := by
       unfold Region.wanted;cases hgo : o.guard with
       | none => rfl
       | some gw =>
        obtain ⟨g, want⟩ := gw;have hmem : o ∈ l.take m := by
         have ho' : l[i]? = some o := by simpa using ho
         exact List.mem_of_getElem? (i := i) (by simp [List.getElem?_take, him, ho'])
        have := (List.all_eq_true.1 hgd) o hmem;rw [hgo] at this;have hgm : g < m := Nat.le_of_ble_eq_true this;simp only [yielded, htk g hgm]
      have hdef : ztq o.op = false := by
       have hmem : o ∈ l.take m := by
        have ho' : l[i]? = some o := by simpa using ho
        exact List.mem_of_getElem? (i := i) (by simp [List.getElem?_take, him, ho'])
       simpa using (List.all_eq_true.1 hnd) o hmem
      rw [show yielded l.toArray (addD D a).tmps = yielded l.toArray a.tmps from rfl, ← hy];split
      · rename_i hw
        rw [if_pos hw] at h1;rcases h1 with h1 | ⟨_, h2⟩
        · exact op_in hdef hQ hL hK h1
        · exact absurd h2 hL
      · rename_i hw
        rw [if_neg hw] at h1;exact ⟨fun _ _ => by cases ρ <;> trivial, by rw [zhx]; exact hK _ _ h1⟩
    · exfalso
      have hil : i < l.length := by simpa using (Array.getElem?_eq_some_iff.1 ho).1
      have hdl : ∀ j ∈ vf l.toArray i, (ls ++ List.replicate (l.length - m) false).toArray.getD j false = true := by
       intro j hj;unfold vf at hj;rw [ho] at hj;obtain ⟨e, he, hb, rfl⟩ := kq hj;exact hdep e (by simpa using he) hb
      have hc2 := (List.all_eq_true.1 hcov) (i - m) (List.mem_range.2 (by omega));rw [show m + (i - m) = i by omega, Bool.or_eq_true] at hc2;rcases hc2 with hc2 | hc2
      · obtain ⟨j, hj, hmj⟩ := List.any_eq_true.1 hc2;have := hdl j hj;rw [hget2 ls j hl (Nat.le_of_ble_eq_true hmj)] at this;cases this
      · have hall := covers_all (L := fun j => (Ran ls.toArray j)) hd m _ hc2 (fun j hj => by
         have := hdl j hj;rcases Nat.lt_or_ge j m with h' | h'
         · rwa [hget ls j false hl h'] at this
         · rw [hget2 ls j hl h'] at this; cases this)
        have := hfull ls hl hall;omega
def AI (ρ : Option Nat) (n0 : Nat) (P : Program) (N k : Nat) (l : List Oper) (Q : Exit → Act → World → Prop) (σ : Env) (w : World) : Prop := ∀ a, AtE n0 N w σ a → wpAnyIn (fw ρ) 0 P .any l.toArray Q (l.length - k) (trL k l.length) a w
def QI (ρ : Option Nat) (n0 : Nat) (P : Program) (N m : Nat) (l : List Oper) (Q : Exit → Act → World → Prop) (w0 : World) : Exit → Act → World → Prop := fun e a w => e = .normal ∧ Kept w0 w ∧ ∃ σ, At N σ a ∧ AI ρ n0 P N m l Q σ w
theorem ci_any {id : Nat} {l : List Oper} (hm : P.follows .mixedOrders = true) (h : AI ρ n0 P N 0 l Q σ w.drew) : CI ρ n0 P N (.region id l.toArray true) Q σ w := fun a ha => by
 refine wpIn_region_any hm ?_;have := h a ⟨ha.marks, ha.size, ha.get⟩;unfold trL at this;simpa using this
theorem ai_cut {l : List Oper} (m : Nat) (hg : (zrk l m && (l.take m).all fun o => !ztq o.op) = true) (h : AK P N 0 (l.take m) (QI ρ n0 P N m l Q w) σ w) : AI ρ n0 P N 0 l Q σ w := fun a ha => by
 simp only [Bool.and_eq_true] at hg
 obtain ⟨hg, hnd⟩ := hg;have hml : m ≤ l.length := by
  unfold zrk at hg;simp only [Bool.and_eq_true] at hg
  exact Nat.le_of_ble_eq_true hg.1.1.1
 have hlen : (l.take m).length = m := by simp [hml]
 have h1 := h (clr a) ha.at;have := any_prefixI (ρ := ρ) (P := P) (Q := Q) (D := a.defers) (Q0 := QI ρ n0 P N m l Q w) hg hnd (fun c a w h => by cases h.1) (fun ⟨_, _, h⟩ => by cases h.1) (fun a1 w1 ⟨_, hk, τ, h2, h3⟩ => h3 _ ⟨by
  show Marks n0 w1 (a1.defers ++ a.defers)
  rw [h2.defers];exact ha.marks.kept hk, h2.size, h2.get⟩) m (List.replicate m false) (clr a) w (by simp) (by simp) (fun i hi => by
  unfold Ran at hi;by_cases h' : i < m <;> simp [h'] at hi) (by
   unfold trL at h1;rw [hlen] at h1;simpa [trL] using h1)
 rw [List.replicate_append_replicate, ybx] at this;have e : m + (l.length - m) = l.length := by omega
 rw [e] at this;unfold trL;simpa using this
theorem ew_ai {m : Nat} {l : List Oper} {w0 : World} (hk : Kept w0 w) (h : AI ρ n0 P N m l Q σ w) : EW N (QI ρ n0 P N m l Q w0) .normal σ w := fun _ ha => ⟨rfl, hk, σ, ha, h⟩
theorem yav {m : Nat} {l : List Oper} {o : Oper} (hr : Region.ready .any l.toArray (trL m l.length) = [m]) (ho : l[m]? = some o) (hm : Nat.beq (m + 1) l.length = true) (h : RI ρ n0 P N l.toArray Q [o] σ w) : AI ρ n0 P N m l Q σ w := fun a ha => by
 have hm := Nat.eq_of_beq_eq_true hm;rw [show l.length - m = 0 + 1 by omega];have hdone : ∀ a w, Q .normal a w → wpAnyIn (fw ρ) 0 P .any l.toArray Q 0 ((trL m l.length).setIfInBounds m true) a w := fun a w hq => by
  refine ⟨List.eq_nil_iff_forall_not_mem.2 fun j hj => ?_, hq⟩;obtain ⟨h0, o, ho, _⟩ := mem_ready.1 hj;have hlt : j < l.length := by simpa using (Array.getElem?_eq_some_iff.1 ho).1
  rw [trL_set (by omega), trL_get hlt (by omega)] at h0;simp at h0
  omega
 refine ⟨fun e => (by rw [hr] at e; cases e), fun i hi => ?_⟩;rw [hr] at hi;obtain rfl := List.mem_singleton.1 hi;have h1 := h a ha;unfold wpOpIn;rw [show l.toArray[i]? = some o by simpa using ho];unfold wpListIn at h1;simp only []
 split
 · rename_i hw
   rw [if_pos hw] at h1;exact Oper.wpIn_mono (fun a w hq => hdone a w hq) h1
 · rename_i hw
   rw [if_neg hw] at h1;exact ⟨h1.1, hdone _ _ h1.2⟩
/-! ### the function's end -/
def Calm (n0 : Nat) (w w' : World) : Prop := Ext (fun i => n0 ≤ i ∧ NC w i) w w'
theorem Calm.refl (n0 : Nat) (w : World) : Calm n0 w w := Ext.refl _ _
theorem Calm.trans {n0 : Nat} {a b c : World} (h : Calm n0 a b) (k : Calm n0 b c) : Calm n0 a c := h.step k fun i hi => by
 rcases Nat.lt_or_ge i a.heap.size with hlt | hlt
 · left
   refine ⟨hi.1, fun o ho => ?_⟩;cases hc : o.isCells with
   | false => rfl
   | true =>
    have e : b.heap[i]? = some o := (h.block i hlt (fun hx => by have := hx.2 o ho; rw [hc] at this; cases this)).trans ho;have := hi.2 o e;rw [hc] at this;cases this
 · exact Or.inr hlt
theorem calm_put {n0 k : Nat} {w : World} {o o' : Obj} (hk : w.heap[k]? = some o) (ho : o.isCells = false) (hn : n0 ≤ k) : Calm n0 w (w.putObj k o') :=
 ⟨rfl, rfl, rfl, by simp, fun i hi hx => World.putObj_heap_other (fun e => hx (by subst e; exact ⟨hn, fun o2 h2 => by rw [hk] at h2; obtain rfl := Option.some.inj h2; exact ho⟩))⟩
theorem zox {fn : Func} {tmps : Array Value} {R : Ending → World → Prop} : ∀ (ks : List Nat) (w : World), ks.Nodup → (∀ k ∈ ks, n0 ≤ k ∧ w.heap[k]? = some (.deferred (some []))) →
 (∀ w', Calm n0 w w' → ∃ v, (results fn tmps).run P w' = .ok v w' ∧ R (.returned v) w') → LeavesInM (fw none) 0 P fn tmps R (ks.map markD) .returning w
 | [], w, _, _, h => h w (Calm.refl _ _)
 | k :: ks, w, hn, hk, h => by
  obtain ⟨h1, h2⟩ := hk k (List.mem_cons.2 (Or.inl rfl));have hn' := List.nodup_cons.1 hn;refine ⟨fun e => (by cases e), Or.inl ⟨k, _, rfl, run_takeDeferred h2, ?_⟩⟩;refine zox ks _ hn'.2 (fun j hj => ?_) (fun w' hw => h w' ((calm_put h2 rfl h1).trans hw));have := hk j (List.mem_cons.2 (Or.inr hj));have hne : j ≠ k := fun e => hn'.1 (by rw [← e]; exact hj)
  exact ⟨this.1, (World.putObj_heap_other hne).trans this.2⟩
theorem calls_ci {f : FuncId} {fn : Func} {c : Code} {args : List Value} {R : Ending → World → Prop} (hf : P.funcs[f]? = some fn) (hb : fn.body = some c) (hN : fn.ntmps = N) (hl : Nat.ble args.length N = true)
 (h : CI none w.heap.size P N c (bodyPostM (fw none) 0 P fn R) (zzv 0 args) w) : CallsIn (fw none) 0 P f args.toArray w R := by
 refine callsIn_of_wp_marks hf hb trivial (h _ ⟨Marks.nil, ?_, fun t v ht => ?_⟩)
 · have := Nat.le_of_ble_eq_true hl;simp [hN]; omega
 · obtain ⟨_, h2⟩ := zvk ht;rw [Nat.sub_zero] at h2;have hlt := (List.getElem?_eq_some_iff.1 h2).1;rw [Array.getElem?_append_left (by simpa using hlt)];simpa using h2
theorem ygq {f : FuncId} {args : Array Value} {R : Ending → World → Prop} (h : CallsIn (fw none) 0 P f args w R) : Calls P f args w R := callsIn_wide.1 h
theorem ei_ret {fn : Func} {rs : List ResultVar} {vs : List Value} {R : Ending → World → Prop} (hr : fn.results = rs.toArray) (k : ∀ w', Calm n0 w w' → Res P σ w' rs vs ∧ R (.returned (retV vs)) w') : EI n0 N (bodyPostM (fw none) 0 P fn R) .ret σ w := by
 intro a ha;obtain ⟨ks, e, hn, hk⟩ := ha.marks;show LeavesInM (fw none) 0 P fn a.tmps R a.defers .returning w
 rw [e];refine zox ks w hn hk fun w' hw => ?_;obtain ⟨h, hR⟩ := k w' hw;refine ⟨retV vs, ?_, hR⟩;have h1 := yhq ha.at h;rw [results_eq, hr];simp only [List.mapM_toArray, map_eq_pure_bind, Sem.run_bind, show (clr a).tmps = a.tmps from rfl] at h1 ⊢
 rw [h1];simp only [Result.andThen_ok, Sem.run_pure]
 cases vs with
 | nil => simp [retV]
 | cons v vs => cases vs <;> simp [retV]
theorem ei_end {fn : Func} {R : Ending → World → Prop} (hr : fn.results = #[]) (k : ∀ w', Calm n0 w w' → R (.returned (.tuple #[])) w') : EI n0 N (bodyPostM (fw none) 0 P fn R) .normal σ w := by
 intro a ha;obtain ⟨ks, e, hn, hk⟩ := ha.marks;show LeavesInM (fw none) 0 P fn a.tmps R a.defers .returning w
 rw [e];exact zox ks w hn hk fun w' hw => ⟨.tuple #[], by simp [results, hr], k w' hw⟩
/-! ### a call of yield, a range over a function -/
theorem own_enter {f : FuncId} (h : gp P f) (args : Array Value) (w : World) : (callFunc f args).run P w = .ok (.enter f args) w := by
 obtain ⟨fn, hf, hb, hr⟩ := h;have hr' : ¬ fn.name = "runtime.NumGoroutine" := fun e => by simp [e] at hr
 simp only [callFunc, program, Sem.run_bind, Sem.run, Result.andThen_ok, hf]
 simp [hr', hb, go_sem]
theorem at_zipL {ps : List Tmp} (hps : ∀ p ∈ ps, Nat.blt p N = true) : ∀ (args : List Value) {tmps : Array Value} {σ : Env}, tmps.size = N → (∀ t v, lk t σ = some v → tmps[t]? = some v) →
 ((ps.zip args).foldl (fun t (x : Tmp × Value) => t.setIfInBounds x.1 x.2) tmps).size = N ∧ ∀ t v, lk t ((ps.zip args).reverse ++ σ) = some v → ((ps.zip args).foldl (fun t (x : Tmp × Value) => t.setIfInBounds x.1 x.2) tmps)[t]? = some v := by
 induction ps with
 | nil => intro args tmps σ hs hg; simpa using ⟨hs, hg⟩
 | cons p ps ih =>
  intro args tmps σ hs hg;cases args with
  | nil => simpa using ⟨hs, hg⟩
  | cons x args =>
   have hp := hps p (by simp);have hlt : p < tmps.size := by rw [hs]; exact Nat.le_of_ble_eq_true hp
   have := ih (fun q hq => hps q (by simp [hq])) args (tmps := tmps.setIfInBounds p x) (σ := (p, x) :: σ) (by simpa using hs) (fun t v ht => by
    rw [xc] at ht;by_cases h : p = t
    · subst h; rw [if_pos rfl] at ht; obtain rfl := Option.some.inj ht; simp [hlt]
    · rw [if_neg h] at ht; rw [Array.getElem?_setIfInBounds_ne h]; exact hg t v ht)
   simpa using this
theorem zip_foldl (ps : List Tmp) (args : List Value) (tmps : Array Value) : (ps.toArray.zip args.toArray).foldl (fun t (p, v) => t.setIfInBounds p v) tmps = (ps.zip args).foldl (fun t (x : Tmp × Value) => t.setIfInBounds x.1 x.2) tmps := by
 rw [List.zip_toArray, List.foldl_toArray]
theorem at_zip {ps : List Tmp} (hps : ∀ p ∈ ps, Nat.blt p N = true) (args : List Value) {tmps : Array Value} {σ : Env} (hs : tmps.size = N) (hg : ∀ t v, lk t σ = some v → tmps[t]? = some v) :
 ((ps.toArray.zip args.toArray).foldl (fun t (p, v) => t.setIfInBounds p v) tmps).size = N ∧ ∀ t v, lk t ((ps.zip args).reverse ++ σ) = some v → ((ps.toArray.zip args.toArray).foldl (fun t (p, v) => t.setIfInBounds p v) tmps)[t]? = some v := by
 rw [zip_foldl];exact at_zipL hps args hs hg
theorem ri_yield {d l : Nat} {x : Operand} {xs : List Operand} {args : List Value} {ts : Array TypeId} {ty : TypeId} {pos : String} {af : Array Edge} {rest : List Oper} (hd : Nat.blt d N = true) (hx : ev σ x = some (.func (.yield l) #[] #[])) (ha : evs σ xs = some args)
 (h : YieldAt (fw none) 0 P l args.toArray w (fun e w' => ∃ v, e = .returned v ∧ Kept w w' ∧ RI none n0 P N ops Q rest ((d, v) :: σ) w')) : RI none n0 P N ops Q (⟨some d, .call ⟨.value x, xs.toArray, ts⟩, ty, pos, af, none⟩ :: rest) σ w := by
 intro a hat;unfold wpListIn;rw [if_pos (by simp [Region.wanted])];refine ⟨fun _ _ => trivial, ?_⟩;rw [Oper.semAt_eq _ _ _ (fun c e => by cases e)];have he : (clr a).eval = a.eval := by funext y; cases y <;> rfl
 have hargs : xs.toArray.map a.eval = args.toArray := by
  apply Array.toList_inj.1
  rw [Array.toList_map, ← he];exact yiz hat.at ha
 obtain ⟨fn, tmps, assign, body, h1, h2⟩ := h;have hrun : (execOp a.eval ⟨some d, .call ⟨.value x, xs.toArray, ts⟩, ty, pos, af, none⟩).run P w = .ok (.round l fn tmps assign body) w := by
  have e1 : a.eval x = .func (.yield l) #[] #[] := ev_cl hat hx;simp only [execOp, resolve, hargs, e1, Deferred.ofValue, invoke, Sem.run_bind, Sem.run_pure, Result.andThen_ok, Array.empty_append]
  simpa using h1
 rw [hrun, Oper.uponIn_round];refine ⟨fun e => (by cases e), RoundIn.mono h2 ?_⟩;rintro e w' ⟨v, rfl, hk, hr⟩;exact hr _ (hat.put hd v hk)
def RPost (I : Nat → (Nat → Prop) → World → Prop) (k : Nat) (O : Nat → Prop) (W : World) : Exit → Act → World → Prop := fun e _ W' => e = .normal ∧ ∃ O', I (k + 1) O' W' ∧ Ext O W W' ∧ ∀ i, O' i → O i ∨ W.heap.size ≤ i
def Iter (P : Program) (gf : FuncId) (caps : Array Value) (K : Nat) (Arg : Nat → List Value → World → Prop) (n0 : Nat) (B : Nat → Prop) (w : World) : Prop :=
 ∀ (l : Nat) (J : Nat → (Nat → Prop) → World → Prop) (O : Nat → Prop) (W : World), Below w.heap.size w W → (∀ k O W, J k O W → ∀ i, O i → i < W.heap.size) → (∀ k O A B, J k O A → Ext (fun i => W.heap.size ≤ i ∧ NC A i) A B → J k O B) →
  (∀ i, O i → n0 ≤ i ∧ ¬ B i ∧ i < W.heap.size) →
  (∀ k O W1 args, k < K → Arg k args W1 → J k O W1 → YieldAt (fw none) 0 P l args.toArray W1 (fun e W' => e = .returned (.bool true) ∧ Kept W1 W' ∧ ∃ O', J (k + 1) O' W' ∧ Ext O W1 W' ∧ ∀ i, O' i → O i ∨ W1.heap.size ≤ i)) →
  J 0 O W → CallsIn (fw none) 0 P gf (#[.func (.yield l) #[] #[]] ++ caps) W (fun e W' => (∃ v, e = .returned v) ∧ ∃ O', J K O' W')
theorem ci_range {g : Operand} {ps : List Tmp} {assign body : Code} {gf : FuncId} {caps : Array Value} {K m0 : Nat} {Arg : Nat → List Value → World → Prop} {B : Nat → Prop} {O : Nat → Prop} (hn0 : n0 ≤ w.heap.size)
 (hg : ev σ g = some (.func (.func gf) #[] caps)) (hf : gp P gf) (hit : Iter P gf caps K Arg m0 B w)
 (I : Nat → (Nat → Prop) → World → Prop) (hI : ∀ k O W W', I k O W → Calm w.heap.size W W' → I k O W') (hC : ∀ k O W, I k O W → ∀ i, O i → IsC W i)
 (hO : ∀ i, O i → m0 ≤ i ∧ ¬ B i) (h0 : I 0 O w) (τ : List Value → Env) (hlen : ∀ k args W, Arg k args W → args.length = ps.length) (hps : ∀ p ∈ ps, Nat.blt p N = true)
 (hArg : ∀ k args W W', Arg k args W → Calm w.heap.size W W' → Arg k args W')
 (hassign : ∀ l k args W, k < K → Arg k args W → CI (some l) 0 P N assign (fun e a W' => e = .normal ∧ W' = W ∧ AtE 0 N W (τ args) a) ((ps.zip args).reverse ++ σ) W)
 (hbody : ∀ l k O args W, k < K → Arg k args W → I k O W → CI (some l) 0 P N body (RPost I k O W) (τ args) W)
 (hend : ∀ O' W', I K O' W' → w.heap.size ≤ W'.heap.size → EI n0 N Q .normal σ W') : CI none n0 P N (.rangeFunc g ps.toArray assign body) Q σ w := by
 intro a ha;refine wpIn_rangeFunc ?_;intro fn _;obtain ⟨rec, hrec⟩ : ∃ rec : LoopState → Option Code → Loop, rec = fun st pe => { state := st, pending := pe, fn, tmps := a.tmps, params := ps.toArray, assign, body, defers := w.heap.size } := ⟨_, rfl⟩;obtain ⟨W1, hW1⟩ : ∃ W1, (w.alloc (.deferred (some []))).alloc (.loop (rec .ready none)) = W1 := ⟨_, rfl⟩
 obtain ⟨L, hL⟩ : ∃ L, L = w.heap.size + 1 := ⟨_, rfl⟩;have hL1 : W1.heap[L]? = some (.loop (rec .ready none)) := by
  rw [← hW1, hL]; have := World.alloc_heap_new (w.alloc (.deferred (some []))) (.loop (rec .ready none)); rwa [World.size_alloc] at this
 have hK1 : W1.heap[w.heap.size]? = some (.deferred (some [])) := by
  rw [← hW1]; exact (Below.heap_alloc _ _ _ (by simp)).trans (World.alloc_heap_new w _)
 have hb1 : Below w.heap.size w W1 := by
  rw [← hW1]; exact (((Below.refl _ w).alloc (Nat.le_refl _) _).alloc (by simp) _)
 have hCw := hC _ _ _ h0;have isC_lt : ∀ {W : World} {i : Nat}, IsC W i → i < W.heap.size := fun ⟨_, h, _⟩ => (Array.getElem?_eq_some_iff.1 h).1;obtain ⟨ks, e1, hn, hk0⟩ := ha.marks;have hkl : ∀ k ∈ ks, k < w.heap.size := fun k hk => (Array.getElem?_eq_some_iff.1 (hk0 k hk).2).1;have hL1s : w.heap.size + 1 < W1.heap.size := by rw [← hL]; exact (Array.getElem?_eq_some_iff.1 hL1).1
 refine ⟨L, [markD w.heap.size], W1, { target := .fn (.func gf) caps, args := #[.func (.yield L) #[] #[]] }, W1, gf, #[.func (.yield L) #[] #[]] ++ caps, W1, ?_, ?_, ?_, ?_, fun e => (by cases e), ?_⟩
 · rw [← hW1, hL, hrec]; exact run_enterLoop_outer _ _ _ _ _
 · simp only [resolve, ev_cl ha hg]
   simp [go_sem]
 · intro f' _; trivial
 · simp [invoke, go_sem, own_enter hf]
 · refine (hit L (fun k O W => I k O W ∧ W.heap[L]? = some (.loop (rec .ready none)) ∧ W.heap[w.heap.size]? = some (.deferred (some [])) ∧ (∀ k ∈ ks, W.heap[k]? = some (.deferred (some []))) ∧ w.heap.size ≤ W.heap.size) O W1 hb1 (fun k O W hJ i hi => isC_lt (hC k O W hJ.1 i hi)) ?_ (fun i hi => ⟨(hO i hi).1, (hO i hi).2, Nat.lt_of_lt_of_le (isC_lt (hCw i hi)) hb1.size⟩) ?_ ⟨hI 0 O w W1 h0 (Ext.of_below hb1 _), hL1, hK1, fun k hk => (hb1.block k (hkl k hk)).trans (hk0 k hk).2, hb1.size⟩).mono ?_
   · rintro k O W W' ⟨h1, h2, h3, h4, h5⟩ hb
     exact ⟨hI k O W W' h1 (hb.mono (fun i hi _ => ⟨by omega, hi.2⟩)), (hb.block _ (Array.getElem?_eq_some_iff.1 h2).1 (fun h => by have := h.1; omega)).trans h2, (hb.block _ (Array.getElem?_eq_some_iff.1 h3).1 (fun h => by have := h.1; omega)).trans h3, fun k hk => (hb.block k (Array.getElem?_eq_some_iff.1 (h4 k hk)).1 (fun h => by have h5 := h.1; have h6 := hkl k hk; omega)).trans (h4 k hk), Nat.le_trans h5 hb.size⟩
   · rintro k O W args hk hAr ⟨hi, hl, hd, hm, hs⟩;have hlt : L < W.heap.size := (Array.getElem?_eq_some_iff.1 hl).1;have hy := run_yield (P := P) (args := args.toArray) hl (by rw [hrec]; simp [hlen k args W hAr]);rw [hrec] at hy;refine ⟨fn, _, assign, body, hy, roundIn_of_wpIn (F := fw none) trivial ?_⟩
     have hst : AtE 0 N W ((ps.zip args).reverse ++ σ) { tmps := (ps.toArray.zip args.toArray).foldl (fun t (p, v) => t.setIfInBounds p v) a.tmps, defers := [] } := by
      have := at_zip (N := N) hps args ha.size ha.get;exact ⟨Marks.nil, this.1, this.2⟩
     refine wpIn_mono (hassign L k args W hk hAr _ hst) ?_;rintro e a1 W' ⟨rfl, rfl, hat⟩;refine ⟨_, run_beginRound hl (by rw [hrec]), ?_⟩;obtain ⟨W2, hW2⟩ : ∃ W2, W'.putObj L (.loop { rec .ready none with state := .busy }) = W2 := ⟨_, rfl⟩;rw [hW2];have e2 : Calm w.heap.size W' W2 := by
      rw [← hW2];exact ⟨rfl, rfl, rfl, by simp, fun j hj hx => World.putObj_heap_other (fun e => hx ⟨by omega, by subst e; intro o ho; rw [hl] at ho; obtain rfl := Option.some.inj ho; rfl⟩)⟩
     have k2 : Kept W' W2 := by
      rw [← hW2];exact ⟨fun j hj => (World.putObj_heap_other (fun e => by subst e; rw [hl] at hj; cases hj)).trans hj⟩
     have hi2 := hI k O W' W2 hi e2;have hC2 := hC k O W2 hi2;have hl2 : W2.heap[L]? = some (.loop { rec .ready none with state := .busy }) := by rw [← hW2]; exact World.putObj_heap_same hlt
     have hs2 : W2.heap.size = W'.heap.size := by rw [← hW2]; simp
     refine wpIn_mono (hbody L k O args W2 hk (hArg k args W' W2 hAr e2) hi2 a1 (hat.kept k2)) ?_;rintro e a3 W3 ⟨rfl, O', hi3, he3, ho3⟩;have nO : ¬ O L := fun h => (hC2 L h).not fun o ho => by rw [hl2] at ho; obtain rfl := Option.some.inj ho; rfl
     have hl3 : W3.heap[L]? = some (.loop { rec .ready none with state := .busy }) := (he3.block L (by rw [hs2]; exact hlt) nO).trans hl2;have k3 : Kept W2 W3 := Kept.ext he3 fun j hj _ => hC2 j hj;have hlt3 : L < W3.heap.size := (Array.getElem?_eq_some_iff.1 hl3).1;have hend3 := run_endRound (P := P) none hl3
     have erec : ({ ({ rec .ready none with state := .busy } : Loop) with state := if (none : Option Code).isNone = true then .ready else .done, pending := none } : Loop) = rec .ready none := by rw [hrec]; rfl
     rw [erec] at hend3;refine ⟨_, _, hend3, rfl, (k2.trans k3).trans ⟨fun j hj => (World.putObj_heap_other (fun e => by subst e; rw [hl3] at hj; cases hj)).trans hj⟩, O', ⟨?_, World.putObj_heap_same hlt3, ?_, ?_, ?_⟩, ?_, ?_⟩
     · refine hI (k + 1) O' W3 _ hi3 ⟨rfl, rfl, rfl, by simp, fun j hj hx => World.putObj_heap_other (fun e => hx ⟨by omega, by subst e; intro o ho; rw [hl3] at ho; obtain rfl := Option.some.inj ho; rfl⟩)⟩
     · exact (World.putObj_heap_other (by omega)).trans (k3.same _ (k2.same _ hd))
     · exact fun j hj => (World.putObj_heap_other (fun e => by have := hm j hj; rw [e, hl] at this; cases this)).trans (k3.same _ (k2.same _ (hm j hj)))
     · rw [World.putObj_size]; exact Nat.le_trans hs (by rw [← hs2]; exact he3.size)
     · refine ⟨he3.os.trans (by rw [← hW2]; rfl), he3.tape.trans (by rw [← hW2]; rfl), he3.output.trans (by rw [← hW2]; rfl), by rw [World.putObj_size, ← hs2]; exact he3.size, fun j hj hx => ?_⟩;by_cases e : j = L
       · subst e; rw [World.putObj_heap_same hlt3, hl]
       · rw [World.putObj_heap_other e, he3.block j (by rw [hs2]; exact hj) hx, ← hW2, World.putObj_heap_other e]
     · intro i hi';rw [← hs2];exact ho3 i hi'
   · rintro e W2 ⟨⟨v, rfl⟩, O', hi, hl, hd, hm, hs⟩;have hend2 := run_endLoop (P := P) hl (by rw [hrec]; simp);obtain ⟨W5, hW5⟩ : ∃ W5, W2.putObj L (.loop { rec .ready none with state := .exhausted }) = W5 := ⟨_, rfl⟩;have e5 : Calm w.heap.size W2 W5 := by
      rw [← hW5];exact ⟨rfl, rfl, rfl, by simp, fun j hj hx => World.putObj_heap_other (fun e => hx ⟨by omega, by rw [e]; intro o ho; rw [hl] at ho; obtain rfl := Option.some.inj ho; rfl⟩)⟩
     have o5 : ∀ j, j ≠ L → W5.heap[j]? = W2.heap[j]? := fun j hj => by rw [← hW5]; exact World.putObj_heap_other hj
     rw [hW5] at hend2;have hp : (rec .ready none).pending = none := by rw [hrec]
     rw [hp] at hend2;refine ⟨none, _, hend2, ?_⟩;refine hend O' _ (hI K O' W2 _ hi e5) (Nat.le_trans hs e5.size) { a with defers := [markD w.heap.size] ++ a.defers } ⟨?_, ha.size, ha.get⟩;refine ⟨w.heap.size :: ks, by rw [List.map_cons, ← e1]; rfl, List.nodup_cons.2 ⟨fun h => ?_, hn⟩, fun j hj => ?_⟩
     · have := hkl _ h;omega
     · rcases List.mem_cons.1 hj with rfl | hj
       · exact ⟨hn0, (o5 _ (by omega)).trans hd⟩
       · have := hm j hj;exact ⟨(hk0 j hj).1, (o5 _ (fun e => by rw [e, hl] at this; cases this)).trans this⟩
end
end Go.Proofs.YtppdgjlmeahimaaDoor
namespace Go.Proofs.YtppdgjlmeahimaaDoor
open Go.RowKit
set_option maxRecDepth 100000
attribute [local irreducible] OW RS
theorem yield_mono {l : Nat} {args : Array Value} {W : World} {P : Program} {R R' : Ending → World → Prop} (h : YieldAt (fw none) 0 P l args W R) (hr : ∀ e w, R e w → R' e w) : YieldAt (fw none) 0 P l args W R' := by
 obtain ⟨fn, tmps, assign, body, hy, hR⟩ := h;exact ⟨fn, tmps, assign, body, hy, hR.mono hr⟩
def fnC (p : Pl) (f : LFn) : Array Value := #[.string f.name, .int .i64 f.params, .int .i64 f.regs, .int .i64 f.frees, .bool f.gen, .int .i64 f.bound, .slice p.an f.names.length p.cn, .slice p.ac f.consts.length p.cc, .slice p.ai f.ins.length p.ci, .slice p.ar f.rgs.length p.cr]
structure IntsX (X : Nat → Prop) (w : World) (A : Option Addr) (xs : List Int) : Prop where
 len : 8 * xs.length ≤ 140737488355000
 in_ : ∀ x ∈ xs, I64 x
 row : xs ≠ [] → ∃ g o, A = some ⟨g, o, none⟩ ∧ ¬ X g ∧ ∀ (j : Nat) x, xs[j]? = some x → w.cell? ⟨g, o + j, none⟩ = some (.int .i64 x)
theorem IntsX.ext {X Y : Nat → Prop} {w w' : World} {A : Option Addr} {xs : List Int} (h : IntsX X w A xs) (k : Ext X w w') (hY : ∀ i, Y i → X i ∨ w.heap.size ≤ i) : IntsX Y w' A xs := ⟨h.len, h.in_, fun h0 => by
 obtain ⟨g, o, e, hg, hc⟩ := h.row h0;have hlt : g < w.heap.size := by
  cases xs with
  | nil => exact absurd rfl h0
  | cons x xs => exact World.block_lt_of_cell? w _ (hc 0 x rfl)
 refine ⟨g, o, e, fun hy => (hY g hy).elim hg (by omega), fun j x hj => (k.cell (World.block_lt_of_cell? w _ (hc j x hj)) hg).trans (hc j x hj)⟩⟩
theorem IntsX.no {X : Nat → Prop} {w w' : World} {A : Option Addr} {xs : List Int} (h : IntsX X w A xs) (k : Below w.heap.size w w') : IntsX X w' A xs := ⟨h.len, h.in_, fun h0 => by
 obtain ⟨g, o, e, hg, hc⟩ := h.row h0;exact ⟨g, o, e, hg, fun j x hj => ((Ext.of_below k No).cell (World.block_lt_of_cell? w _ (hc j x hj)) (fun h => h.elim)).trans (hc j x hj)⟩⟩
theorem IntsX.ints {X : Nat → Prop} {w : World} {A : Option Addr} {xs : List Int} (h : IntsX X w A xs) : IntsA w.heap.size w A xs := ⟨h.len, h.in_, fun h0 => by
 obtain ⟨g, o, e, hg, hc⟩ := h.row h0;refine ⟨g, o, e, ?_, fun j x hj => by rw [Nat.mul_one]; exact hc j x hj⟩;cases xs with
 | nil => exact absurd rfl h0
 | cons x xs => exact World.block_lt_of_cell? w _ (hc 0 x rfl)⟩
theorem OwnsI.intsX {X : Nat → Prop} {w : World} {base c : Nat} {A : Option Addr} {xs : List Int} (h : OwnsI w base A c xs) (hX : ∀ i, X i → i < base) (hl : 8 * xs.length ≤ 140737488355000) (hi : ∀ x ∈ xs, I64 x) : IntsX X w A xs := ⟨hl, hi, fun h0 => by
 obtain ⟨g, rfl, hb, hg, hc⟩ := jm h (by cases xs with | nil => exact absurd rfl h0 | cons => simp);exact ⟨g, 0, rfl, fun hx => by have := hX g hx; omega, fun j x hj => by rw [Nat.zero_add]; exact hc j (.int .i64 x) (by unfold yz; rw [List.getElem?_map, hj]; rfl)⟩⟩
theorem IntsX.nil {X : Nat → Prop} {w : World} {A : Option Addr} : IntsX X w A [] := ⟨by simp, fun _ h => (by cases h), fun h => absurd rfl h⟩
structure WS (J : Nat → (Nat → Prop) → World → Prop) (p : Pl) (f : LFn) (n0 ga gf at_ k : Nat) (O : Nat → Prop) (w : World) : Prop where
 j : J k O w
 ba : Blk w ga 3 #[.int .i64 ((at_ : Nat) : Int)]
 bf : Blk w gf 27 (fnC p f)
 fn : FnA n0 w p f
 o : ∀ i, O i → n0 ≤ i ∧ ¬ (i = ga ∨ i = gf) ∧ i < w.heap.size
section
variable {J : Nat → (Nat → Prop) → World → Prop} {p : Pl} {f : LFn} {n0 ga gf at_ k : Nat} {O O' : Nat → Prop} {w w' : World}
theorem WS.no {X : Nat → World → Prop} (h : WS J p f n0 ga gf at_ k O w) (hJ : ∀ k O A B, J k O A → Ext (fun i => X i A) A B → J k O B) (hb : Below w.heap.size w w') : WS J p f n0 ga gf at_ k O w' :=
 have e := Ext.of_below hb No;⟨hJ _ _ _ _ h.j (Ext.of_below hb _), h.ba.ext e (fun h => h.elim), h.bf.ext e (fun h => h.elim), h.fn.low ⟨e, fun _ h => h.elim⟩, fun i hi => ⟨(h.o i hi).1, (h.o i hi).2.1, Nat.lt_of_lt_of_le (h.o i hi).2.2 hb.size⟩⟩
theorem WS.round (h : WS J p f n0 ga gf at_ k O w) (hlt : ∀ k O W, J k O W → ∀ i, O i → i < W.heap.size) (hj : J (k + 1) O' w') (he : Ext O w w') (hO : ∀ i, O' i → O i ∨ w.heap.size ≤ i) : WS J p f n0 ga gf at_ (k + 1) O' w' :=
 ⟨hj, h.ba.ext he (fun hx => (h.o _ hx).2.1 (Or.inl rfl)), h.bf.ext he (fun hx => (h.o _ hx).2.1 (Or.inr rfl)), h.fn.low ⟨he, fun i hi => (h.o i hi).1⟩, fun i hi => by
  have ha := h.ba.lt;have hf := h.bf.lt;have hs := h.fn.size;rcases hO i hi with h1 | h1
  · exact ⟨(h.o i h1).1, (h.o i h1).2.1, Nat.lt_of_lt_of_le (h.o i h1).2.2 he.size⟩
  · exact ⟨by omega, by omega, hlt _ _ _ hj i hi⟩⟩
end
def wayK (f : LFn) (at_ : Nat) (x : LIns) (k : Nat) (args : List Value) (W : World) : Prop := ∃ t ws A c, (vg f at_ x)[k]? = some (t, ws) ∧ args = [.int .i64 t, .slice A ws.length c] ∧ IntsA W.heap.size W A ws
section
variable {p : Pl} {f : LFn} {n0 ga gf at_ : Nat} {x : LIns}
theorem goWays_at {x : LIns} {k : Nat} {t : Int} : ∀ {l : List Int}, l[k]? = some t → (ja x l)[k]? = some (t, if k = 0 ∧ x.op ≠ 18 then yj x else []) := by
 intro l h;cases l with
 | nil => simp at h
 | cons u l =>
  cases k with
  | zero =>
   simp only [List.getElem?_cons_zero, Option.some.injEq] at h
   subst h;by_cases h18 : x.op = 18 <;> simp [ja, h18]
  | succ k =>
   simp only [List.getElem?_cons_succ] at h
   simp [ja, h]
theorem oa {x : LIns} : ∀ (l : List Int), (ja x l).length = l.length
 | [] => rfl
 | _ :: l => by simp [ja]
theorem waysL_go {k : Nat} {t : Int} (h : (yo x (at_ : Int))[k]? = some t) : (vg f at_ x)[k]? = some (t, if k = 0 ∧ x.op ≠ 18 then yj x else []) := by
 unfold vg;rw [List.getElem?_append_left (by rw [oa]; exact (List.getElem?_eq_some_iff.1 h).1)];exact goWays_at h
theorem waysL_no (h : jn f at_ x = none) : (vg f at_ x).length = (yo x (at_ : Int)).length := by
 unfold vg zkv;rw [h]; simp [oa]
theorem waysL_h {k : Nat} {r : LReg} (h : jn f at_ x = some k) (hr : f.rgs[k]? = some r) : (vg f at_ x)[(yo x (at_ : Int)).length]? = some (r.tg, [r.d]) ∧ (vg f at_ x).length = (yo x (at_ : Int)).length + 1 := by
 unfold vg zkv;rw [h];simp only [hr]
 rw [← oa (x := x)];constructor
 · rw [List.getElem?_append_right (Nat.le_refl _)]; simp
 · simp
theorem zak {k : Nat} (h : jn f at_ x = some k) : ∃ r, f.rgs[k]? = some r := by
 unfold jn at h;split at h
 · obtain ⟨h1, _⟩ := List.findIdx?_eq_some_iff_getElem.1 h;exact ⟨_, List.getElem?_eq_getElem h1⟩
 · cases h
end
theorem below_store {W w1 w2 : World} {g : Nat} (h : Ext No W w1) (k : Ext (Mut [some g]) w1 w2) (hg : W.heap.size ≤ g) : Below W.heap.size W w2 :=
 (Ext.step h k (fun i e => Or.inr (by rcases e with e | e; (have := Option.some.inj e; omega); exact e.elim))).toBelow
structure IS (J : Nat → (Nat → Prop) → World → Prop) (p : Pl) (f : LFn) (n0 ga gf at_ : Nat) (x : LIns) (B : Option Addr) (cB g4 : Nat) (Ag : Option Addr) (k : Nat) (O : Nat → Prop) (w : World) : Prop where
 s : WS J p f n0 ga gf at_ k O w
 b : Blk w g4 41 (jr x B cB).toArray
 n : ¬ O g4
 r : IntsX O w Ag (yo x (at_ : Int))
 l : IntsA n0 w B x.l
section
variable {J : Nat → (Nat → Prop) → World → Prop} {p : Pl} {f : LFn} {n0 ga gf at_ k g4 cB : Nat} {x : LIns} {B Ag : Option Addr} {O O' : Nat → Prop} {w w' : World}
theorem IS.no {X : Nat → World → Prop} (h : IS J p f n0 ga gf at_ x B cB g4 Ag k O w) (hJ : ∀ k O A B, J k O A → Ext (fun i => X i A) A B → J k O B) (hb : Below w.heap.size w w') : IS J p f n0 ga gf at_ x B cB g4 Ag k O w' :=
 ⟨h.s.no hJ hb, h.b.ext (Ext.of_below hb No) (fun h => h.elim), h.n, h.r.no hb, h.l.low (X := No) ⟨Ext.of_below hb No, fun _ h => h.elim⟩⟩
theorem IS.round (h : IS J p f n0 ga gf at_ x B cB g4 Ag k O w) (hlt : ∀ k O W, J k O W → ∀ i, O i → i < W.heap.size) (hj : J (k + 1) O' w') (he : Ext O w w') (hO : ∀ i, O' i → O i ∨ w.heap.size ≤ i) : IS J p f n0 ga gf at_ x B cB g4 Ag (k + 1) O' w' :=
 ⟨h.s.round hlt hj he hO, h.b.ext he h.n, fun hx => (hO g4 hx).elim h.n (fun h1 => by have := h.b.lt; omega), h.r.ext he hO, h.l.low ⟨he, fun i hi => (h.s.o i hi).1⟩⟩
end
theorem zik {f : LFn} {at_ kk : Nat} {x : LIns} (h : jn f at_ x = some kk) : zgq f at_ x = (kk : Int) := by unfold zgq; rw [h]
theorem zlx {f : LFn} {at_ : Nat} {x : LIns} (h : jn f at_ x = none) : zgq f at_ x = -1 := by unfold zgq; rw [h]
theorem qv {P : Program} {N : Nat} {ops : Array Oper} {Q : Exit → Act → World → Prop} {σ : Env} {w : World} {dst : Option Tmp} {ty : TypeId} {pos : String} {af : Array Edge} {Post : Value → World → Prop} {T e : TypeId} {n s : Nat} {z : Value} {ps : List (Nat × Operand)} {vs : List (Nat × Value)} {cs : Array Value} (hd : P.underlying T = some (.slice e)) (hs : vc P e s) (hz : jz P e z) (hn : n * s ≤ 1024) (hv : evp σ ps = some vs)
 (hf : Instr.fill (fun i => some (i * s, s)) ((Array.range (n * s)).map ((if n * s = 0 then #[] else z.cells)[· % (if n * s = 0 then #[] else z.cells).size]!)) vs = some cs)
 (k : ∀ g w', Blk w' g e cs → Below w.heap.size w w' → w.heap.size ≤ g → Post (.slice (some ⟨g, 0, none⟩) n n) w') : OW P N ops Q ⟨dst, .buildSlice T n ps.toArray, ty, pos, af, none⟩ σ w Post :=
 yl hd hs hz hn hv hf fun g w' h1 h2 h3 => k g w' h1 h2.toBelow h3
section
variable (p : Pl) (f : LFn) (n0 ga gf at_ : Nat) (x : LIns) (hx : f.ins[at_]? = some x)
include hx
theorem ways1_iter (w : World) (hba : Blk w ga 3 #[.int .i64 ((at_ : Nat) : Int)]) (hbf : Blk w gf 27 (fnC p f)) (hF : FnA n0 w p f) : Iter Tryd.prog 45 #[.pointer (some ⟨ga, 0, none⟩), .pointer (some ⟨gf, 0, none⟩)] (vg f at_ x).length (wayK f at_ x) n0 (fun i => i = ga ∨ i = gf) w := by
 intro l J O W hb hlt hJ hO hY h0;have hat := (List.getElem?_eq_some_iff.1 hx).1;have hil := hF.ins.len;have hrl := hF.rgs.len;have S : WS J p f n0 ga gf at_ 0 O W := ⟨h0, hba.ext (Ext.of_below hb No) (fun h => h.elim), hbf.ext (Ext.of_below hb No) (fun h => h.elim), hF.low (X := No) ⟨Ext.of_below hb No, fun _ h => h.elim⟩, hO⟩;obtain ⟨g, o, hA, hg, hc⟩ := S.fn.ins.row.at hx
 obtain ⟨hI, B, cB, hcB, hl, hcells⟩ := hc;show CallsIn (fw none) 0 Tryd.prog 45 #[.func (.yield l) #[] #[], .pointer (some ⟨ga, 0, none⟩), .pointer (some ⟨gf, 0, none⟩)] W _
 refine calls_ci Tryd.func45 rfl Tryd.ntmps45 rfl (qh (qh (yq (yh rfl (zg Tryd.underlying3 rfl rfl S.ba rfl (⟨Kept.refl _, (yh rfl (yy rfl rfl (⟨Kept.refl _, (yh rfl (zl rfl (⟨Kept.refl _, (ri_split 11 rfl (fun h1 => ?_) (fun h1 => ?_))⟩)))⟩)))⟩))))))
 ·
  exact absurd (of_decide_eq_true h1) (by omega)
 ·
  refine yh rfl (qq rfl (zg Tryd.underlying3 rfl rfl S.ba rfl (⟨Kept.refl _, (yh rfl (qq rfl (zb Tryd.underlying27 rfl gz (by decide) rfl (⟨Kept.refl _, (yh rfl (qq rfl (zg Tryd.underlying24 rfl rfl S.bf rfl (⟨Kept.refl _, (yh rfl (qq rfl (yw Tryd.underlying24 rfl (⟨Kept.refl _, (yh rfl (qq rfl (jd rfl rfl (⟨Kept.refl _, (yh rfl (yd rfl rfl (⟨Kept.refl _, (qm (qa (xx rfl (fun h2 => ?_) (fun h2 => ?_))))⟩)))⟩))))⟩))))⟩))))⟩))))⟩)))
  ·
   exact absurd (of_decide_eq_true h2) (by omega)
  ·
   refine xl (qa (qh (yq (yh rfl (zb Tryd.underlying27 rfl gz (by decide) rfl (⟨Kept.refl _, (yh rfl (zg Tryd.underlying24 rfl rfl S.bf rfl (⟨Kept.refl _, (yh rfl (zg Tryd.underlying3 rfl rfl S.ba rfl (⟨Kept.refl _, (yh rfl (yi (j := at_) Tryd.underlying24 vx (congrArg (fun z ↦ some (Value.slice z f.ins.length p.ci)) hA) rfl rfl hat (⟨Kept.refl _, (yh rfl (jb (cs := (jr x B cB).toArray) Tryd.underlying41 rfl vx rfl rfl (fun j v hj ↦ hcells j v (by simpa using hj)) (⟨Kept.refl _, (yh rfl (qb zpk ?_))⟩)))⟩)))⟩)))⟩)))⟩))))))
   rintro g4 w1 B4 E4 G4;refine ⟨Kept.no E4, (xo rfl (qz vx rfl rfl B4 rfl rfl rfl ?_))⟩;rintro w2 B5 E5;refine ⟨Kept.one E5 B4, ?_⟩;have hb2 := below_store E4 E5 G4;have hn4 : ¬ O g4 := fun h => by have := (S.o g4 h).2.2; omega
   have hl2 : IntsA n0 w2 B x.l := hl.low (X := No) ⟨Ext.of_below hb2 No, fun _ h => h.elim⟩;replace S := S.no hJ hb2
   refine qm (qa (qh (qh (yq (yh rfl (zo Tryd.underlying41 rfl vx rfl B5 rfl (⟨Kept.refl _, (yh rfl (zg Tryd.underlying3 rfl rfl S.ba rfl (⟨Kept.refl _, (yh rfl (yf en38 rfl ((zlz _ x B cB ((at_ : Nat) : Int) (by unfold I64; omega)).mono ?_)))⟩)))⟩)))))));rintro e w1 ⟨Ag, cg, rfl, og, hb⟩
   refine ⟨_, rfl, (⟨Kept.no (Ext.of_below hb _), ?_⟩)⟩;have R : IntsX O w1 Ag (yo x ((at_ : Nat) : Int)) := og.intsX (fun i hi => (S.o i hi).2.2) (by have := zck x ((at_ : Nat) : Int); omega) (zzk hI (by unfold I64; omega))
   have I : IS J p f n0 ga gf at_ x B cB g4 Ag 0 O w1 := ⟨S.no hJ hb, Blk.ext B5 (Ext.of_below hb No) (fun h => h.elim), hn4, R, hl2.low (X := No) ⟨Ext.of_below hb No, fun _ h => h.elim⟩⟩;have hgl := zck x ((at_ : Nat) : Int);clear S R hb og B5 hl2 B4 E4 E5 hb2
   refine yh rfl (yw Tryd.underlying28 rfl (⟨Kept.refl _, (yh rfl (zl rfl (⟨Kept.refl _, (qm (qa (jk (zoq (ι := Nat × (Nat → Prop)) (fun (k, O1) => [(0, .func (.yield l) #[] #[]), (1, .pointer (some ⟨ga, 0, none⟩)), (2, .pointer (some ⟨gf, 0, none⟩)), (4, .pointer (some ⟨g4, 0, none⟩)), (25, .slice Ag (yo x ((at_ : Nat) : Int)).length cg), (26, .int .i64 (((yo x ((at_ : Nat) : Int)).length : Nat) : Int)), (27, .int .i64 ((k : Nat) : Int))]) (fun (k, O1) w' => IS J p f n0 ga gf at_ x B cB g4 Ag k O1 w' ∧ k ≤ (yo x ((at_ : Nat) : Int)).length) (fun (k, O1) => (yo x ((at_ : Nat) : Int)).length - k) (0, O) ⟨rfl, rfl, rfl, rfl, rfl, rfl, rfl, trivial⟩ (⟨I, Nat.zero_le _⟩) ?_))))⟩)))⟩))
   rintro ⟨k, O1⟩ w3 ⟨I, hk⟩;refine qh (yq (yh rfl (yy rfl rfl (⟨Kept.refl _, (qm (qa (qh (xx rfl (fun hq => ?_) (fun hq => ?_)))))⟩))))
   ·
    have hq := of_decide_eq_true hq;obtain ⟨t, ht⟩ : ∃ t, (yo x ((at_ : Nat) : Int))[k]? = some t := ⟨_, List.getElem?_eq_getElem (by omega)⟩;obtain ⟨gr, ro, hAg, _, hcg⟩ := I.r.row (fun e => by rw [e] at ht; simp at ht)
    refine xl (qa (qh (jk (qh (yq (yh rfl (zl rfl (⟨Kept.refl _, (yh rfl (zk (j := k) Tryd.underlying28 sz3 (congrArg (fun z ↦ some (Value.slice z (yo x ((at_ : Nat) : Int)).length cg)) hAg) rfl rfl (by omega) (⟨Kept.refl _, (yh rfl (zt Tryd.underlying3 rfl rfl (hcg k t ht) (⟨Kept.refl _, (yh rfl (va rfl (⟨Kept.refl _, (yh rfl (va rfl (⟨Kept.refl _, (qm (qa (qh (yq (yh rfl (va rfl (⟨Kept.refl _, (qm (qa (qh (qh (ci_join (ι := Unit) (fun _ => [(0, .func (.yield l) #[] #[]), (1, .pointer (some ⟨ga, 0, none⟩)), (2, .pointer (some ⟨gf, 0, none⟩)), (4, .pointer (some ⟨g4, 0, none⟩)), (6, .int .i64 t), (7, .slice none 0 0), (25, .slice Ag (yo x ((at_ : Nat) : Int)).length cg), (26, .int .i64 (((yo x ((at_ : Nat) : Int)).length : Nat) : Int)), (27, .int .i64 ((k : Nat) : Int)), (38, .bool ((((k : Nat) : Int) == 0) && x.op != 18))]) (fun _ w' => IS J p f n0 ga gf at_ x B cB g4 Ag k O1 w') ?_ ?_)))))⟩)))))))⟩)))⟩)))⟩)))⟩)))⟩))))))))
    ·
     refine yq (yh rfl (zl rfl (⟨Kept.refl _, (yh rfl (yn rfl rfl (⟨Kept.refl _, (yh rfl (zl rfl (⟨Kept.refl _, (ri_split 34 rfl (fun h3 => ?_) (fun h3 => ?_))⟩)))⟩)))⟩)))
     ·
      refine yh rfl (qq rfl (zb Tryd.underlying41 rfl sz3 (by decide) rfl (⟨Kept.refl _, (yh rfl (qq rfl (zg Tryd.underlying3 rfl rfl I.b rfl (⟨Kept.refl _, (yh rfl (qq rfl (vb rfl rfl (⟨Kept.refl _, (yh rfl (zx rfl rfl (⟨Kept.refl _, (qm (ei_set 38 (.bool ((((k : Nat) : Int) == 0) && x.op != 18)) rfl ((by rw [h3]; rfl : (.bool (x.op != 18) : Value) = _)) ?_))⟩)))⟩))))⟩))))⟩)))
      exact ei_mid () ⟨rfl, rfl, rfl, rfl, rfl, rfl, rfl, rfl, rfl, rfl, trivial⟩ (I)
     ·
      refine yh rfl (zc rfl (⟨Kept.refl _, (yh rfl (zc rfl (⟨Kept.refl _, (yh rfl (zc rfl (⟨Kept.refl _, (yh rfl (yd rfl rfl (⟨Kept.refl _, (qm (ei_set 38 (.bool ((((k : Nat) : Int) == 0) && x.op != 18)) rfl ((by rw [h3]; rfl : (.bool false : Value) = _)) ?_))⟩)))⟩)))⟩)))⟩));exact ei_mid () ⟨rfl, rfl, rfl, rfl, rfl, rfl, rfl, rfl, rfl, rfl, trivial⟩ (I)
    ·
     rintro _ w5 I
     refine ci_join (ι := Option Addr × Nat × List Int) (fun (A7, c7, ws) => [(0, .func (.yield l) #[] #[]), (1, .pointer (some ⟨ga, 0, none⟩)), (2, .pointer (some ⟨gf, 0, none⟩)), (4, .pointer (some ⟨g4, 0, none⟩)), (6, .int .i64 t), (7, .slice A7 ws.length c7), (25, .slice Ag (yo x ((at_ : Nat) : Int)).length cg), (26, .int .i64 (((yo x ((at_ : Nat) : Int)).length : Nat) : Int)), (27, .int .i64 ((k : Nat) : Int))]) (fun (A7, c7, ws) w' => IS J p f n0 ga gf at_ x B cB g4 Ag k O1 w' ∧ IntsA w'.heap.size w' A7 ws ∧ ws = (if k = 0 ∧ x.op ≠ 18 then yj x else [])) ?_ ?_
     ·
      refine xx rfl (fun h4 => ?_) (fun h4 => ?_)
      ·
       refine yq (yh rfl (zo Tryd.underlying41 rfl vx rfl I.b rfl (⟨Kept.refl _, (yh rfl (yf en39 rfl ((zmz _ x B cB n0 I.l I.s.fn.size).mono ?_)))⟩)));rintro e w8 ⟨Aw, cw, rfl, ow, hb⟩;refine ⟨_, rfl, (⟨Kept.no (Ext.of_below hb _), (yh rfl (va rfl (⟨Kept.refl _, (qm ?_)⟩)))⟩)⟩;simp only [Bool.and_eq_true, beq_iff_eq, bne_iff_ne] at h4
       exact ei_mid (Aw, cw, yj x) ⟨rfl, rfl, rfl, rfl, rfl, rfl, rfl, rfl, rfl, trivial⟩ (⟨I.no hJ hb, OwnsI.ints ow (zmx I.l) (zhv hI I.l), by rw [if_pos ⟨by omega, h4.2⟩]⟩)
      ·
       refine xl ?_;exact ei_mid (none, 0, []) ⟨rfl, rfl, rfl, rfl, rfl, rfl, rfl, rfl, rfl, trivial⟩ (⟨I, IntsX.ints (X := No) IntsX.nil, by rw [if_neg (fun h => by rw [h.1] at h4; simp [h.2] at h4)]⟩)
     ·
      rintro ⟨A7, c7, ws⟩ w7 ⟨I, hw7, hws⟩;have hK : k < (vg f at_ x).length := by rw [← hws] at *; have := (List.getElem?_eq_some_iff.1 (waysL_go (f := f) ht)).1; exact this
      refine qh (yq (yh rfl (zl rfl (⟨Kept.refl _, (yh rfl (zl rfl (⟨Kept.refl _, (yh rfl (zl rfl (⟨Kept.refl _, (ri_yield (args := [.int .i64 t, .slice A7 ws.length c7]) rfl rfl rfl (yield_mono (hY k O1 _ _ hK ⟨t, ws, A7, c7, by rw [hws]; exact waysL_go ht, rfl, hw7⟩ I.s.j) ?_))⟩)))⟩)))⟩))));rintro e w9 ⟨rfl, hkp, O2, hj, hE, hg9⟩
      refine ⟨_, rfl, hkp, (yh rfl (jg rfl (⟨Kept.refl _, (qm (qa (ci_else rfl (xl (vm (qa (yq (yh rfl (qc rfl rfl (yg (by omega)) (⟨Kept.refl _, (yh rfl (zl rfl (⟨Kept.refl _, (qm ?_)⟩)))⟩))))))))))⟩)))⟩
      exact zdx (ι := Nat × (Nat → Prop)) (s := fun (k, O1) => [(0, .func (.yield l) #[] #[]), (1, .pointer (some ⟨ga, 0, none⟩)), (2, .pointer (some ⟨gf, 0, none⟩)), (4, .pointer (some ⟨g4, 0, none⟩)), (25, .slice Ag (yo x ((at_ : Nat) : Int)).length cg), (26, .int .i64 (((yo x ((at_ : Nat) : Int)).length : Nat) : Int)), (27, .int .i64 ((k : Nat) : Int))]) (R := fun (k, O1) w' => IS J p f n0 ga gf at_ x B cB g4 Ag k O1 w' ∧ k ≤ (yo x ((at_ : Nat) : Int)).length) (m := fun (k, O1) => (yo x ((at_ : Nat) : Int)).length - k) (i := ⟨k, O1⟩) (k + 1, O2) (by show (yo x ((at_ : Nat) : Int)).length - (k + 1) < (yo x ((at_ : Nat) : Int)).length - k; omega) ⟨rfl, rfl, rfl, rfl, rfl, rfl, rfl, trivial⟩ (⟨I.round hlt hj hE hg9, by omega⟩)
   ·
    have hq := of_decide_eq_false hq;obtain rfl : k = (yo x ((at_ : Nat) : Int)).length := by omega
    have S := I.s;clear I;refine zok (vu (vu (kf (qa (qh (yq (yh rfl (zo Tryd.underlying27 rfl jp rfl S.bf rfl (⟨Kept.refl _, (yh rfl (zg Tryd.underlying3 rfl rfl S.ba rfl (⟨Kept.refl _, (yh rfl (yf en40 rfl ((ygx _ p f n0 S.fn at_ x hx).mono ?_)))⟩)))⟩)))))))));rintro e w9 ⟨rfl, hb⟩
    refine ⟨_, rfl, (⟨Kept.no (Ext.of_below hb _), ?_⟩)⟩;replace S := S.no hJ hb;refine yh rfl (va rfl (⟨Kept.refl _, (qm (qa (qh (yq (yh rfl (zl rfl (⟨Kept.refl _, (yh rfl (jd rfl rfl (⟨Kept.refl _, (qm (qa (xx rfl (fun h5 => ?_) (fun h5 => ?_))))⟩)))⟩)))))))⟩))
    ·
     have h5 := of_decide_eq_true h5;obtain ⟨kk, hkk⟩ : ∃ kk, jn f at_ x = some kk := by
      cases hh : jn f at_ x with
      | none => rw [zlx hh] at h5; omega
      | some kk => exact ⟨kk, rfl⟩
     obtain ⟨r, hr⟩ := zak hkk;obtain ⟨hway, hlenw⟩ := waysL_h hkk hr;have hkr := (List.getElem?_eq_some_iff.1 hr).1;obtain ⟨gr, ro, hA2, hgr, hcr⟩ := S.fn.rgs.row.at hr;have hri := S.fn.rgs.in_ r (List.mem_of_getElem? hr)
     have hcq : ∀ wq, Ext No (World.drew w9) wq → zbx wq gr (ro + kk * 4) (zqz r) := fun wq h => Low.cells (n := n0) (X := No) ⟨(Ext.refl No _).drew.trans h, fun _ h => h.elim⟩ hgr hcr;have hbq : ∀ wq, Ext No (World.drew w9) wq → Blk wq gf 27 (fnC p f) := fun wq h => S.bf.ext ((Ext.refl No _).drew.trans h) (fun h => h.elim)
     refine ci_set 8 (.int .i64 ((kk : Nat) : Int)) rfl ((by rw [zik hkk] : (.int .i64 (zgq f at_ x) : Value) = _)) (ci_any je (ai_cut 14 (by kernel_rfl) ?_));refine vv (No) Mut.none_ [] [] (kl [Fx.of (.func (.yield l) #[] #[]),
      Fx.of (.pointer (some ⟨gf, 9, none⟩)),
      Fx.of (.slice p.ar f.rgs.length p.cr),
      Fx.of (.int .i64 ((kk : Nat) : Int)),
      Fx.of (.pointer (some ⟨gr, ro + kk * 4, none⟩)),
      Fx.of (.pointer (some ⟨gr, ro + kk * 4 + 2, none⟩)),
      Fx.of (.int .i64 r.tg),
      Fx.of (.pointer (some ⟨gf, 9, none⟩)),
      Fx.of (.slice p.ar f.rgs.length p.cr),
      Fx.of (.int .i64 ((kk : Nat) : Int)),
      Fx.of (.pointer (some ⟨gr, ro + kk * 4, none⟩)),
      Fx.of (.pointer (some ⟨gr, ro + kk * 4 + 3, none⟩)),
      Fx.of (.int .i64 r.d),
      ⟨Nat, fun gs => .slice (some ⟨gs, 0, none⟩) 1 1, fun gs b => (Blk b gs 3 #[.int .i64 r.d])⟩]) rfl trivial (fun _ h => by cases h) ?_ ?_
     · refine ⟨?_, ?_, ?_, ?_, ?_, ?_, ?_, ?_, ?_, ?_, ?_, ?_, ?_, ?_, trivial⟩
       · intro vs X wq K;exact zl rfl ⟨Below.refl _ _, Left.of rfl⟩
       · intro vs X wq K;exact zb Tryd.underlying27 rfl ko (by decide) rfl ⟨Below.refl _ _, Left.of rfl⟩
       · intro vs X wq K;have LE := K.1;obtain ⟨_, e1, k1⟩ := K.dep 1 rfl rfl rfl;refine zd 53 (.pointer (some ⟨gf, 9, none⟩)) rfl e1 ?_;exact zg Tryd.underlying25 rfl rfl (hbq _ LE) rfl ⟨Below.refl _ _, Left.of rfl⟩
       · intro vs X wq K;exact zl rfl ⟨Below.refl _ _, Left.of rfl⟩
       · intro vs X wq K;obtain ⟨_, e2, k2⟩ := K.dep 2 rfl rfl rfl;refine zd 54 (.slice p.ar f.rgs.length p.cr) rfl e2 ?_;obtain ⟨_, e3, k3⟩ := K.dep 3 rfl rfl rfl;refine zd 55 (.int .i64 ((kk : Nat) : Int)) rfl e3 ?_;exact yi (j := kk) Tryd.underlying25 ku (congrArg (fun z ↦ some (Value.slice z f.rgs.length p.cr)) hA2) rfl rfl hkr ⟨Below.refl _ _, Left.of rfl⟩
       · intro vs X wq K;obtain ⟨_, e4, k4⟩ := K.dep 4 rfl rfl rfl;refine zd 56 (.pointer (some ⟨gr, ro + kk * 4, none⟩)) rfl e4 ?_;exact zb Tryd.underlying50 rfl sz3 (by decide) rfl ⟨Below.refl _ _, Left.of rfl⟩
       · intro vs X wq K;have LE := K.1;obtain ⟨_, e5, k5⟩ := K.dep 5 rfl rfl rfl;refine zd 57 (.pointer (some ⟨gr, ro + kk * 4 + 2, none⟩)) rfl e5 ?_;exact zt Tryd.underlying3 rfl rfl (hcq _ LE 2 _ rfl) ⟨Below.refl _ _, Left.of rfl⟩
       · intro vs X wq K;exact zb Tryd.underlying27 rfl ko (by decide) rfl ⟨Below.refl _ _, Left.of rfl⟩
       · intro vs X wq K;have LE := K.1;obtain ⟨_, e7, k7⟩ := K.dep 7 rfl rfl rfl;refine zd 59 (.pointer (some ⟨gf, 9, none⟩)) rfl e7 ?_;exact zg Tryd.underlying25 rfl rfl (hbq _ LE) rfl ⟨Below.refl _ _, Left.of rfl⟩
       · intro vs X wq K;exact zl rfl ⟨Below.refl _ _, Left.of rfl⟩
       · intro vs X wq K;obtain ⟨_, e8, k8⟩ := K.dep 8 rfl rfl rfl;refine zd 60 (.slice p.ar f.rgs.length p.cr) rfl e8 ?_;obtain ⟨_, e9, k9⟩ := K.dep 9 rfl rfl rfl;refine zd 61 (.int .i64 ((kk : Nat) : Int)) rfl e9 ?_;exact yi (j := kk) Tryd.underlying25 ku (congrArg (fun z ↦ some (Value.slice z f.rgs.length p.cr)) hA2) rfl rfl hkr ⟨Below.refl _ _, Left.of rfl⟩
       · intro vs X wq K;obtain ⟨_, e10, k10⟩ := K.dep 10 rfl rfl rfl;refine zd 62 (.pointer (some ⟨gr, ro + kk * 4, none⟩)) rfl e10 ?_;exact zb Tryd.underlying50 rfl sz3 (by decide) rfl ⟨Below.refl _ _, Left.of rfl⟩
       · intro vs X wq K;have LE := K.1;obtain ⟨_, e11, k11⟩ := K.dep 11 rfl rfl rfl;refine zd 63 (.pointer (some ⟨gr, ro + kk * 4 + 3, none⟩)) rfl e11 ?_;exact zt Tryd.underlying3 rfl rfl (hcq _ LE 3 _ rfl) ⟨Below.refl _ _, Left.of rfl⟩
       · intro vs X wq K;have XN := K.2.1;obtain ⟨_, e12, k12⟩ := K.dep 12 rfl rfl rfl;refine zd 64 (.int .i64 r.d) rfl e12 (qv (cs := #[.int .i64 r.d]) Tryd.underlying28 sz3 zr3 (by decide) rfl (by rw [ym]; rfl) ?_);intro gs w5 Bs hb Gs;exact ⟨hb, ⟨gs, rfl, Per.blk Bs (fun hx => by have := XN gs hx; omega)⟩⟩
     intro vs w10 LE AO AL AF AA;have hbd : Below (w9).heap.size (w9) w10 := (((Ext.refl No (w9)).drew).trans LE).toBelow;obtain ⟨_, e0, k0⟩ := AL.1;obtain ⟨_, e6, k6⟩ := AL.2.2.2.2.2.2.1;obtain ⟨gs, e13, k13⟩ := AL.2.2.2.2.2.2.2.2.2.2.2.2.2.1;have Wc13 := k13.here
     refine vq (τ := [(52, .func (.yield l) #[] #[]), (58, .int .i64 r.tg), (65, .slice (some ⟨gs, 0, none⟩) 1 1)]) ⟨congrArg some e0, congrArg some e6, congrArg some e13, trivial⟩ ?_;clear AL AF AA AO;refine ew_ai (Kept.no LE) (yav (by kernel_rfl) rfl rfl ?_);have S2 := S.no hJ hbd
     have hI3 : IntsA w10.heap.size w10 (some ⟨gs, 0, none⟩) [r.d] := ⟨by simp, fun y hy => by simp at hy; subst hy; exact hri.d, fun _ => ⟨gs, 0, rfl, Wc13.lt, fun j y hj => by
      cases j with
      | zero => simp at hj; subst hj; exact (Wc13.cell 0).trans rfl
      | succ j => simp at hj⟩⟩
     refine ri_yield (args := [.int .i64 r.tg, .slice (some ⟨gs, 0, none⟩) 1 1]) rfl rfl rfl (yield_mono (hY _ O1 _ _ (by rw [hlenw]; exact Nat.lt_succ_self _) ⟨r.tg, [r.d], some ⟨gs, 0, none⟩, 1, hway, rfl, hI3⟩ S2.j) ?_);rintro e w9 ⟨rfl, hkp, O2, hj, hE, hg9⟩;refine ⟨_, rfl, hkp, (qm (ei_end rfl (fun wz hw => ?_)))⟩;exact ⟨⟨_, rfl⟩, O2, by rw [hlenw]; exact hJ _ _ _ _ hj hw⟩
    ·
     have h5 := of_decide_eq_false h5;have hkk : jn f at_ x = none := by
      cases hh : jn f at_ x with
      | none => rfl
      | some kk => rw [zik hh] at h5; omega
     refine xl (ei_end rfl (fun wz hw => ?_));exact ⟨⟨_, rfl⟩, O1, by rw [waysL_no hkk]; exact hJ _ _ _ _ S.j hw⟩
end
section
variable (w : World) (p : Pl) (f : LFn)
theorem ways_any (z : Int) : Calls Tryd.prog 36 #[fnV p f, .int .i64 z] w fun e w' => ∃ ga gf, e = .returned (.func (.func 45) #[] #[.pointer (some ⟨ga, 0, none⟩), .pointer (some ⟨gf, 0, none⟩)]) ∧ Blk w' ga 3 #[.int .i64 z] ∧ Blk w' gf 27 (fnC p f) ∧ w.heap.size ≤ ga ∧ w.heap.size ≤ gf ∧ Below w.heap.size w w' := by
 refine qs Tryd.func36 rfl Tryd.ntmps36 rfl ?_;have LW := erx (No) w;have XLW := grx (No) w;have E := erx (No) w;refine srx (za rfl (vk rfl ?_));intro gb1 w2 Bb1 Eb1 Gb1;have Gb1 : _ ≤ gb1 := Nat.le_trans E.size Gb1;have GLb1 := Nat.le_trans LW.size Gb1;replace E := E.trans Eb1.no;replace E := E.cons (some gb1)
 replace XLW := Mut.grow XLW (fun k e => Or.inr (Nat.le_trans LW.size ((zz Gb1) k e)));refine za rfl (vk rfl ?_);intro gb3 w4 Bb3 Eb3 Gb3;have Db3_b1 : Apart (some gb3) (some gb1) := Apart.of_lt (vd Bb1.lt) Gb3;have Db1_b3 := Db3_b1.symm;have Gb3 : _ ≤ gb3 := Nat.le_trans E.size Gb3;have GLb3 := Nat.le_trans LW.size Gb3;replace Bb1 := Bb1.extN Eb3 NotIn.nil
 replace E := E.trans Eb3.no;replace E := E.cons (some gb3);replace XLW := Mut.grow XLW (fun k e => Or.inr (Nat.le_trans LW.size ((zz Gb3) k e)));refine anx rfl (srx (za rfl (zqk rfl (anx rfl (zv (zu (rs := [.tmp 4]) (vs := [_]) rfl ⟨rfl, trivial⟩ ?_))))));exact ⟨_, _, rfl, Bb3, Bb1, GLb3, GLb1, (LW.step E XLW).toBelow⟩
end
end Go.Proofs.YtppdgjlmeahimaaDoor
namespace Go.Proofs.YtppdgjlmeahimaaDoor
open Go.RowKit
set_option maxRecDepth 100000
attribute [local irreducible] OW RS
def zbk (f : LFn) (at_ : Nat) (x : LIns) : List Int := (vg f at_ x).map (·.1)
theorem tosL_len (f : LFn) (at_ : Nat) (x : LIns) : (zbk f at_ x).length = (vg f at_ x).length := by simp [zbk]
theorem hWays_len (f : LFn) (at_ : Nat) (x : LIns) : (zkv f at_ x).length ≤ 1 := by
 unfold zkv;split
 · simp
 · split <;> simp
theorem ways_len (f : LFn) (at_ : Nat) (x : LIns) : (vg f at_ x).length ≤ 3 := by
 unfold vg;rw [List.length_append, oa];have := zck x (at_ : Int);have := hWays_len f at_ x;omega
structure LI (f : LFn) (at_ : Nat) (x : LIns) (v : World) (base g5 : Nat) (A : Option Addr) (c k : Nat) (w : World) : Prop where
 b : Blk w g5 28 #[.slice A k c]
 o : w.ownsRow base 3 1 (.slice A k c) k (yz ((zbk f at_ x).take k))
 n : (Value.slice A k c).ownBlock ≠ some g5
 s : base ≤ w.heap.size
 l : Below base v w
def LIO (f : LFn) (at_ : Nat) (x : LIns) (v : World) (base g5 : Nat) (k : Nat) (O : Nat → Prop) (w : World) : Prop := ∃ A c, LI f at_ x v base g5 A c k w ∧ ∀ i, O i ↔ (i = g5 ∨ (Value.slice A k c).ownBlock = some i)
theorem Blk.nc {n : Nat} {w w' : World} {g : Nat} {t : TypeId} {cs : Array Value} (h : Blk w g t cs) (e : Calm n w w') : Blk w' g t cs := h.ext e (fun hx => h.isC.not hx.2)
theorem owns_nc {m : Nat} {w w' : World} {base n size : Nat} {e : TypeId} {v : Value} {xs : List Value} (h : w.ownsRow base e size v n xs) (k : Calm m w w') : w'.ownsRow base e size v n xs := by
 refine ⟨h.1, ?_⟩;rcases h.2 with h2 | ⟨g, cap, cur, hv, hg, hh, r⟩
 · exact Or.inl h2
 · subst hv;have hlt : g < w.heap.size := (Array.getElem?_eq_some_iff.1 hh).1;exact Or.inr ⟨g, cap, cur, rfl, hg, (k.block g hlt (fun hn => by have := hn.2 _ hh; cases this)).trans hh, r⟩
theorem IntsA.nc {n m : Nat} {w w' : World} {A : Option Addr} {xs : List Int} (h : IntsA n w A xs) (k : Calm m w w') : IntsA n w' A xs := ⟨h.len, h.in_, fun h0 => by
 obtain ⟨g, o, e, hg, hc⟩ := h.row h0;exact ⟨g, o, e, hg, fun j x hj => (k.cell (World.block_lt_of_cell? w _ (hc j x hj)) (fun hx => (isC_cell (hc j x hj)).not hx.2)).trans (hc j x hj)⟩⟩
theorem wayK_nc {m : Nat} {f : LFn} {at_ : Nat} {x : LIns} {k : Nat} {args : List Value} {W W' : World} (h : wayK f at_ x k args W) (e : Calm m W W') : wayK f at_ x k args W' := by
 obtain ⟨t, ws, A, c, h1, h2, h3⟩ := h;exact ⟨t, ws, A, c, h1, h2, (h3.nc e).up e.size⟩
theorem zgv {base m : Nat} {v W W' : World} (h : Below base v W) (e : Calm m W W') (hm : base ≤ m) (hs : base ≤ W.heap.size) : Below base v W' :=
 ⟨e.os.trans h.os, e.tape.trans h.tape, e.output.trans h.output, Nat.le_trans h.size e.size, fun k hk => (e.block k (by omega) (fun hx => by have := hx.1; omega)).trans (h.block k hk)⟩
theorem LIO.nc {m : Nat} {f : LFn} {at_ : Nat} {x : LIns} {v : World} {base g5 k : Nat} {O : Nat → Prop} {W W' : World} (h : LIO f at_ x v base g5 k O W) (e : Calm m W W') (hm : base ≤ m) : LIO f at_ x v base g5 k O W' := by
 obtain ⟨A, c, h1, h2⟩ := h;exact ⟨A, c, ⟨h1.b.nc e, owns_nc h1.o e, h1.n, Nat.le_trans h1.s e.size, zgv h1.l e hm h1.s⟩, h2⟩
theorem LIO.isC {f : LFn} {at_ : Nat} {x : LIns} {v : World} {base g5 k : Nat} {O : Nat → Prop} {W : World} (h : LIO f at_ x v base g5 k O W) : ∀ i, O i → IsC W i := by
 obtain ⟨A, c, h1, h2⟩ := h;intro i hi;rcases (h2 i).1 hi with rfl | e
 · exact h1.b.isC
 · exact isC_own h1.o e.symm
theorem take_one {l : List Int} {k : Nat} {t : Int} (h : l[k]? = some t) : yz (l.take k) ++ [.int .i64 t] = yz (l.take (k + 1)) := by
 unfold yz;rw [List.take_add_one, h];simp
theorem tosL_at {f : LFn} {at_ : Nat} {x : LIns} {k : Nat} {t : Int} {ws : List Int} (h : (vg f at_ x)[k]? = some (t, ws)) : (zbk f at_ x)[k]? = some t := by
 unfold zbk; rw [List.getElem?_map, h]; rfl
section
variable (w : World) (p : Pl) (f : LFn) (n0 at_ : Nat) (x : LIns) (hF : FnA n0 w p f) (hx : f.ins[at_]? = some x)
include hF hx
theorem waysl_any : Calls Tryd.prog 37 #[fnV p f, .int .i64 ((at_ : Nat) : Int)] w (zeq w (zbk f at_ x)) := by
 have hat := (List.getElem?_eq_some_iff.1 hx).1;have hil := hF.ins.len;have hwl := ways_len f at_ x;refine ygq (calls_ci Tryd.func37 rfl Tryd.ntmps37 rfl (qh (yq (yh rfl (vk rfl ?_)))));rintro g2 wA B2 E2 G2;refine ⟨Kept.no E2, (yh rfl (va rfl (⟨Kept.refl _, (qm (qa (qh (yq (yh rfl (qb zr28 ?_))))))⟩)))⟩;rintro g5 wB B5 E5 G5
 refine ⟨Kept.no E5, ?_⟩;replace B2 := Blk.ext B2 E5 (fun h => h.elim);have hl5 := B5.lt;have hg5 : w.heap.size ≤ g5 := Nat.le_trans E2.size G5;refine qm (qa (qh (qh (yq (yh rfl (zo Tryd.underlying27 rfl jp rfl B2 rfl (⟨Kept.refl _, (yh rfl (zl rfl (⟨Kept.refl _, (yh rfl (yf en36 rfl ((ways_any _ p f ((at_ : Nat) : Int)).mono ?_)))⟩)))⟩)))))))
 rintro e w1 ⟨ga, gf, rfl, hba, hbf, hga, hgf, hb⟩;refine ⟨_, rfl, (⟨Kept.no (Ext.of_below hb _), ?_⟩)⟩;have hbw : Below w.heap.size w w1 := ((E2.trans E5).toBelow).trans (hb.mono (Nat.le_trans E2.size E5.size));have hF2 : FnA n0 w1 p f := hF.low (X := No) ⟨Ext.of_below hbw No, fun _ h => h.elim⟩;replace B5 := Blk.ext B5 (Ext.of_below hb No) (fun h => h.elim);refine qm (qa (jk ?_))
 have h00 : LIO f at_ x w w.heap.size g5 0 (fun i => i = g5 ∨ (Value.slice none 0 0).ownBlock = some i) w1 := ⟨none, 0, ⟨B5, vi, fun e => (by cases e), hbw.size, hbw⟩, fun _ => Iff.rfl⟩;have hO0 : ∀ i, (i = g5 ∨ (Value.slice none 0 0).ownBlock = some i) → n0 ≤ i ∧ ¬ (i = ga ∨ i = gf) := by
  rintro i (rfl | e)
  · exact ⟨Nat.le_trans hF.size hg5, by omega⟩
  · cases e
 refine ci_sub (τ := [(2, .pointer (some ⟨g2, 0, none⟩)), (4, .slice none 0 0), (5, .pointer (some ⟨g5, 0, none⟩)), (9, .func (.func 45) #[] #[.pointer (some ⟨ga, 0, none⟩), .pointer (some ⟨gf, 0, none⟩)])]) ⟨rfl, rfl, rfl, rfl, trivial⟩ (ci_range (n0 := w.heap.size) (m0 := n0) hbw.size rfl en45 (ways1_iter p f n0 ga gf at_ x hx w1 hba hbf hF2) (LIO f at_ x w w.heap.size g5) (fun _ _ _ _ h e ↦ h.nc e hbw.size) (fun _ _ _ h ↦ h.isC) hO0 h00 (fun args ↦ (6, args.headD undef) :: (([10, 11].zip args).reverse ++ [(2, .pointer (some ⟨g2, 0, none⟩)), (4, .slice none 0 0), (5, .pointer (some ⟨g5, 0, none⟩)), (9, .func (.func 45) #[] #[.pointer (some ⟨ga, 0, none⟩), .pointer (some ⟨gf, 0, none⟩)])])) (fun k args W h ↦ by obtain ⟨_, _, _, _, _, rfl, _⟩ := h; rfl) (by decide) (fun k args W W' h e ↦ wayK_nc h e) ?_ ?_ ?_)
 ·
  rintro l9 k args W9 hK ⟨t, ws, A7, c7, hway, rfl, hw7⟩;refine yq (yh rfl (va rfl (⟨Kept.refl _, (qm ?_)⟩)));intro a ha; exact ⟨rfl, rfl, ha⟩
 ·
  rintro l9 k O1 args W9 hK ⟨t, ws, A7, c7, hway, rfl, hw7⟩ ⟨A1, c1, hL, hO1⟩;have hk3 : k < 3 := by omega
  refine jk (yq (yh rfl (zt Tryd.underlying28 rfl rfl ((hL.b.cell 0).trans rfl) (⟨Kept.refl _, (yh rfl (zl rfl (⟨Kept.refl _, (yh rfl (yl (cs := #[.int .i64 t]) Tryd.underlying28 sz3 zr3 (by decide) rfl (by rw [ym]; rfl) ?_))⟩)))⟩))));rintro gs wC Bs Es Gs;refine ⟨Kept.no Es, ?_⟩;have hoC := qd (l := []) hL.o Es NotIn.nil
  have hbC := hL.b.ext Es (fun h => h.elim);have hbase : w.heap.size ≤ wC.heap.size := Nat.le_trans hL.s Es.size;refine yh rfl (qw (news := [.int .i64 t]) Tryd.underlying28 ou rfl (by decide) rfl hoC rfl (oc Bs Bs.lt rfl) (by simp [Value.oneCell']) (by unfold maxLen; omega) (by omega) hbase ?_);rintro v0 wD On En KN;refine ⟨Kept.own En hoC, ?_⟩
  obtain ⟨A2, c2, rfl⟩ := qk On;have hg5n : ¬ Mut [(Value.slice A1 k c1).ownBlock] g5 := fun h => by
   rcases h with h | h
   · exact hL.n h.symm
   · exact h.elim
  have hbD := hbC.ext En hg5n;have hn2 : (Value.slice A2 (k + 1) c2).ownBlock ≠ some g5 := fun e => by
   rcases KN g5 e with h | h
   · exact hL.n h
   · have := hL.b.lt;have := Es.size;omega
  refine xo rfl (zn gu rfl rfl hbD rfl rfl (Nat.le_of_ble_eq_true rfl) ?_);rintro wE Bf Ef;refine ⟨Kept.one Ef hbD, ?_⟩;have hoE := qd (l := [some g5]) On Ef (NotIn.cons (fun i e f => by have f := Option.some.inj f; rw [f] at hn2; exact hn2 e) NotIn.nil);rw [take_one (tosL_at hway)] at hoE
  have hE : Ext O1 W9 wE := ((Es.mono (fun _ h _ => h.elim)).step En (fun i h => Or.inl ((hO1 i).2 (by
   rcases h with h | h
   · exact Or.inr h.symm
   · exact h.elim)))).step Ef (fun i h => Or.inl ((hO1 i).2 (by
   rcases h with h | h
   · exact Or.inl (Option.some.inj h)
   · exact h.elim)))
  have hlE : Below w.heap.size w wE := by
   refine ⟨hE.os.trans hL.l.os, hE.tape.trans hL.l.tape, hE.output.trans hL.l.output, Nat.le_trans hL.l.size hE.size, fun i hi => (hE.block i (Nat.lt_of_lt_of_le hi hL.s) (fun hx => ?_)).trans (hL.l.block i hi)⟩;rcases (hO1 i).1 hx with rfl | h
   · omega
   · have := jj hL.o i h;omega
  refine qm (vm ?_);intro a ha; exact ⟨rfl, fun i => i = g5 ∨ (Value.slice A2 (k + 1) c2).ownBlock = some i, ⟨A2, c2, ⟨Bf, hoE, hn2, Nat.le_trans hL.s hE.size, hlE⟩, fun _ => Iff.rfl⟩, hE, fun i h => h.elim (fun h => Or.inl ((hO1 i).2 (Or.inl h))) (fun h => (KN i h).elim (fun h => Or.inl ((hO1 i).2 (Or.inr h))) (fun h => Or.inr (Nat.le_trans Es.size h)))⟩
 ·
  rintro O2 W9 ⟨A1, c1, hL, hO1⟩ hs9;refine vm (qa (qh (yq (yh rfl (zt Tryd.underlying28 rfl rfl ((hL.b.cell 0).trans rfl) (⟨Kept.refl _, (yh rfl (va rfl (⟨Kept.refl _, (qm (qa (ci_ret ?_)))⟩)))⟩))))));have e9 : (zbk f at_ x).take (vg f at_ x).length = zbk f at_ x := by rw [← tosL_len, List.take_length]
  refine ei_ret (rs := [.tmp 4]) (vs := [_]) rfl (fun wz hw => ⟨⟨rfl, trivial⟩, ?_⟩);exact yv (tosL_len f at_ x).symm (by rw [e9]) (owns_nc hL.o hw) (zgv hL.l hw (Nat.le_refl _) hL.s)
end
end Go.Proofs.YtppdgjlmeahimaaDoor
namespace Go.Proofs.YtppdgjlmeahimaaDoor
open Go.RowKit
set_option maxRecDepth 100000
def u64V (x : Nat) : Value := .int .u64 (x : Int)
def vp (x : List Nat) : List Value := x.map u64V
theorem kd (x : List Nat) : (vp x).length = x.length := by simp [vp]
theorem ybk {x : List Nat} {j y : Nat} (h : x[j]? = some y) : (vp x)[j]? = some (.int .u64 (y : Int)) := by
 unfold vp; rw [List.getElem?_map, h]; rfl
theorem ox (x : List Nat) (j y : Nat) : vp (x.set j y) = (vp x).set j (.int .u64 (y : Int)) := by
 unfold vp; rw [List.map_set]; rfl
theorem yfx (n : Nat) : vp (List.replicate n 0) = List.replicate n (.int .u64 0) := by
 unfold vp; rw [List.map_replicate]; rfl
theorem wordsV_one (x : List Nat) : ∀ v ∈ vp x, v.oneCell' = true := fun v hv => by
 unfold vp at hv;obtain ⟨y, _, rfl⟩ := List.mem_map.1 hv;rfl
def rwV (n g : Nat) : Value := .slice (some ⟨g, 0, none⟩) n n
def outV (gs : List Nat) (n N : Nat) : List Value := gs.map (rwV n) ++ List.replicate (N - gs.length) (.slice none 0 0)
theorem outV_at {gs : List Nat} {n N i g : Nat} (h : gs[i]? = some g) : (outV gs n N)[i]? = some (rwV n g) := by
 unfold outV;rw [List.getElem?_append_left (by rw [List.length_map]; exact (List.getElem?_eq_some_iff.1 h).1), List.getElem?_map, h];rfl
theorem outV_len {gs : List Nat} {n N : Nat} (h : gs.length ≤ N) : (outV gs n N).length = N := by
 unfold outV; simp; omega
theorem outV_add {gs : List Nat} {n N g : Nat} (h : gs.length < N) : (outV gs n N).set gs.length (rwV n g) = outV (gs ++ [g]) n N := by
 unfold outV;obtain ⟨m, hm⟩ : ∃ m, N - gs.length = m + 1 := ⟨N - gs.length - 1, by omega⟩;have h2 : N - (gs ++ [g]).length = m := by simp; omega
 rw [hm, h2, List.replicate_succ, List.set_append_right _ _ (by simp)];simp
structure RowsB (T U : TypeId) (base : Nat) (w : World) (go N n : Nat) (gs : List Nat) (W : List (List Nat)) : Prop where
 len : gs.length = W.length
 le : W.length ≤ N
 out : Blk w go T (outV gs n N).toArray
 row : ∀ (i : Nat) g x, gs[i]? = some g → W[i]? = some x → Blk w g U (vp x).toArray ∧ Row64 x n
 ge : ∀ g ∈ gs, base ≤ g
 nd : gs.Nodup
 ne : go ∉ gs
 geo : base ≤ go
section
variable {T U : TypeId} {base : Nat} {w w' : World} {go N n : Nat} {gs : List Nat} {W : List (List Nat)}
theorem RowsB.at (h : RowsB T U base w go N n gs W) {i : Nat} {g : Nat} (hg : gs[i]? = some g) : ∃ x, W[i]? = some x ∧ Blk w g U (vp x).toArray ∧ Row64 x n := by
 have h1 := (List.getElem?_eq_some_iff.1 hg).1;have h2 : i < W.length := by rw [← h.len]; exact h1
 exact ⟨W[i], List.getElem?_eq_getElem h2, h.row i g _ hg (List.getElem?_eq_getElem h2)⟩
theorem RowsB.get (h : RowsB T U base w go N n gs W) {i : Nat} (hi : i < W.length) : ∃ g, gs[i]? = some g ∧ W[i]? = some (W.getD i []) ∧ Blk w g U (vp (W.getD i [])).toArray ∧ Row64 (W.getD i []) n ∧ w.cell? ⟨go, i, none⟩ = some (.slice (some ⟨g, 0, none⟩) n n) := by
 have h1 : i < gs.length := by rw [h.len]; exact hi
 have h2 : W[i]? = some (W.getD i []) := by rw [List.getD_eq_getElem?_getD, List.getElem?_eq_getElem hi]; rfl
 obtain ⟨h3, h4⟩ := h.row i gs[i] _ (List.getElem?_eq_getElem h1) h2;refine ⟨gs[i], List.getElem?_eq_getElem h1, h2, h3, h4, ?_⟩;rw [h.out.cell];rw [List.getElem?_toArray];exact outV_at (List.getElem?_eq_getElem h1)
theorem RowsB.ext {X : Nat → Prop} (h : RowsB T U base w go N n gs W) (e : Ext X w w') (hgo : ¬ X go) (hgs : ∀ g ∈ gs, ¬ X g) : RowsB T U base w' go N n gs W :=
 ⟨h.len, h.le, h.out.ext e hgo, fun i g x hg hx => ⟨(h.row i g x hg hx).1.ext e (hgs g (List.mem_of_getElem? hg)), (h.row i g x hg hx).2⟩, h.ge, h.nd, h.ne, h.geo⟩
theorem RowsB.nc {m : Nat} (h : RowsB T U base w go N n gs W) (e : Calm m w w') : RowsB T U base w' go N n gs W :=
 ⟨h.len, h.le, h.out.nc e, fun i g x hg hx => ⟨(h.row i g x hg hx).1.nc e, (h.row i g x hg hx).2⟩, h.ge, h.nd, h.ne, h.geo⟩
theorem RowsB.isC (h : RowsB T U base w go N n gs W) {g : Nat} (hg : g ∈ gs) : IsC w g := by
 obtain ⟨i, hi, e⟩ := List.getElem_of_mem hg;obtain ⟨x, _, hb, _⟩ := h.at (i := i) (g := g) (by rw [← e]; exact List.getElem?_eq_getElem hi);exact hb.isC
theorem RowsB.lt (h : RowsB T U base w go N n gs W) {g : Nat} (hg : g ∈ gs) : g < w.heap.size := by
 obtain ⟨i, hi, e⟩ := List.getElem_of_mem hg;obtain ⟨x, _, hb, _⟩ := h.at (i := i) (g := g) (by rw [← e]; exact List.getElem?_eq_getElem hi);exact hb.lt
theorem nodup_at {gs : List Nat} (h : gs.Nodup) {i j g : Nat} (hi : gs[i]? = some g) (hj : gs[j]? = some g) : i = j := by
 obtain ⟨h1, e1⟩ := List.getElem?_eq_some_iff.1 hi;obtain ⟨h2, e2⟩ := List.getElem?_eq_some_iff.1 hj;rcases Nat.lt_trichotomy i j with h3 | h3 | h3
 · exact absurd (e1.trans e2.symm) ((List.pairwise_iff_getElem.1 h) i j h1 h2 h3)
 · exact h3
 · exact absurd (e2.trans e1.symm) ((List.pairwise_iff_getElem.1 h) j i h2 h1 h3)
theorem RowsB.put (h : RowsB T U base w go N n gs W) {i g : Nat} {x : List Nat} (hg : gs[i]? = some g) (hb : Blk w' g U (vp x).toArray) (hx : Row64 x n) (e : Ext (Mut [some g]) w w') : RowsB T U base w' go N n gs (W.set i x) := by
 have ho : ∀ k, k ≠ g → ¬ Mut [some g] k := fun k hk hm => by
  rcases hm with hm | hm
  · exact hk (Option.some.inj hm)
  · exact hm.elim
 have hi : i < W.length := by rw [← h.len]; exact (List.getElem?_eq_some_iff.1 hg).1
 refine ⟨by rw [List.length_set]; exact h.len, by rw [List.length_set]; exact h.le, h.out.ext e (ho go fun e => h.ne (e ▸ List.mem_of_getElem? hg)), fun j g' x' hg' hx' => ?_, h.ge, h.nd, h.ne, h.geo⟩;rw [List.getElem?_set] at hx';by_cases hij : i = j
 · subst hij;rw [if_pos rfl, if_pos hi] at hx';obtain rfl := Option.some.inj hx';rw [hg] at hg';obtain rfl := Option.some.inj hg';exact ⟨hb, hx⟩
 · rw [if_neg hij] at hx';obtain ⟨h1, h2⟩ := h.row j g' x' hg' hx';exact ⟨h1.ext e (ho g' fun e => hij (nodup_at h.nd hg (e ▸ hg'))), h2⟩
theorem RowsB.add {w1 : World} (h : RowsB T U base w go N n gs W) {g : Nat} (hk : W.length < N) (hb : Blk w1 g U (List.replicate n (.int .u64 0)).toArray) (e1 : Ext No w w1) (hg : w.heap.size ≤ g) (hbs : base ≤ w.heap.size)
 (ho : Blk w' go T ((outV gs n N).set W.length (rwV n g)).toArray) (e2 : Ext (Mut [some go]) w1 w') : RowsB T U base w' go N n (gs ++ [g]) (W ++ [List.replicate n 0]) := by
 have hn : ∀ k, k ≠ go → ¬ Mut [some go] k := fun k hk hm => by
  rcases hm with hm | hm
  · exact hk (Option.some.inj hm)
  · exact hm.elim
 have hgo := h.out.lt;refine ⟨by simp [h.len], by simp; omega, by rw [← h.len, outV_add (by rw [h.len]; exact hk)] at ho; exact ho, fun j g' x hg' hx => ?_, fun g' hg' => ?_, ?_, ?_, h.geo⟩
 · by_cases hj : j < gs.length
   · rw [List.getElem?_append_left hj] at hg';rw [List.getElem?_append_left (by rw [← h.len]; exact hj)] at hx;obtain ⟨h1, h2⟩ := h.row j g' x hg' hx;exact ⟨(h1.ext e1 (fun h => h.elim)).ext e2 (hn g' fun e => h.ne (e ▸ List.mem_of_getElem? hg')), h2⟩
   · rw [List.getElem?_append_right (by omega)] at hg';rw [List.getElem?_append_right (by rw [← h.len]; omega)] at hx;have h0 : j - gs.length = 0 := by
      have := (List.getElem?_eq_some_iff.1 hg').1;simp at this
      omega
     rw [h0] at hg';rw [← h.len, h0] at hx;obtain rfl := Option.some.inj hg';obtain rfl := Option.some.inj hx;rw [yfx];exact ⟨hb.ext e2 (hn _ (by omega)), Row64.zero n⟩
 · rcases List.mem_append.1 hg' with h1 | h1
   · exact h.ge g' h1
   · obtain rfl := List.mem_singleton.1 h1;omega
 · refine List.nodup_append.2 ⟨h.nd, by simp, fun a ha b hb' => ?_⟩;obtain rfl := List.mem_singleton.1 hb';have := h.lt ha;omega
 · intro h1;rcases List.mem_append.1 h1 with h1 | h1
   · exact h.ne h1
   · have := List.mem_singleton.1 h1;omega
theorem RowsB.nil (hb : Blk w go T (List.replicate N (.slice none 0 0)).toArray) (hg : base ≤ go) : RowsB T U base w go N n [] [] :=
 ⟨rfl, Nat.zero_le _, by simpa [outV] using hb, fun i g x hg' => by simp at hg', fun g h => by simp at h, List.nodup_nil, by simp, hg⟩
def RowsW (n : Nat) (w : World) (A : Option Addr) (W : List (List Nat)) : Prop := RowS n w 1 (fun w g o (x : List Nat) => ∃ B c, U64A n w B x ∧ w.cell? ⟨g, o, none⟩ = some (.slice B x.length c)) A W
theorem RowsB.rows (h : RowsB T U base w go N n gs W) (hn : 8 * n ≤ 140737488355000) : RowsW w.heap.size w (some ⟨go, 0, none⟩) W := fun h0 => by
 refine ⟨go, 0, rfl, h.out.lt, fun j x hj => ?_⟩;have hj' := (List.getElem?_eq_some_iff.1 hj).1;obtain ⟨g, hg, hx, hb, h64, hc⟩ := h.get hj';rw [hj] at hx;have hx := Option.some.inj hx;rw [← hx] at hb h64;refine ⟨some ⟨g, 0, none⟩, n, ⟨by rw [h64.1]; exact hn, h64.2, fun _ => ⟨g, 0, rfl, hb.lt, fun i y hi => ?_⟩⟩, ?_⟩
 · show w.cell? ⟨g, 0 + i * 1, none⟩ = _
   rw [hb.cell, List.getElem?_toArray, Nat.zero_add, Nat.mul_one];exact ybk hi
 · show w.cell? ⟨go, 0 + j * 1, none⟩ = _
   rw [Nat.zero_add, Nat.mul_one, h64.1];exact hc
theorem RowsW.low {X : Nat → Prop} {m : Nat} {A : Option Addr} (h : RowsW m w A W) (k : Low m X w w') : RowsW m w' A W := RowS.low h (fun _ _ _ hg hc => by
 obtain ⟨B, c, h1, h2⟩ := hc;exact ⟨B, c, h1.low k, (k.cell hg h2)⟩)
theorem Per.rowsW {X : Nat → Prop} {m : Nat} {A : Option Addr} (h : RowsW m w A W) (hX : ∀ k, X k → m ≤ k) : Per X w (fun z => RowsW m z A W) := fun _ hb => h.low ⟨hb, hX⟩
end
theorem ow_makeW {P : Program} {N : Nat} {ops : Array Oper} {Q : Exit → Act → World → Prop} {σ : Env} {w : World} {dst : Option Tmp} {ty : TypeId} {pos : String} {af : Array Edge} {Post : Value → World → Prop} {T e : TypeId} {x y : Operand} {z : Value} {b n : Nat} {k1 k2 : IntKind} {m1 m2 : Int} (hd : P.underlying T = some (.slice e)) (hi : xj P e z 1 b) (hz : z.cells = #[z]) (hx : ev σ x = some (.int k1 m1)) (hy : ev σ y = some (.int k2 m2)) (e1 : m1 = (n : Int)) (e2 : m2 = (n : Int)) (hb : b * n ≤ 140737488355328) (hn : n ≤ 9223372036854775807)
 (k : ∀ g w', Blk w' g e (List.replicate n z).toArray → Below w.heap.size w w' → w.heap.size ≤ g → Post (.slice (some ⟨g, 0, none⟩) n n) w') : OW P N ops Q ⟨dst, .makeSlice T x y, ty, pos, af, none⟩ σ w Post :=
 zbz hd hi hz hx hy e1 e2 hb hn fun g w' h1 h2 h3 => k g w' h1 h2.toBelow h3
structure L0 (T5 T U T1 : TypeId) (w : World) (fv : Value) (N n g1 go g5 : Nat) (gs : List Nat) (W : List (List Nat)) (w' : World) : Prop where
 lo : Below w.heap.size w w'
 b1 : Blk w' g1 T1 fv.cells
 b5 : Blk w' g5 T5 #[.slice (some ⟨go, 0, none⟩) N N]
 rows : RowsB T U w.heap.size w' go N n gs W
 ord : ∀ g ∈ gs, g5 < g
structure LvOrd (b g1 go g5 gt g10 : Nat) (gs : List Nat) : Prop where
 a : b ≤ g1
 c : g1 < go
 d : go < g5
 e : ∀ g ∈ gs, g5 < g ∧ g < gt
 g : gt < g10
 h : g5 < gt
structure LV (T5 T U T1 : TypeId) (w : World) (fv : Value) (N n g1 go g5 gt g10 : Nat) (gs : List Nat) (W : List (List Nat)) (th : List Nat) (w' : World) : Prop where
 lo : Below w.heap.size w w'
 b1 : Blk w' g1 T1 fv.cells
 b5 : Blk w' g5 T5 #[.slice (some ⟨go, 0, none⟩) N N]
 b10 : Blk w' g10 T #[.slice (some ⟨gt, 0, none⟩) n n]
 bt : Blk w' gt U (vp th).toArray
 rt : Row64 th n
 rows : RowsB T U w.heap.size w' go N n gs W
 wl : W.length = N
theorem qt {g k : Nat} (h : Mut [some g] k) : k = g := by
 rcases h with h | h
 · exact Option.some.inj h
 · exact h.elim
theorem kz {X : Nat → Prop} {b : Nat} {v w w' : World} (h : Below b v w) (e : Ext X w w') (hs : b ≤ w.heap.size) (hX : ∀ k, X k → b ≤ k) : Below b v w' :=
 ⟨e.os.trans h.os, e.tape.trans h.tape, e.output.trans h.output, Nat.le_trans h.size e.size, fun k hk => (e.block k (by omega) (fun hx => by have := hX k hx; omega)).trans (h.block k hk)⟩
section
variable {T5 T U T1 : TypeId} {w w1 w2 w3 : World} {fv : Value} {N n g1 go g5 : Nat} {gs : List Nat} {W : List (List Nat)} (h1 : w.heap.size ≤ g1) (h2 : g1 < go) (h3 : go < g5)
include h1 h2 h3
theorem L0.other {X : Nat → Prop} (h : L0 T5 T U T1 w fv N n g1 go g5 gs W w1) (e : Ext X w1 w2) (hX : ∀ k, X k → g5 < k ∧ k ∉ gs) : L0 T5 T U T1 w fv N n g1 go g5 gs W w2 := by
 have hx : ∀ k, k ≤ g5 → ¬ X k := fun k hk hx => by have := (hX k hx).1; omega
 exact ⟨kz h.lo e h.lo.size (fun k hk => by have := (hX k hk).1; omega), h.b1.ext e (hx _ (by omega)), h.b5.ext e (hx _ (by omega)), h.rows.ext e (hx _ (by omega)) (fun g hg hm => (hX g hm).2 hg), h.ord⟩
theorem L0.no (h : L0 T5 T U T1 w fv N n g1 go g5 gs W w1) (e : Ext No w1 w2) : L0 T5 T U T1 w fv N n g1 go g5 gs W w2 := h.other h1 h2 h3 e (fun _ hx => hx.elim)
theorem L0.putR (h : L0 T5 T U T1 w fv N n g1 go g5 gs W w1) {i g : Nat} {x : List Nat} (hg : gs[i]? = some g) (e : Ext (Mut [some g]) w1 w2) (hb : Blk w2 g U (vp x).toArray) (hr : Row64 x n) : L0 T5 T U T1 w fv N n g1 go g5 gs (W.set i x) w2 := by
 have hg' := h.ord g (List.mem_of_getElem? hg);have hx : ∀ k, k ≠ g → ¬ Mut [some g] k := fun k hk hx => hk (qt hx);exact ⟨kz h.lo e h.lo.size (fun k hk => by have := qt hk; omega), h.b1.ext e (hx _ (by omega)), h.b5.ext e (hx _ (by omega)), h.rows.put hg hb hr e, h.ord⟩
theorem L0.add (h : L0 T5 T U T1 w fv N n g1 go g5 gs W w1) {g : Nat} (hk : W.length < N) (hb : Blk w2 g U (List.replicate n (.int .u64 0)).toArray) (e1 : Ext No w1 w2) (hg : w1.heap.size ≤ g)
 (ho : Blk w3 go T ((outV gs n N).set W.length (rwV n g)).toArray) (e2 : Ext (Mut [some go]) w2 w3) : L0 T5 T U T1 w fv N n g1 go g5 (gs ++ [g]) (W ++ [List.replicate n 0]) w3 := by
 have hx : ∀ k, k ≠ go → ¬ Mut [some go] k := fun k hk hx => hk (qt hx);have hl5 := h.b5.lt
 exact ⟨kz (kz h.lo e1 h.lo.size (fun _ h => h.elim)) e2 (Nat.le_trans h.lo.size e1.size) (fun k hk => by have := qt hk; omega), (h.b1.ext e1 (fun h => h.elim)).ext e2 (hx _ (by omega)), (h.b5.ext e1 (fun h => h.elim)).ext e2 (hx _ (by omega)), h.rows.add hk hb e1 hg h.lo.size ho e2, fun k hk => by
  rcases List.mem_append.1 hk with hk | hk
  · exact h.ord k hk
  · obtain rfl := List.mem_singleton.1 hk;omega⟩
end
section
variable {T5 T U T1 : TypeId} {w w1 w2 : World} {fv : Value} {N n g1 go g5 gt g10 : Nat} {gs : List Nat} {W : List (List Nat)} {th : List Nat} (O : LvOrd w.heap.size g1 go g5 gt g10 gs)
include O
theorem LV.other {X : Nat → Prop} (h : LV T5 T U T1 w fv N n g1 go g5 gt g10 gs W th w1) (e : Ext X w1 w2) (hX : ∀ k, X k → g10 < k) : LV T5 T U T1 w fv N n g1 go g5 gt g10 gs W th w2 := by
 obtain ⟨o1, o2, o3, o4, o5, o6⟩ := O;have hx : ∀ k, k ≤ g10 → ¬ X k := fun k hk hx => by have := hX k hx; omega
 exact ⟨kz h.lo e h.lo.size (fun k hk => by have := hX k hk; omega), h.b1.ext e (hx _ (by omega)), h.b5.ext e (hx _ (by omega)), h.b10.ext e (hx _ (by omega)), h.bt.ext e (hx _ (by omega)), h.rt, h.rows.ext e (hx _ (by omega)) (fun g hg => hx _ (by have := o4 g hg; omega)), h.wl⟩
omit O in
theorem LV.nc {m : Nat} (h : LV T5 T U T1 w fv N n g1 go g5 gt g10 gs W th w1) (e : Calm m w1 w2) (hm : w.heap.size ≤ m) : LV T5 T U T1 w fv N n g1 go g5 gt g10 gs W th w2 :=
 ⟨zgv h.lo e hm h.lo.size, h.b1.nc e, h.b5.nc e, h.b10.nc e, h.bt.nc e, h.rt, h.rows.nc e, h.wl⟩
theorem LV.putT (h : LV T5 T U T1 w fv N n g1 go g5 gt g10 gs W th w1) (e : Ext (Mut [some gt]) w1 w2) {th' : List Nat} (hb : Blk w2 gt U (vp th').toArray) (hr : Row64 th' n) : LV T5 T U T1 w fv N n g1 go g5 gt g10 gs W th' w2 := by
 obtain ⟨o1, o2, o3, o4, o5, o6⟩ := O;have hx : ∀ k, k ≠ gt → ¬ Mut [some gt] k := fun k hk hx => hk (qt hx);exact ⟨kz h.lo e h.lo.size (fun k hk => by have := qt hk; omega), h.b1.ext e (hx _ (by omega)), h.b5.ext e (hx _ (by omega)), h.b10.ext e (hx _ (by omega)), hb, hr, h.rows.ext e (hx _ (by omega)) (fun g hg => hx _ (by have := o4 g hg; omega)), h.wl⟩
theorem LV.putR (h : LV T5 T U T1 w fv N n g1 go g5 gt g10 gs W th w1) {i g : Nat} {x : List Nat} (hg : gs[i]? = some g) (e : Ext (Mut [some g]) w1 w2) (hb : Blk w2 g U (vp x).toArray) (hr : Row64 x n) : LV T5 T U T1 w fv N n g1 go g5 gt g10 gs (W.set i x) th w2 := by
 obtain ⟨o1, o2, o3, o4, o5, o6⟩ := O;have hg' := o4 g (List.mem_of_getElem? hg);have hx : ∀ k, k ≠ g → ¬ Mut [some g] k := fun k hk hx => hk (qt hx)
 exact ⟨kz h.lo e h.lo.size (fun k hk => by have := qt hk; omega), h.b1.ext e (hx _ (by omega)), h.b5.ext e (hx _ (by omega)), h.b10.ext e (hx _ (by omega)), h.bt.ext e (hx _ (by omega)), h.rt, h.rows.put hg hb hr e, by rw [List.length_set]; exact h.wl⟩
end
end Go.Proofs.YtppdgjlmeahimaaDoor
namespace Go.Proofs.YtppdgjlmeahimaaDoor
open Go.RowKit
set_option maxRecDepth 100000
attribute [local irreducible] OW RS CI RI AI
def RW (f : LFn) (W : List (List Nat)) : Prop := ∀ a x r, a < W.length → f.ins[a]? = some x → (vj W a r = true ↔ ((r : Nat) : Int) ∈ yu x)
def ke (f : LFn) : Nat := (f.regs.toNat + 63) / 64
def RetLive (f : LFn) (w : World) : Ending → World → Prop := fun e w' => Below w.heap.size w w' ∧ (vh f = false → e = .returned (.tuple #[.slice none 0 0, .int .i64 3])) ∧ (vh f = true → ∃ A c W, e = .returned (.tuple #[.slice A f.ins.length c, .int .i64 0]) ∧ Rows64 W f.ins.length (ke f) ∧ (∀ a r, vj W a r = true ↔ Liv f a r) ∧ RowsW w'.heap.size w' A W)
def RP (f : LFn) (W : List (List Nat)) (i k : Nat) (x : LIns) : Prop := (∀ a x' r, a < i → f.ins[a]? = some x' → (vj W a r = true ↔ ((r : Nat) : Int) ∈ yu x')) ∧ ∀ r, vj W i r = true ↔ ((r : Nat) : Int) ∈ (yu x).take k
theorem RW.start {f : LFn} {W : List (List Nat)} {i n : Nat} (h : RW f W) (hl : W.length = i) (x : LIns) : RP f (W ++ [List.replicate n 0]) i 0 x := by
 subst hl;refine ⟨fun a x' r ha hx => ?_, fun r => ?_⟩
 · rw [← h a x' r ha hx];unfold vj;rw [List.getD_eq_getElem?_getD, List.getElem?_append_left ha, ← List.getD_eq_getElem?_getD]
 · unfold vj;rw [List.getD_eq_getElem?_getD, List.getElem?_append_right (Nat.le_refl _)];simp [yev]
theorem ydk (W : List (List Nat)) (i a : Nat) (x : List Nat) (hi : i < W.length) : vj (W.set i x) a = if a = i then gn x else vj W a := by
 funext r
 unfold vj;rw [getD_set _ _ _ _ hi];split <;> rfl
theorem RP.step {f : LFn} {W : List (List Nat)} {i k n r : Nat} {x : LIns} (h : RP f W i k x) (hl : W.length = i + 1) (hrow : Row64 (W.getD i []) n) (hk : (yu x)[k]? = some ((r : Nat) : Int)) (hr : r < 64 * n) : RP f (W.set i (setR (W.getD i []) r)) i (k + 1) x := by
 refine ⟨fun a x' q ha hx => ?_, fun q => ?_⟩
 · rw [ydk _ _ _ _ (by omega), if_neg (by omega)];exact h.1 a x' q ha hx
 · rw [ydk _ _ _ _ (by omega), if_pos rfl, bitR_setR hrow hr, List.take_add_one, hk];have := h.2 q;unfold vj at this;rw [Bool.or_eq_true, this, decide_eq_true_iff];simp only [Option.toList_some, List.mem_append, List.mem_singleton]
   exact or_congr Iff.rfl (by omega)
theorem RP.done {f : LFn} {W : List (List Nat)} {i : Nat} {x : LIns} (h : RP f W i (yu x).length x) (hl : W.length = i + 1) (hx : f.ins[i]? = some x) : RW f W := fun a x' r ha hx' => by
 rcases Nat.lt_or_ge a i with h1 | h1
 · exact h.1 a x' r h1 hx'
 · obtain rfl : a = i := by omega
   rw [hx] at hx';obtain rfl := Option.some.inj hx';have := h.2 r;rwa [List.take_length] at this
theorem bitW_lt {W : List (List Nat)} {a r : Nat} (h : vj W a r = true) : a < W.length := by
 rcases Nat.lt_or_ge a W.length with h1 | h1
 · exact h1
 · unfold vj at h;rw [List.getD_eq_getElem?_getD, List.getElem?_eq_none h1] at h;simp [gn] at h
theorem RW.sound {f : LFn} {W : List (List Nat)} (h : RW f W) (hl : W.length = f.ins.length) : zhz f W := fun a r hb => by
 have ha := bitW_lt hb;have hx : f.ins[a]? = some (f.ins[a]'(by omega)) := List.getElem?_eq_getElem (by omega);exact Liv.read hx ((h a _ r ha hx).1 hb)
theorem RW.reads {f : LFn} {W : List (List Nat)} (h : RW f W) (hl : W.length = f.ins.length) : zhq f W := fun a x r hx hr => (h a x r (by have := (List.getElem?_eq_some_iff.1 hx).1; omega) hx).2 hr
theorem zix {T U : TypeId} {b : Nat} {w : World} {go N n : Nat} {gs : List Nat} {W : List (List Nat)} (h : RowsB T U b w go N n gs W) (hl : W.length = N) : Rows64 W N n := ⟨hl, fun x hx => by
 obtain ⟨i, hi, e⟩ := List.getElem_of_mem hx;have h1 : i < gs.length := by rw [h.len]; exact hi
 exact (h.row i gs[i] x (List.getElem?_eq_getElem h1) (by rw [← e]; exact List.getElem?_eq_getElem hi)).2⟩
theorem km {x : List Nat} {j y : Nat} (h : x[j]? = some y) : (vp x).toArray[0 + j]? = some (.int .u64 (y : Int)) := by
 rw [Nat.zero_add, List.getElem?_toArray];exact ybk h
theorem low_two {n0 b : Nat} {v a c : World} (h1 : Below b v a) (h2 : Below b v c) (hs : a.heap.size ≤ c.heap.size) (hn : n0 ≤ b) : Low n0 (fun k => b ≤ k) a c :=
 ⟨⟨h2.os.trans h1.os.symm, h2.tape.trans h1.tape.symm, h2.output.trans h1.output.symm, hs, fun k _ hx => (h2.block k (by omega)).trans (h1.block k (by omega)).symm⟩, fun _ hk => Nat.le_trans hn hk⟩
theorem js {a b : World} {ad : Addr} {v : Value} (h : Ext No a.drew b) (hc : a.cell? ad = some v) : b.cell? ad = some v :=
 (((Ext.refl No _).drew.trans h).cell (World.block_lt_of_cell? _ _ hc) (fun hx => hx.elim)).trans hc
theorem vr {a b : World} {g : Nat} {T : TypeId} {cs : Array Value} (h : Ext No a.drew b) (hc : Blk a g T cs) : Blk b g T cs := hc.ext ((Ext.refl No _).drew.trans h) (fun h => h.elim)
theorem zxv {k : Nat} (h : k < 64) : IntKind.u64.wrap ((1 : Int) * 2 ^ (min ((k : Nat) : Int).toNat IntKind.u64.bits)) = ((2 ^ k : Nat) : Int) := by
 have e : min ((k : Nat) : Int).toNat IntKind.u64.bits = k := by
  show min k 64 = k
  omega
 have e2 : (2 : Int) ^ k = ((2 ^ k : Nat) : Int) := by rw [Int.natCast_pow]; rfl
 rw [e, Int.one_mul, e2];have h1 : 2 ^ k < 2 ^ 64 := Nat.pow_lt_pow_right (by decide) h;have h2 : 2 ^ k < 18446744073709551616 := h1;obtain ⟨m, hm⟩ : ∃ m, m = 2 ^ k := ⟨_, rfl⟩;rw [← hm] at h2 ⊢;exact xd (by omega)
theorem or_u64 {x y : Nat} (hx : x < 2 ^ 64) (hy : y < 2 ^ 64) : IntKind.u64.wrap (BitVec.ofInt IntKind.u64.bits (x : Int) ||| BitVec.ofInt IntKind.u64.bits (y : Int)).toNat = ((x ||| y : Nat) : Int) := by
 have e : (BitVec.ofInt IntKind.u64.bits (x : Int) ||| BitVec.ofInt IntKind.u64.bits (y : Int)).toNat = x ||| y := by
  show (BitVec.ofInt 64 (x : Int) ||| BitVec.ofInt 64 (y : Int)).toNat = x ||| y
  rw [zsx, zsx, BitVec.toNat_or, BitVec.toNat_ofNat, BitVec.toNat_ofNat, Nat.mod_eq_of_lt (by omega), Nat.mod_eq_of_lt (by omega)]
 rw [e];have h1 : x ||| y < 2 ^ 64 := Nat.or_lt_two_pow hx hy;have h2 : x ||| y < 18446744073709551616 := h1;exact xd (by omega)
theorem andNot_u64 {x y : Nat} : IntKind.u64.wrap (BitVec.ofInt IntKind.u64.bits (x : Int) &&& ~~~BitVec.ofInt IntKind.u64.bits (y : Int)).toNat = ((jl x y : Nat) : Int) := by
 have e : (BitVec.ofInt IntKind.u64.bits (x : Int) &&& ~~~BitVec.ofInt IntKind.u64.bits (y : Int)).toNat = jl x y := by
  show (BitVec.ofInt 64 (x : Int) &&& ~~~BitVec.ofInt 64 (y : Int)).toNat = jl x y
  rw [zsx, zsx];rfl
 rw [e];have h2 : jl x y < 18446744073709551616 := ygk x y;exact xd (by omega)
structure LvR (f : LFn) (w : World) (fv : Value) (n g1 go g5 gt g10 : Nat) (gs : List Nat) (W0 : List (List Nat)) (g11 g12 a : Nat) (x : LIns) (j : Nat) (W : List (List Nat)) (th : List Nat) (ch : Bool) (w' : World) : Prop where
 v : LV 52 55 35 27 w fv f.ins.length n g1 go g5 gt g10 gs W th w'
 c11 : Blk w' g11 4 #[.bool ch]
 c12 : Blk w' g12 3 #[.int .i64 ((a : Nat) : Int)]
 s : zhz f W
 r : zhq f W
 cl : ch = false → (∀ b, a < b → b < f.ins.length → zdz f W b) ∧ ∀ (i t : Nat) ws (r : Nat), i < j → (vg f a x)[i]? = some ((t : Int), ws) → (r : Int) ∉ ws → vj W t r = true → vj W a r = true
 gr : ch = true → kg W0 < kg W
 ge : kg W0 ≤ kg W
def LvI (f : LFn) (w : World) (fv : Value) (n g1 go g5 gt g10 : Nat) (gs : List Nat) (W0 : List (List Nat)) (g11 g12 a : Nat) (x : LIns) (j : Nat) (O : Nat → Prop) (w' : World) : Prop := ∃ W th ch, LvR f w fv n g1 go g5 gt g10 gs W0 g11 g12 a x j W th ch w' ∧ ∀ i, O i ↔ (i = gt ∨ i = g11 ∨ i ∈ gs)
theorem LvI.nc {f : LFn} {w : World} {fv : Value} {n g1 go g5 gt g10 : Nat} {gs : List Nat} {W0 : List (List Nat)} {g11 g12 a : Nat} {x : LIns} {j m : Nat} {O : Nat → Prop} {w1 w2 : World} (h : LvI f w fv n g1 go g5 gt g10 gs W0 g11 g12 a x j O w1) (e : Calm m w1 w2) (hm : w.heap.size ≤ m) : LvI f w fv n g1 go g5 gt g10 gs W0 g11 g12 a x j O w2 := by
 obtain ⟨W, th, ch, h, hO⟩ := h;exact ⟨W, th, ch, ⟨h.v.nc e hm, h.c11.nc e, h.c12.nc e, h.s, h.r, h.cl, h.gr, h.ge⟩, hO⟩
theorem LvI.isC {f : LFn} {w : World} {fv : Value} {n g1 go g5 gt g10 : Nat} {gs : List Nat} {W0 : List (List Nat)} {g11 g12 a : Nat} {x : LIns} {j : Nat} {O : Nat → Prop} {w1 : World} (h : LvI f w fv n g1 go g5 gt g10 gs W0 g11 g12 a x j O w1) : ∀ i, O i → IsC w1 i := by
 obtain ⟨W, th, ch, h, hO⟩ := h;intro i hi;rcases (hO i).1 hi with rfl | rfl | hi
 · exact h.v.bt.isC
 · exact h.c11.isC
 · exact h.v.rows.isC hi
section
variable (w : World) (p : Pl) (f : LFn) (n0 : Nat) (hF : FnA n0 w p f)
include hF
theorem live_any : Calls Tryd.prog 19 #[fnV p f] w (RetLive f w) := by
 have hrl := hF.rgs.len;have hil := hF.ins.len;have hn := hF.size;refine ygq (calls_ci Tryd.func19 rfl Tryd.ntmps19 rfl (qh (yq (yh rfl (vk rfl ?_)))));rintro g1 wA B1 E1 G1;refine ⟨Kept.no E1, ?_⟩;have L1 := E1.toBelow
 refine yh rfl (va rfl (⟨Kept.refl _, (yh rfl (va rfl (⟨Kept.refl _, (qm (qa (qh (qh (yq (yh rfl (zo Tryd.underlying27 rfl jp rfl B1 rfl (⟨Kept.refl _, (yh rfl (yf en34 rfl ((sound_any _ p f n0 (hF.low (X := No) ⟨E1, fun _ h => h.elim⟩)).mono ?_)))⟩))))))))⟩)))⟩));rintro e w1 ⟨rfl, hb⟩
 refine ⟨_, rfl, (⟨Kept.no (Ext.of_below hb _), ?_⟩)⟩;have L2 := L1.trans (hb.mono E1.size);replace B1 := Blk.ext B1 (Ext.of_below hb No) (fun h => h.elim);refine yh rfl (jg rfl (⟨Kept.refl _, (qm (qa (xx rfl (fun hs => ?_) (fun hs => ?_))))⟩))
 ·
  have hs : vh f = false := by simpa using hs
  refine qh (yq (yh rfl (va rfl (⟨Kept.refl _, (yh rfl (va rfl (⟨Kept.refl _, (qm (qa (ci_ret (ei_then_ret (ei_ret (rs := [.tmp 2, .tmp 3]) (vs := [_, _]) rfl (fun wz hw => ⟨⟨rfl, rfl, trivial⟩, ?_⟩))))))⟩)))⟩))));exact ⟨zgv L2 hw (Nat.le_refl _) L2.size, fun _ => rfl, fun h => by rw [hs] at h; cases h⟩
 ·
  have hs : vh f = true := by simpa using hs
  obtain ⟨hr0, hr1, hp0, hp1, hne⟩ := gl hs;obtain ⟨n, hwn⟩ : ∃ n, n = ke f := ⟨_, rfl⟩;have hnr : (f.regs + 63).tdiv 64 = (n : Int) := by rw [hwn]; unfold ke; rw [Int.tdiv_eq_ediv_of_nonneg (by omega)]; omega
  have hn1 : n ≤ 1024 := by rw [hwn]; unfold ke; omega
  have hn2 : f.regs ≤ 64 * (n : Int) := by rw [hwn]; unfold ke; omega
  refine xl (qa (qh (yq (yh rfl (zb Tryd.underlying27 rfl sz3 (by decide) rfl (⟨Kept.refl _, (yh rfl (zg Tryd.underlying3 rfl rfl B1 rfl (⟨Kept.refl _, (yh rfl (qc rfl rfl (yg (by omega)) (⟨Kept.refl _, (yh rfl (xz rfl rfl (by decide) (show IntKind.i64.wrap ((f.regs + 63).tdiv 64) = ((n : Nat) : Int) from by rw [hnr]; exact yg (by omega)) (⟨Kept.refl _, (yh rfl (va rfl (⟨Kept.refl _, (qm (qa (qh (yq (yh rfl (zb Tryd.underlying27 rfl gz (by decide) rfl (⟨Kept.refl _, (yh rfl (zg Tryd.underlying24 rfl rfl B1 rfl (⟨Kept.refl _, (yh rfl (yw Tryd.underlying24 rfl (⟨Kept.refl _, (yh rfl (zbz (n := f.ins.length) Tryd.underlying52 inf55 rfl rfl rfl rfl rfl (by omega) (by omega) ?_))⟩)))⟩)))⟩)))))))⟩)))⟩)))⟩)))⟩)))⟩))))))
  rintro go wB B2 E2 G2;refine ⟨Kept.no E2, (yh rfl (qb zr52 ?_))⟩;rintro g5 wC B5 E5 G5;refine ⟨Kept.no E5, (xo rfl (zn sz52 rfl rfl B5 rfl rfl (Nat.le_of_ble_eq_true rfl) ?_))⟩;rintro wD B5' E6;refine ⟨Kept.one E6 B5, ?_⟩;have hlo := B2.lt;have hl1 := B1.lt;have l1 : g1 < go := by omega
  have l2 : go < g5 := by omega
  have hx5 : ∀ k, k ≠ g5 → ¬ Mut [some g5] k := fun k hk hx => hk (qt hx);have S0 : L0 52 55 35 27 w (fnV p f) f.ins.length n g1 go g5 [] [] wD := by
   have q1 := (E2.trans E5);refine ⟨kz (kz L2 q1 L2.size (fun _ h => h.elim)) E6 (Nat.le_trans L2.size q1.size) (fun k hk => by have := qt hk; omega), (B1.ext q1 (fun h => h.elim)).ext E6 (hx5 _ (by omega)), B5', RowsB.nil ((B2.ext E5 (fun h => h.elim)).ext E6 (hx5 _ (by omega))) (by omega), fun g hg => by cases hg⟩
  refine qm (qa (qh (qh (yq (yh rfl (zb Tryd.underlying27 rfl gz (by decide) rfl (⟨Kept.refl _, (yh rfl (zg Tryd.underlying24 rfl rfl S0.b1 rfl (⟨Kept.refl _, (yh rfl (yw Tryd.underlying24 rfl (⟨Kept.refl _, (yh rfl (zl rfl (⟨Kept.refl _, (qm (qa (jk (zoq (ι := Nat × List Nat × List (List Nat)) (fun (i, gs, W) => [(1, .pointer (some ⟨g1, 0, none⟩)), (4, .int .i64 ((n : Nat) : Int)), (5, .pointer (some ⟨g5, 0, none⟩)), (31, .slice p.ai f.ins.length p.ci), (32, .int .i64 ((f.ins.length : Nat) : Int)), (33, .int .i64 ((i : Nat) : Int))]) (fun (i, gs, W) w' => L0 52 55 35 27 w (fnV p f) f.ins.length n g1 go g5 gs W w' ∧ W.length = i ∧ RW f W) (fun (i, _, _) => f.ins.length - i) (0, [], []) ⟨rfl, rfl, rfl, rfl, rfl, rfl, trivial⟩ (⟨S0, rfl, fun a x r h => by cases h⟩) ?_))))⟩)))⟩)))⟩)))⟩)))))))
  rintro ⟨i, gs, W⟩ w3 ⟨S, hWl, hRW⟩;refine qh (yq (yh rfl (yy rfl rfl (⟨Kept.refl _, (qm (qa (qh (xx rfl (fun hi => ?_) (fun hi => ?_)))))⟩))))
  ·
   have hi := of_decide_eq_true hi;have hin : i < f.ins.length := by omega
   obtain ⟨x, hx⟩ : ∃ x, f.ins[i]? = some x := ⟨_, List.getElem?_eq_getElem hin⟩;have hF1 : FnA n0 w3 p f := hF.low (X := No) ⟨Ext.of_below S.lo No, fun _ h => h.elim⟩;refine xl (qa (qh (jk (qh (yq (yh rfl (zl rfl (⟨Kept.refl _, ?_⟩))))))));obtain ⟨g, o, hA, hg, hc⟩ := hF1.ins.row.at hx;obtain ⟨hI, B, cB, hcB, hl, hcells⟩ := hc;have hri := ycq hI hl
   refine yh rfl (yi (j := i) Tryd.underlying24 vx (congrArg (fun z ↦ some (Value.slice z f.ins.length p.ci)) hA) rfl rfl hin (⟨Kept.refl _, (yh rfl (jb (cs := (jr x B cB).toArray) Tryd.underlying41 rfl vx rfl rfl (fun j v hj ↦ hcells j v (by simpa using hj)) (⟨Kept.refl _, (yh rfl (qb zpk ?_))⟩)))⟩));rintro g7 wE B7 E7 G7
   refine ⟨Kept.no E7, (yh rfl (va rfl (⟨Kept.refl _, (xo rfl (qz vx rfl rfl B7 rfl rfl rfl ?_))⟩)))⟩;rintro wF B7' E8;refine ⟨Kept.one E8 B7, ?_⟩;have hg57 : g5 < g7 := by have := S.b5.lt; omega
   have S2 := (S.no (by omega) l1 l2 E7).other (by omega) l1 l2 E8 (fun k hk => by
    obtain rfl := qt hk;exact ⟨hg57, fun hm => by have := S.rows.lt hm; omega⟩)
   have hbq : ∀ wq, Ext No (World.drew wF) wq → Blk wq g5 52 #[.slice (some ⟨go, 0, none⟩) f.ins.length f.ins.length] := fun wq h => S2.b5.ext ((Ext.refl No _).drew.trans h) (fun h => h.elim);refine qm (qa (qh (ci_any je (ai_cut 5 (by kernel_rfl) ?_))));refine vv (No) Mut.none_ [] [] (kl [Fx.of (.slice (some ⟨go, 0, none⟩) f.ins.length f.ins.length),
    Fx.of (.int .i64 ((i : Nat) : Int)),
    Fx.of (.int .i64 ((n : Nat) : Int)),
    ⟨Nat, fun gr => .slice (some ⟨gr, 0, none⟩) n n, fun gr b => (Blk b gr 35 (List.replicate n (.int .u64 0)).toArray ∧ wF.heap.size ≤ gr)⟩,
    Fx.of (.pointer (some ⟨go, 0 + i, none⟩))]) rfl trivial (fun _ h => by cases h) ?_ ?_
   · refine ⟨?_, ?_, ?_, ?_, ?_, trivial⟩
     · intro vs X wq K;have LE := K.1;exact zg Tryd.underlying52 rfl rfl (hbq _ LE) rfl ⟨Below.refl _ _, Left.of rfl⟩
     · intro vs X wq K;exact zl rfl ⟨Below.refl _ _, Left.of rfl⟩
     · intro vs X wq K;exact zl rfl ⟨Below.refl _ _, Left.of rfl⟩
     · intro vs X wq K;have LE := K.1;have XN := K.2.1;obtain ⟨_, e2, k2⟩ := K.dep 2 rfl rfl rfl;refine zd 40 (.int .i64 ((n : Nat) : Int)) rfl e2 (ow_makeW (n := n) Tryd.underlying55 inf35 rfl rfl rfl rfl rfl (by omega) (by omega) ?_);intro gr w5 Bs hb Gs;exact ⟨hb, ⟨gr, rfl, (Per.blk Bs (fun hx => by have := XN gr hx; omega)).and (fun _ _ => Nat.le_trans LE.size Gs)⟩⟩
     · intro vs X wq K;obtain ⟨_, e0, k0⟩ := K.dep 0 rfl rfl rfl;refine zd 38 (.slice (some ⟨go, 0, none⟩) f.ins.length f.ins.length) rfl e0 ?_;obtain ⟨_, e1, k1⟩ := K.dep 1 rfl rfl rfl;refine zd 39 (.int .i64 ((i : Nat) : Int)) rfl e1 ?_;exact zk (j := i) Tryd.underlying52 zhk rfl rfl rfl hin ⟨Below.refl _ _, Left.of rfl⟩
   intro vs w4 LE AO AL AF AA;have hbd : Below (wF).heap.size (wF) w4 := (((Ext.refl No (wF)).drew).trans LE).toBelow;obtain ⟨gr, e3, k3⟩ := AL.2.2.2.1;obtain ⟨_, e4, k4⟩ := AL.2.2.2.2.1;have Wc3 := k3.here
   refine vq (τ := [(1, _), (4, _), (5, _), (6, _), (7, _), (31, _), (32, _), (33, _), (41, .slice (some ⟨gr, 0, none⟩) n n), (42, .pointer (some ⟨go, 0 + i, none⟩))]) ⟨rfl, rfl, rfl, rfl, rfl, rfl, rfl, rfl, congrArg some e3, congrArg some e4, trivial⟩ ?_;clear AL AF AA AO;refine ew_ai (Kept.no LE) (yav (by kernel_rfl) rfl rfl ?_);have hgl : gs.length = i := by rw [S2.rows.len, hWl]
   refine xo rfl (qi zhk rfl rfl ((S2.no (by omega) l1 l2 (Ext.of_below hbd No)).rows.out) rfl rfl (by rw [List.size_toArray, outV_len (by omega)]; omega) (show _ = ((outV gs n f.ins.length).set W.length (rwV n gr)).toArray from by rw [hWl, Nat.zero_add, List.setIfInBounds_toArray]; rfl) ?_);rintro wG B9 E9
   refine ⟨Kept.one E9 ((S2.no (by omega) l1 l2 (Ext.of_below hbd No)).rows.out), ?_⟩;change Nat at gr
   have S3 := S2.add (by omega) l1 l2 (by rw [hWl]; exact hin) Wc3.1 (Ext.of_below hbd No) Wc3.2 B9 E9;have B7b := (B7'.ext (Ext.of_below hbd No) (fun h => h.elim)).ext E9 (fun h => by have := qt h; have := S2.rows.out.lt; have := B7.lt; omega);refine qm (qa (qh (yq (yh rfl (zo Tryd.underlying41 rfl vx rfl B7b rfl (⟨Kept.refl _, ?_⟩))))))
   have hl2 : IntsA n0 wG B x.l := hl.low (low_two S.lo S3.lo (by have := E7.size; have := E8.size; have := hbd.size; have := E9.size; omega) hn);refine yh rfl (yf en35 rfl ((ztz _ x B cB n0 hl2 (Nat.le_trans hn S3.lo.size)).mono ?_));rintro e w5 ⟨A1, c1, rfl, o1, hb⟩;refine ⟨_, rfl, (⟨Kept.no (Ext.of_below hb _), ?_⟩)⟩;have S4 := S3.no (by omega) l1 l2 (Ext.of_below hb No)
   have hrl2 := rw_len (i := x);have hgr : gr < wG.heap.size := S3.rows.lt (by simp)
   refine yh rfl (yw Tryd.underlying28 rfl (⟨Kept.refl _, (yh rfl (zl rfl (⟨Kept.refl _, (qm (qa (jk (zoq (ι := Nat × List (List Nat)) (fun (k, W2) => [(1, .pointer (some ⟨g1, 0, none⟩)), (4, .int .i64 ((n : Nat) : Int)), (5, .pointer (some ⟨g5, 0, none⟩)), (6, .int .i64 ((i : Nat) : Int)), (31, .slice p.ai f.ins.length p.ci), (32, .int .i64 ((f.ins.length : Nat) : Int)), (33, .int .i64 ((i : Nat) : Int)), (44, .slice A1 (yu x).length c1), (45, .int .i64 (((yu x).length : Nat) : Int)), (46, .int .i64 ((k : Nat) : Int))]) (fun (k, W2) w' => L0 52 55 35 27 w (fnV p f) f.ins.length n g1 go g5 (gs ++ [gr]) W2 w' ∧ OwnsI w' wG.heap.size A1 c1 (yu x) ∧ W2.length = i + 1 ∧ RP f W2 i k x ∧ k ≤ (yu x).length) (fun (k, _) => (yu x).length - k) (0, W ++ [List.replicate n 0]) ⟨rfl, rfl, rfl, rfl, rfl, rfl, rfl, rfl, rfl, rfl, trivial⟩ (⟨S4, o1, by simp [hWl], hRW.start hWl x, Nat.zero_le _⟩) ?_))))⟩)))⟩))
   rintro ⟨k, W2⟩ w7 ⟨S5, o5, hl5, hRP, hkle⟩;refine qh (yq (yh rfl (yy rfl rfl (⟨Kept.refl _, (qm (qa (qh (xx rfl (fun hk => ?_) (fun hk => ?_)))))⟩))))
   ·
    have hk := of_decide_eq_true hk;have hkl : k < (yu x).length := by omega
    obtain ⟨y, hy⟩ : ∃ y, (yu x)[k]? = some y := ⟨_, List.getElem?_eq_getElem hkl⟩;obtain ⟨hy0, hy1⟩ := (zjk hs hx).1 y (List.mem_of_getElem? hy);obtain ⟨r, rfl⟩ : ∃ r : Nat, y = (r : Int) := ⟨y.toNat, by omega⟩;have hr64 : r < 64 * n := by omega
    refine xl (qa (qh (jk (qh (yq ?_)))));obtain ⟨ga, hA1, hga, hga2, hca⟩ := jm o5 (by omega)
    refine yh rfl (zk (j := k) Tryd.underlying28 sz3 (congrArg (fun z ↦ some (Value.slice z (yu x).length c1)) hA1) rfl rfl hkl (⟨Kept.refl _, (yh rfl (zt Tryd.underlying3 rfl rfl (by rw [Nat.zero_add]; exact hca k (.int .i64 ((r : Nat) : Int)) (by unfold yz; rw [List.getElem?_map, hy]; rfl)) ?_))⟩));refine ⟨Kept.refl _, ?_⟩
    obtain ⟨gw, hgw, hrow, hbw, h64, hcw⟩ := S5.rows.get (i := i) (by omega);have hw : (W2.getD i [])[r / 64]? = some ((W2.getD i []).getD (r / 64) 0) := by
     rw [List.getD_eq_getElem?_getD (i := r / 64), List.getElem?_eq_getElem (by rw [h64.1]; omega)]; rfl
    have hw64 : (W2.getD i []).getD (r / 64) 0 < 2 ^ 64 := h64.get;have hpw : 2 ^ (r % 64) < 2 ^ 64 := Nat.pow_lt_pow_right (by decide) (Nat.mod_lt _ (by decide));refine yh rfl (va rfl (⟨Kept.refl _, (qm (qa (ci_any je (ai_cut 13 (by kernel_rfl) ?_))))⟩));refine vv (No) Mut.none_ [] [] (kl [Fx.of (.slice (some ⟨go, 0, none⟩) f.ins.length f.ins.length),
     Fx.of (.int .i64 ((i : Nat) : Int)),
     Fx.of (.pointer (some ⟨go, 0 + i, none⟩)),
     Fx.of (.slice (some ⟨gw, 0, none⟩) n n),
     Fx.of (.int .i64 ((r : Nat) : Int)),
     Fx.of (.int .i64 ((r / 64 : Nat) : Int)),
     Fx.of (.pointer (some ⟨gw, 0 + r / 64, none⟩)),
     Fx.of (.int .u64 (((W2.getD i []).getD (r / 64) 0 : Nat) : Int)),
     Fx.of (.int .i64 ((r : Nat) : Int)),
     Fx.of (.int .i64 ((r % 64 : Nat) : Int)),
     Fx.of (.int .u64 ((2 ^ (r % 64) : Nat) : Int)),
     Fx.of (.int .u64 (((W2.getD i []).getD (r / 64) 0 ||| 2 ^ (r % 64) : Nat) : Int)),
     Fx.of (.pointer (some ⟨gw, 0 + r / 64, none⟩))]) rfl trivial (fun _ h => by cases h) ?_ ?_
    · refine ⟨?_, ?_, ?_, ?_, ?_, ?_, ?_, ?_, ?_, ?_, ?_, ?_, ?_, trivial⟩
      · intro vs X wq K;have LE := K.1;exact zg Tryd.underlying52 rfl rfl (vr LE S5.b5) rfl ⟨Below.refl _ _, Left.of rfl⟩
      · intro vs X wq K;exact zl rfl ⟨Below.refl _ _, Left.of rfl⟩
      · intro vs X wq K;obtain ⟨_, e0, k0⟩ := K.dep 0 rfl rfl rfl;refine zd 50 (.slice (some ⟨go, 0, none⟩) f.ins.length f.ins.length) rfl e0 ?_;obtain ⟨_, e1, k1⟩ := K.dep 1 rfl rfl rfl;refine zd 51 (.int .i64 ((i : Nat) : Int)) rfl e1 ?_;exact zk (j := i) Tryd.underlying52 zhk rfl rfl rfl hin ⟨Below.refl _ _, Left.of rfl⟩
      · intro vs X wq K;have LE := K.1;obtain ⟨_, e2, k2⟩ := K.dep 2 rfl rfl rfl;refine zd 52 (.pointer (some ⟨go, 0 + i, none⟩)) rfl e2 ?_;exact zt Tryd.underlying55 rfl rfl (by rw [Nat.zero_add]; exact js LE hcw) ⟨Below.refl _ _, Left.of rfl⟩
      · intro vs X wq K;exact zl rfl ⟨Below.refl _ _, Left.of rfl⟩
      · intro vs X wq K;obtain ⟨_, e4, k4⟩ := K.dep 4 rfl rfl rfl;refine zd 54 (.int .i64 ((r : Nat) : Int)) rfl e4 ?_;exact xz rfl rfl (by decide) (show IntKind.i64.wrap (((r : Nat) : Int).tdiv 64) = ((r / 64 : Nat) : Int) from by rw [Int.tdiv_eq_ediv_of_nonneg (by omega)]; exact yg (by omega)) ⟨Below.refl _ _, Left.of rfl⟩
      · intro vs X wq K;obtain ⟨_, e3, k3⟩ := K.dep 3 rfl rfl rfl;refine zd 53 (.slice (some ⟨gw, 0, none⟩) n n) rfl e3 ?_;obtain ⟨_, e5, k5⟩ := K.dep 5 rfl rfl rfl;refine zd 55 (.int .i64 ((r / 64 : Nat) : Int)) rfl e5 ?_;exact zk (j := r / 64) Tryd.underlying55 zax rfl rfl rfl (by omega) ⟨Below.refl _ _, Left.of rfl⟩
      · intro vs X wq K;have LE := K.1;obtain ⟨_, e6, k6⟩ := K.dep 6 rfl rfl rfl;refine zd 56 (.pointer (some ⟨gw, 0 + r / 64, none⟩)) rfl e6 ?_;exact zg Tryd.underlying35 rfl rfl (vr LE hbw) (km hw) ⟨Below.refl _ _, Left.of rfl⟩
      · intro vs X wq K;exact zl rfl ⟨Below.refl _ _, Left.of rfl⟩
      · intro vs X wq K;obtain ⟨_, e8, k8⟩ := K.dep 8 rfl rfl rfl;refine zd 58 (.int .i64 ((r : Nat) : Int)) rfl e8 ?_;exact zmv rfl rfl (by decide) (show (((r : Nat) : Int).tmod 64) = ((r % 64 : Nat) : Int) from by rw [Int.tmod_eq_emod_of_nonneg (by omega)]; rfl) ⟨Below.refl _ _, Left.of rfl⟩
      · intro vs X wq K;obtain ⟨_, e9, k9⟩ := K.dep 9 rfl rfl rfl;refine zd 59 (.int .i64 ((r % 64 : Nat) : Int)) rfl e9 ?_;exact ow_shl rfl rfl (by omega) (zxv (Nat.mod_lt _ (by decide))) ⟨Below.refl _ _, Left.of rfl⟩
      · intro vs X wq K;obtain ⟨_, e7, k7⟩ := K.dep 7 rfl rfl rfl;refine zd 57 (.int .u64 (((W2.getD i []).getD (r / 64) 0 : Nat) : Int)) rfl e7 ?_;obtain ⟨_, e10, k10⟩ := K.dep 10 rfl rfl rfl;refine zd 60 (.int .u64 ((2 ^ (r % 64) : Nat) : Int)) rfl e10 ?_;exact ow_or rfl rfl (or_u64 hw64 hpw) ⟨Below.refl _ _, Left.of rfl⟩
      · intro vs X wq K;obtain ⟨_, e3, k3⟩ := K.dep 3 rfl rfl rfl;refine zd 53 (.slice (some ⟨gw, 0, none⟩) n n) rfl e3 ?_;obtain ⟨_, e5, k5⟩ := K.dep 5 rfl rfl rfl;refine zd 55 (.int .i64 ((r / 64 : Nat) : Int)) rfl e5 ?_;exact zk (j := r / 64) Tryd.underlying55 zax rfl rfl rfl (by omega) ⟨Below.refl _ _, Left.of rfl⟩
    intro vs w8 LE AO AL AF AA;have hbd : Below (w7).heap.size (w7) w8 := (((Ext.refl No (w7)).drew).trans LE).toBelow;obtain ⟨_, e11, k11⟩ := AL.2.2.2.2.2.2.2.2.2.2.2.1;obtain ⟨_, e12, k12⟩ := AL.2.2.2.2.2.2.2.2.2.2.2.2.1
    refine vq (τ := [(1, _), (4, _), (5, _), (6, _), (31, _), (32, _), (33, _), (44, _), (45, _), (46, _), (61, .int .u64 (((W2.getD i []).getD (r / 64) 0 ||| 2 ^ (r % 64) : Nat) : Int)), (62, .pointer (some ⟨gw, 0 + r / 64, none⟩))]) ⟨rfl, rfl, rfl, rfl, rfl, rfl, rfl, rfl, rfl, rfl, congrArg some e11, congrArg some e12, trivial⟩ ?_;clear AL AF AA AO
    refine ew_ai (Kept.no LE) (yav (by kernel_rfl) rfl rfl ?_);have hbn := Ext.of_below hbd No;have hbw2 := hbw.ext hbn (fun h => h.elim);refine xo rfl (qi zax rfl rfl hbw2 rfl rfl (by rw [List.size_toArray, kd, h64.1]; omega) (show _ = (vp (setR (W2.getD i []) r)).toArray from by unfold setR; rw [ox, Nat.zero_add, List.setIfInBounds_toArray]) ?_)
    rintro wH Bs Es;refine ⟨Kept.one Es hbw2, ?_⟩;have S7 := (S5.no (by omega) l1 l2 hbn).putR (by omega) l1 l2 hgw Es Bs (zqx h64);have hgwl := S3.rows.lt (List.mem_of_getElem? hgw);have o7 := qd (qd (l := []) o5 hbn NotIn.nil) Es (fun j e hm => by have := qt hm; have := jj o5 j e; omega)
    refine qm (vm (qa (yq (yh rfl (qc rfl rfl (yg (by omega)) (⟨Kept.refl _, (yh rfl (zl rfl (⟨Kept.refl _, (qm ?_)⟩)))⟩))))))
    exact zdx (ι := Nat × List (List Nat)) (s := fun (k, W2) => [(1, .pointer (some ⟨g1, 0, none⟩)), (4, .int .i64 ((n : Nat) : Int)), (5, .pointer (some ⟨g5, 0, none⟩)), (6, .int .i64 ((i : Nat) : Int)), (31, .slice p.ai f.ins.length p.ci), (32, .int .i64 ((f.ins.length : Nat) : Int)), (33, .int .i64 ((i : Nat) : Int)), (44, .slice A1 (yu x).length c1), (45, .int .i64 (((yu x).length : Nat) : Int)), (46, .int .i64 ((k : Nat) : Int))]) (R := fun (k, W2) w' => L0 52 55 35 27 w (fnV p f) f.ins.length n g1 go g5 (gs ++ [gr]) W2 w' ∧ OwnsI w' wG.heap.size A1 c1 (yu x) ∧ W2.length = i + 1 ∧ RP f W2 i k x ∧ k ≤ (yu x).length) (m := fun (k, _) => (yu x).length - k) (i := ⟨k, W2⟩) (k + 1, W2.set i (setR (W2.getD i []) r)) (by show (yu x).length - (k + 1) < (yu x).length - k; omega) ⟨rfl, rfl, rfl, rfl, rfl, rfl, rfl, rfl, rfl, rfl, trivial⟩ (⟨S7, o7, by rw [List.length_set]; exact hl5, hRP.step hl5 h64 hy hr64, hkl⟩)
   ·
    have hk := of_decide_eq_false hk;obtain rfl : k = (yu x).length := by omega
    refine zok (vu (vu (kf (vm (qa (yq (yh rfl (qc rfl rfl (yg (by omega)) (⟨Kept.refl _, (yh rfl (zl rfl (⟨Kept.refl _, (qm ?_)⟩)))⟩)))))))))
    exact zdx (ι := Nat × List Nat × List (List Nat)) (s := fun (i, gs, W) => [(1, .pointer (some ⟨g1, 0, none⟩)), (4, .int .i64 ((n : Nat) : Int)), (5, .pointer (some ⟨g5, 0, none⟩)), (31, .slice p.ai f.ins.length p.ci), (32, .int .i64 ((f.ins.length : Nat) : Int)), (33, .int .i64 ((i : Nat) : Int))]) (R := fun (i, gs, W) w' => L0 52 55 35 27 w (fnV p f) f.ins.length n g1 go g5 gs W w' ∧ W.length = i ∧ RW f W) (m := fun (i, _, _) => f.ins.length - i) (i := ⟨i, gs, W⟩) (i + 1, gs ++ [gr], W2) (by show f.ins.length - (i + 1) < f.ins.length - i; omega) ⟨rfl, rfl, rfl, rfl, rfl, rfl, trivial⟩ (⟨S5, hl5, hRP.done hl5 hx⟩)
  ·
   have hi := of_decide_eq_false hi;have hWN : W.length = f.ins.length := by have := S.rows.le; omega
   refine zok (vu (vu (kf (qa (qh (yq (yh rfl (zl rfl (⟨Kept.refl _, (yh rfl (zbz (n := n) Tryd.underlying55 inf35 rfl rfl rfl rfl rfl (by omega) (by omega) ?_))⟩)))))))));rintro gt wI Bt Et Gt;refine ⟨Kept.no Et, (yh rfl (qb zr55 ?_))⟩;rintro g10 wJ B10 E10 G10
   refine ⟨Kept.no E10, (xo rfl (zn zhk rfl rfl B10 rfl rfl (Nat.le_of_ble_eq_true rfl) ?_))⟩;rintro wK B10b E10b;refine ⟨Kept.one E10b B10, ?_⟩;have hgt5 : g5 < gt := by have := S.b5.lt; omega
   have hgtl := Bt.lt;have hord : LvOrd w.heap.size g1 go g5 gt g10 gs := ⟨by omega, l1, l2, fun g hg => ⟨S.ord g hg, by have := S.rows.lt hg; omega⟩, by omega, hgt5⟩;have V0 : LV 52 55 35 27 w (fnV p f) f.ins.length n g1 go g5 gt g10 gs W (List.replicate n 0) wK := by
    have S' := (S.no (by omega) l1 l2 (Et.trans E10)).other (by omega) l1 l2 E10b (fun k hk => by
     obtain rfl := qt hk;exact ⟨by omega, fun hm => by have := hord.e _ hm; omega⟩)
    exact ⟨S'.lo, S'.b1, S'.b5, B10b, by rw [yfx]; exact (Bt.ext E10 (fun h => h.elim)).ext E10b (fun h => by have := qt h; omega), Row64.zero n, S'.rows, hWN⟩
   obtain ⟨M, hM⟩ : ∃ M, ∀ W, Rows64 W f.ins.length n → kg W ≤ M := ⟨_, fun W h => rows_sum h⟩;refine qm (qa (qh (qh (yq (yh rfl (qb zr4 ?_))))));rintro g11 wL B11 E11 G11;refine ⟨Kept.no E11, (xo rfl (zn sz4 rfl rfl B11 rfl rfl (Nat.le_of_ble_eq_true rfl) ?_))⟩;rintro wM B11b E11b;refine ⟨Kept.one E11b B11, ?_⟩
   have hg11 : g10 < g11 := by have := V0.b10.lt; omega
   have V1 := (V0.other hord E11 (fun _ h => h.elim)).other hord E11b (fun k hk => by have := qt hk; omega)
   refine qm (qa (jk (zoq (ι := List (List Nat) × List Nat × Bool × Nat) (fun (W0, th0, ch0, h11) => [(1, .pointer (some ⟨g1, 0, none⟩)), (5, .pointer (some ⟨g5, 0, none⟩)), (10, .pointer (some ⟨g10, 0, none⟩)), (11, .pointer (some ⟨h11, 0, none⟩))]) (fun (W, th, ch, g11) w' => LV 52 55 35 27 w (fnV p f) f.ins.length n g1 go g5 gt g10 gs W th w' ∧ Blk w' g11 4 #[.bool ch] ∧ g10 < g11 ∧ zhz f W ∧ zhq f W ∧ (ch = false → ∀ a, a < f.ins.length → zdz f W a)) (fun (W, th, ch, g11) => 2 * (M - kg W) + (if ch = true then 1 else 0)) (W, List.replicate n 0, true, g11) ⟨rfl, rfl, rfl, rfl, trivial⟩ (⟨V1, B11b, hg11, hRW.sound hWN, hRW.reads hWN, fun h => by cases h⟩) ?_)))
   rintro ⟨W0, th0, ch0, h11⟩ w10 ⟨V, C11, hh11, hS, hR, hC⟩;refine qh (qh (yq (yh rfl (zt Tryd.underlying4 rfl rfl ((C11.cell 0).trans rfl) (⟨Kept.refl _, (qm (qa (xx rfl (fun hch => ?_) (fun hch => ?_))))⟩)))))
   ·
    refine xl (qa (qh (jk (qh (yq (xo rfl (zn sz4 rfl rfl C11 rfl rfl (Nat.le_of_ble_eq_true rfl) ?_)))))));rintro wN C11b F11;refine ⟨Kept.one F11 C11, ?_⟩;have V2 := V.other hord F11 (fun k hk => by have := qt hk; omega)
    refine qm (qa (qh (yq (yh rfl (zb Tryd.underlying27 rfl gz (by decide) rfl (⟨Kept.refl _, (yh rfl (zg Tryd.underlying24 rfl rfl V2.b1 rfl (⟨Kept.refl _, (yh rfl (yw Tryd.underlying24 rfl (⟨Kept.refl _, (yh rfl (zmk rfl rfl (yg (by omega)) (⟨Kept.refl _, (yh rfl (qb zr3 ?_))⟩)))⟩)))⟩)))⟩))))));rintro g12 wO B12 E12 G12
    refine ⟨Kept.no E12, (xo rfl (zn sz3 rfl rfl B12 rfl rfl (Nat.le_of_ble_eq_true rfl) ?_))⟩;rintro wP B12b E12b;refine ⟨Kept.one E12b B12, ?_⟩;have hg12 : h11 < g12 := by have := C11b.lt; omega
    have V3 := (V2.other hord E12 (fun _ h => h.elim)).other hord E12b (fun k hk => by have := qt hk; omega);have C11c := (C11b.ext E12 (fun h => h.elim)).ext E12b (fun h => by have := qt h; omega)
    refine qm (qa (jk (zoq (ι := List (List Nat) × List Nat × Bool × Nat × Nat) (fun (W, th, ch, h12, k) => [(1, .pointer (some ⟨g1, 0, none⟩)), (5, .pointer (some ⟨g5, 0, none⟩)), (10, .pointer (some ⟨g10, 0, none⟩)), (11, .pointer (some ⟨h11, 0, none⟩)), (12, .pointer (some ⟨h12, 0, none⟩))]) (fun (W, th, ch, h12, k) w' => LV 52 55 35 27 w (fnV p f) f.ins.length n g1 go g5 gt g10 gs W th w' ∧ Blk w' h11 4 #[.bool ch] ∧ Blk w' h12 3 #[.int .i64 (((k : Nat) : Int) - 1)] ∧ h11 < h12 ∧ k ≤ f.ins.length ∧ zhz f W ∧ zhq f W ∧ (ch = false → ∀ b, k ≤ b → b < f.ins.length → zdz f W b) ∧ (ch = true → kg W0 < kg W) ∧ kg W0 ≤ kg W) (fun (_, _, _, _, k) => k) (W0, th0, false, g12, f.ins.length) ⟨rfl, rfl, rfl, rfl, rfl, trivial⟩ (⟨V3, C11c, B12b, hg12, Nat.le_refl _, hS, hR, fun _ b h1 h2 => absurd h1 (by omega), fun h => (by cases h), Nat.le_refl _⟩) ?_)))
    rintro ⟨W, th, ch, h12, k⟩ w12 ⟨V4, D11, D12, hh12, hkN, hS4, hR4, hC4, hG4, hE4⟩;refine qh (qh (yq (yh rfl (zt Tryd.underlying3 rfl rfl ((D12.cell 0).trans rfl) (⟨Kept.refl _, (yh rfl (jd rfl rfl (⟨Kept.refl _, (qm (qa (xx rfl (fun hk => ?_) (fun hk => ?_))))⟩)))⟩)))))
    ·
     have hk := of_decide_eq_true hk;obtain ⟨a, hka⟩ : ∃ a, k = a + 1 := ⟨k - 1, by omega⟩;have haN : a < f.ins.length := by omega
     obtain ⟨x, hxa⟩ : ∃ x, f.ins[a]? = some x := ⟨_, List.getElem?_eq_getElem haN⟩;have ea : (((k : Nat) : Int) - 1) = (a : Int) := by omega
     rw [ea] at D12;refine xl (qa (qh (jk (qh (yq (yh rfl (zo Tryd.underlying27 rfl jp rfl V4.b1 rfl (⟨Kept.refl _, (yh rfl (zt Tryd.underlying3 rfl rfl ((D12.cell 0).trans rfl) (⟨Kept.refl _, ?_⟩)))⟩))))))));have hb0 := V4.lo;have hsz := V4.b10.lt;have hl12 := D12.lt
     refine yh rfl (yf en36 rfl ((ways_any _ p f ((a : Nat) : Int)).mono ?_));rintro e w13 ⟨ga, gf, rfl, hba, hbf, hga, hgf, hb⟩;refine ⟨_, rfl, (⟨Kept.no (Ext.of_below hb _), ?_⟩)⟩;have hEw := Ext.of_below hb No;have V5 := V4.other hord hEw (fun _ h => h.elim);have hF3 : FnA n0 w13 p f := hF.low (X := No) ⟨Ext.of_below V5.lo No, fun _ h => h.elim⟩
     have h00 : LvI f w (fnV p f) n g1 go g5 gt g10 gs W0 h11 h12 a x 0 (fun i => i = gt ∨ i = h11 ∨ i ∈ gs) w13 := ⟨W, th, ch, ⟨V5, D11.ext hEw (fun h => h.elim), D12.ext hEw (fun h => h.elim), hS4, hR4, fun h => ⟨fun b h1 h2 => hC4 h b (by omega) h2, fun i t ws r hi => absurd hi (Nat.not_lt_zero _)⟩, hG4, hE4⟩, fun _ => Iff.rfl⟩
     have hO0 : ∀ i, (i = gt ∨ i = h11 ∨ i ∈ gs) → n0 ≤ i ∧ ¬ (i = ga ∨ i = gf) := by
      have := hord.a; have := hord.c; have := hord.d; have := hord.g; have := hord.h;rintro i (rfl | rfl | hi)
      · omega
      · omega
      · have := hord.e i hi; omega
     refine qm (qa (jk (ci_sub (τ := [(1, .pointer (some ⟨g1, 0, none⟩)), (5, .pointer (some ⟨g5, 0, none⟩)), (10, .pointer (some ⟨g10, 0, none⟩)), (11, .pointer (some ⟨h11, 0, none⟩)), (12, .pointer (some ⟨h12, 0, none⟩)), (78, .func (.func 45) #[] #[.pointer (some ⟨ga, 0, none⟩), .pointer (some ⟨gf, 0, none⟩)])]) ⟨rfl, rfl, rfl, rfl, rfl, rfl, trivial⟩ (ci_range (n0 := w.heap.size) (m0 := n0) V5.lo.size rfl en45 (ways1_iter p f n0 ga gf a x hxa w13 hba hbf hF3) (LvI f w (fnV p f) n g1 go g5 gt g10 gs W0 h11 h12 a x) (fun _ _ _ _ h e ↦ h.nc e V5.lo.size) (fun _ _ _ h ↦ h.isC) hO0 h00 (fun args ↦ (14, args.getD 1 undef) :: (13, args.headD undef) :: (([79, 80].zip args).reverse ++ [(1, .pointer (some ⟨g1, 0, none⟩)), (5, .pointer (some ⟨g5, 0, none⟩)), (10, .pointer (some ⟨g10, 0, none⟩)), (11, .pointer (some ⟨h11, 0, none⟩)), (12, .pointer (some ⟨h12, 0, none⟩)), (78, .func (.func 45) #[] #[.pointer (some ⟨ga, 0, none⟩), .pointer (some ⟨gf, 0, none⟩)])])) (fun k args W h ↦ by obtain ⟨_, _, _, _, _, rfl, _⟩ := h; rfl) (by decide) (fun k args W W' h e ↦ wayK_nc h e) ?_ ?_ ?_))))
     ·
      rintro l9 k args W9 hK ⟨t, ws, A7, c7, hway, rfl, hw7⟩;refine qh (yq (yh rfl (va rfl (⟨Kept.refl _, (qm (qa (yq (yh rfl (va rfl (⟨Kept.refl _, (qm ?_)⟩))))))⟩))));intro a ha; exact ⟨rfl, rfl, ha⟩
     ·
      rintro l9 j O1 args W9 hK ⟨t, ws, A7, c7, hway, rfl, hw7⟩ ⟨W1, th1, ch1, hL, hO1⟩;have hwl := hw7.len;obtain ⟨⟨ht0, ht1⟩, hwsr⟩ := yhx hs hxa (List.mem_of_getElem? hway);obtain ⟨t, rfl⟩ : ∃ u : Nat, t = (u : Int) := ⟨t.toNat, by omega⟩;have htN : t < f.ins.length := by omega
      obtain ⟨gq, hgq, hrq, hbq, h64q, hcq⟩ := hL.v.rows.get (i := t) (by rw [hL.v.wl]; exact htN);refine jk (qh (ci_any je (ai_cut 5 (by kernel_rfl) ?_)));refine vv (No) Mut.none_ [] [] (kl [Fx.of (.slice (some ⟨gt, 0, none⟩) n n),
       Fx.of (.slice (some ⟨go, 0, none⟩) f.ins.length f.ins.length),
       Fx.of (.int .i64 ((t : Nat) : Int)),
       Fx.of (.pointer (some ⟨go, 0 + t, none⟩)),
       Fx.of (.slice (some ⟨gq, 0, none⟩) n n)]) rfl trivial (fun _ h => by cases h) ?_ ?_
      · refine ⟨?_, ?_, ?_, ?_, ?_, trivial⟩
        · intro vs X wq K;have LE := K.1;exact zt Tryd.underlying55 rfl rfl (((vr LE hL.v.b10).cell 0).trans rfl) ⟨Below.refl _ _, Left.of rfl⟩
        · intro vs X wq K;have LE := K.1;exact zt Tryd.underlying52 rfl rfl (((vr LE hL.v.b5).cell 0).trans rfl) ⟨Below.refl _ _, Left.of rfl⟩
        · intro vs X wq K;exact zl rfl ⟨Below.refl _ _, Left.of rfl⟩
        · intro vs X wq K;obtain ⟨_, e1, k1⟩ := K.dep 1 rfl rfl rfl;refine zd 82 (.slice (some ⟨go, 0, none⟩) f.ins.length f.ins.length) rfl e1 ?_;obtain ⟨_, e2, k2⟩ := K.dep 2 rfl rfl rfl;refine zd 83 (.int .i64 ((t : Nat) : Int)) rfl e2 ?_;exact zk (j := t) Tryd.underlying52 zhk rfl rfl rfl htN ⟨Below.refl _ _, Left.of rfl⟩
        · intro vs X wq K;have LE := K.1;obtain ⟨_, e3, k3⟩ := K.dep 3 rfl rfl rfl;refine zd 84 (.pointer (some ⟨go, 0 + t, none⟩)) rfl e3 ?_;exact zt Tryd.underlying55 rfl rfl (by rw [Nat.zero_add]; exact js LE hcq) ⟨Below.refl _ _, Left.of rfl⟩
      intro vs w14 LE AO AL AF AA;have hbd : Below (W9).heap.size (W9) w14 := (((Ext.refl No (W9)).drew).trans LE).toBelow;obtain ⟨_, e0, k0⟩ := AL.1;obtain ⟨_, e4, k4⟩ := AL.2.2.2.2.1
      refine vq (τ := [(5, _), (10, _), (11, _), (12, _), (14, _), (81, .slice (some ⟨gt, 0, none⟩) n n), (85, .slice (some ⟨gq, 0, none⟩) n n)]) ⟨rfl, rfl, rfl, rfl, rfl, congrArg some e0, congrArg some e4, trivial⟩ ?_;clear AL AF AA AO;refine ew_ai (Kept.no LE) (yav (by kernel_rfl) rfl rfl ?_);have hbn := Ext.of_below hbd No;have hbt2 := hL.v.bt.ext hbn (fun h => h.elim)
      have hbq2 := hbq.ext hbn (fun h => h.elim);refine yh rfl (ow_copy (xs := vp (W1.getD t [])) Tryd.underlying55 zax rfl hbt2 rfl (by rw [kd, h64q.1, Nat.min_self]) (fun i v hi ↦ by rw [Nat.zero_add, hbq2.cell, List.getElem?_toArray]; exact hi) (by rw [List.size_toArray, kd, hL.v.rt.1, Nat.min_self]; exact Nat.le_refl _) (wordsV_one _) ?_);rintro wT Bc Ec
      refine ⟨Kept.one Ec hbt2, ?_⟩;have ecp : (vp (W1.getD t []) ++ (vp th1).toArray.toList.drop (vp (W1.getD t [])).length) = vp (W1.getD t []) := by
       have q1 : (vp (W1.getD t [])).length = n := by rw [kd, h64q.1]
       have q2 : (vp th1).length = n := by rw [kd, hL.v.rt.1]
       rw [q1];show vp _ ++ (vp th1).drop n = _
       rw [List.drop_of_length_le (by omega), List.append_nil]
      rw [ecp] at Bc;have X1 := (hL.v.other hord hbn (fun _ h => h.elim)).putT hord Ec Bc h64q;have hE9 : Ext (Mut [some gt]) W9 wT := (Ext.of_below hbd (Mut [some gt])).step Ec (fun i h => Or.inl h);have Y11 := (hL.c11.ext hbn (fun h => h.elim)).ext Ec (fun h => by have := qt h; have := hord.g; omega)
      have Y12 := (hL.c12.ext hbn (fun h => h.elim)).ext Ec (fun h => by have := qt h; have := hord.g; omega);have hwc : ∀ (m : Nat) (y : Int), ws[m]? = some y → ∃ g o, A7 = some ⟨g, o, none⟩ ∧ ∀ w', Ext (Mut [some gt]) W9 w' → w'.cell? ⟨g, o + m, none⟩ = some (.int .i64 y) := fun m y hy => by
       obtain ⟨g, o, e, hg, hc⟩ := hw7.cell hy;refine ⟨g, o, e, fun w' h => (h.cell hg (fun hm => ?_)).trans hc⟩;have hm := qt hm;subst hm;rw [hL.v.bt.cell, List.getElem?_toArray] at hc;unfold vp at hc;rw [List.getElem?_map] at hc;cases hz : th1[o + m]? with
       | none => rw [hz] at hc; cases hc
       | some z => rw [hz] at hc; cases hc
      refine qm (qa (qh (qh (yq (yh rfl (zl rfl (⟨Kept.refl _, (yh rfl (yw Tryd.underlying28 rfl (⟨Kept.refl _, (yh rfl (zl rfl (⟨Kept.refl _, (qm (qa (jk (zoq (ι := Nat × List Nat) (fun (m, th) => [(5, .pointer (some ⟨g5, 0, none⟩)), (10, .pointer (some ⟨g10, 0, none⟩)), (11, .pointer (some ⟨h11, 0, none⟩)), (12, .pointer (some ⟨h12, 0, none⟩)), (87, .slice A7 ws.length c7), (88, .int .i64 ((ws.length : Nat) : Int)), (89, .int .i64 ((m : Nat) : Int))]) (fun (m, th) w' => LV 52 55 35 27 w (fnV p f) f.ins.length n g1 go g5 gt g10 gs W1 th w' ∧ Blk w' h11 4 #[.bool ch1] ∧ Blk w' h12 3 #[.int .i64 ((a : Nat) : Int)] ∧ Ext (Mut [some gt]) W9 w' ∧ m ≤ ws.length ∧ ∀ r : Nat, gn th r = true ↔ (vj W1 t r = true ∧ (r : Int) ∉ ws.take m)) (fun (m, _) => ws.length - m) (0, W1.getD t []) ⟨rfl, rfl, rfl, rfl, rfl, rfl, rfl, trivial⟩ (⟨X1, Y11, Y12, hE9, Nat.zero_le _, fun r => by simp [vj]⟩) ?_))))⟩)))⟩)))⟩)))))))
      rintro ⟨m, th⟩ w16 ⟨X2, Z11, Z12, hEm, hmle, hth⟩;refine qh (yq (yh rfl (yy rfl rfl (⟨Kept.refl _, (qm (qa (qh (xx rfl (fun hm => ?_) (fun hm => ?_)))))⟩))))
      ·
       have hm := of_decide_eq_true hm;have hmw : m < ws.length := by omega
       obtain ⟨y, hy⟩ : ∃ y, ws[m]? = some y := ⟨_, List.getElem?_eq_getElem hmw⟩;obtain ⟨hy0, hy1⟩ := hwsr y (List.mem_of_getElem? hy);obtain ⟨r, rfl⟩ : ∃ r : Nat, y = (r : Int) := ⟨y.toNat, by omega⟩;have hr64 : r < 64 * n := by omega
       obtain ⟨gv, ov, hA7, hcv⟩ := hwc m _ hy;refine xl (qa (qh (jk (qh (yq (yh rfl (zk (j := m) Tryd.underlying28 sz3 (congrArg (fun z ↦ some (Value.slice z ws.length c7)) hA7) rfl rfl hmw (⟨Kept.refl _, (yh rfl (zt Tryd.underlying3 rfl rfl (hcv _ hEm) (⟨Kept.refl _, ?_⟩)))⟩))))))))
       have hw : th[r / 64]? = some (th.getD (r / 64) 0) := by
        rw [List.getD_eq_getElem?_getD (i := r / 64), List.getElem?_eq_getElem (by rw [X2.rt.1]; omega)]; rfl
       refine yh rfl (va rfl (⟨Kept.refl _, (qm (qa (ci_any je (ai_cut 10 (by kernel_rfl) ?_))))⟩));refine vv (No) Mut.none_ [] [] (kl [Fx.of (.slice (some ⟨gt, 0, none⟩) n n),
        Fx.of (.int .i64 ((r : Nat) : Int)),
        Fx.of (.int .i64 ((r / 64 : Nat) : Int)),
        Fx.of (.pointer (some ⟨gt, 0 + r / 64, none⟩)),
        Fx.of (.int .u64 ((th.getD (r / 64) 0 : Nat) : Int)),
        Fx.of (.int .i64 ((r : Nat) : Int)),
        Fx.of (.int .i64 ((r % 64 : Nat) : Int)),
        Fx.of (.int .u64 ((2 ^ (r % 64) : Nat) : Int)),
        Fx.of (.int .u64 ((jl (th.getD (r / 64) 0) (2 ^ (r % 64)) : Nat) : Int)),
        Fx.of (.pointer (some ⟨gt, 0 + r / 64, none⟩))]) rfl trivial (fun _ h => by cases h) ?_ ?_
       · refine ⟨?_, ?_, ?_, ?_, ?_, ?_, ?_, ?_, ?_, ?_, trivial⟩
         · intro vs X wq K;have LE := K.1;exact zt Tryd.underlying55 rfl rfl (((vr LE X2.b10).cell 0).trans rfl) ⟨Below.refl _ _, Left.of rfl⟩
         · intro vs X wq K;exact zl rfl ⟨Below.refl _ _, Left.of rfl⟩
         · intro vs X wq K;obtain ⟨_, e1, k1⟩ := K.dep 1 rfl rfl rfl;refine zd 94 (.int .i64 ((r : Nat) : Int)) rfl e1 ?_;exact xz rfl rfl (by decide) (show IntKind.i64.wrap (((r : Nat) : Int).tdiv 64) = ((r / 64 : Nat) : Int) from by rw [Int.tdiv_eq_ediv_of_nonneg (by omega)]; exact yg (by omega)) ⟨Below.refl _ _, Left.of rfl⟩
         · intro vs X wq K;obtain ⟨_, e0, k0⟩ := K.dep 0 rfl rfl rfl;refine zd 93 (.slice (some ⟨gt, 0, none⟩) n n) rfl e0 ?_;obtain ⟨_, e2, k2⟩ := K.dep 2 rfl rfl rfl;refine zd 95 (.int .i64 ((r / 64 : Nat) : Int)) rfl e2 ?_;exact zk (j := r / 64) Tryd.underlying55 zax rfl rfl rfl (by omega) ⟨Below.refl _ _, Left.of rfl⟩
         · intro vs X wq K;have LE := K.1;obtain ⟨_, e3, k3⟩ := K.dep 3 rfl rfl rfl;refine zd 96 (.pointer (some ⟨gt, 0 + r / 64, none⟩)) rfl e3 ?_;exact zg Tryd.underlying35 rfl rfl (vr LE X2.bt) (km hw) ⟨Below.refl _ _, Left.of rfl⟩
         · intro vs X wq K;exact zl rfl ⟨Below.refl _ _, Left.of rfl⟩
         · intro vs X wq K;obtain ⟨_, e5, k5⟩ := K.dep 5 rfl rfl rfl;refine zd 98 (.int .i64 ((r : Nat) : Int)) rfl e5 ?_;exact zmv rfl rfl (by decide) (show (((r : Nat) : Int).tmod 64) = ((r % 64 : Nat) : Int) from by rw [Int.tmod_eq_emod_of_nonneg (by omega)]; rfl) ⟨Below.refl _ _, Left.of rfl⟩
         · intro vs X wq K;obtain ⟨_, e6, k6⟩ := K.dep 6 rfl rfl rfl;refine zd 99 (.int .i64 ((r % 64 : Nat) : Int)) rfl e6 ?_;exact ow_shl rfl rfl (by omega) (zxv (Nat.mod_lt _ (by decide))) ⟨Below.refl _ _, Left.of rfl⟩
         · intro vs X wq K;obtain ⟨_, e4, k4⟩ := K.dep 4 rfl rfl rfl;refine zd 97 (.int .u64 ((th.getD (r / 64) 0 : Nat) : Int)) rfl e4 ?_;obtain ⟨_, e7, k7⟩ := K.dep 7 rfl rfl rfl;refine zd 100 (.int .u64 ((2 ^ (r % 64) : Nat) : Int)) rfl e7 ?_;exact ow_andNot rfl rfl andNot_u64 ⟨Below.refl _ _, Left.of rfl⟩
         · intro vs X wq K;obtain ⟨_, e0, k0⟩ := K.dep 0 rfl rfl rfl;refine zd 93 (.slice (some ⟨gt, 0, none⟩) n n) rfl e0 ?_;obtain ⟨_, e2, k2⟩ := K.dep 2 rfl rfl rfl;refine zd 95 (.int .i64 ((r / 64 : Nat) : Int)) rfl e2 ?_;exact zk (j := r / 64) Tryd.underlying55 zax rfl rfl rfl (by omega) ⟨Below.refl _ _, Left.of rfl⟩
       intro vs w17 LE AO AL AF AA;have hbd : Below (w16).heap.size (w16) w17 := (((Ext.refl No (w16)).drew).trans LE).toBelow;obtain ⟨_, e8, k8⟩ := AL.2.2.2.2.2.2.2.2.1;obtain ⟨_, e9, k9⟩ := AL.2.2.2.2.2.2.2.2.2.1
       refine vq (τ := [(5, _), (10, _), (11, _), (12, _), (87, _), (88, _), (89, _), (101, .int .u64 ((jl (th.getD (r / 64) 0) (2 ^ (r % 64)) : Nat) : Int)), (102, .pointer (some ⟨gt, 0 + r / 64, none⟩))]) ⟨rfl, rfl, rfl, rfl, rfl, rfl, rfl, congrArg some e8, congrArg some e9, trivial⟩ ?_;clear AL AF AA AO;refine ew_ai (Kept.no LE) (yav (by kernel_rfl) rfl rfl ?_)
       have hbn := Ext.of_below hbd No;have hbt3 := X2.bt.ext hbn (fun h => h.elim);refine xo rfl (qi zax rfl rfl hbt3 rfl rfl (by rw [List.size_toArray, kd, X2.rt.1]; omega) (show _ = (vp (clrR th r)).toArray from by unfold clrR; rw [ox, Nat.zero_add, List.setIfInBounds_toArray]) ?_);rintro wU Bs Es;refine ⟨Kept.one Es hbt3, ?_⟩;have hgg := hord.g
       have X3 := (X2.other hord hbn (fun _ h => h.elim)).putT hord Es Bs (clrR_row X2.rt);have U11 := (Z11.ext hbn (fun h => h.elim)).ext Es (fun h => by have := qt h; omega);have U12 := (Z12.ext hbn (fun h => h.elim)).ext Es (fun h => by have := qt h; omega);have hE2 : Ext (Mut [some gt]) W9 wU := (hEm.step hbn (fun _ h => h.elim)).step Es (fun i h => Or.inl h)
       refine qm (vm (qa (yq (yh rfl (qc rfl rfl (yg (by omega)) (⟨Kept.refl _, (yh rfl (zl rfl (⟨Kept.refl _, (qm ?_)⟩)))⟩))))))
       exact zdx (ι := Nat × List Nat) (s := fun (m, th) => [(5, .pointer (some ⟨g5, 0, none⟩)), (10, .pointer (some ⟨g10, 0, none⟩)), (11, .pointer (some ⟨h11, 0, none⟩)), (12, .pointer (some ⟨h12, 0, none⟩)), (87, .slice A7 ws.length c7), (88, .int .i64 ((ws.length : Nat) : Int)), (89, .int .i64 ((m : Nat) : Int))]) (R := fun (m, th) w' => LV 52 55 35 27 w (fnV p f) f.ins.length n g1 go g5 gt g10 gs W1 th w' ∧ Blk w' h11 4 #[.bool ch1] ∧ Blk w' h12 3 #[.int .i64 ((a : Nat) : Int)] ∧ Ext (Mut [some gt]) W9 w' ∧ m ≤ ws.length ∧ ∀ r : Nat, gn th r = true ↔ (vj W1 t r = true ∧ (r : Int) ∉ ws.take m)) (m := fun (m, _) => ws.length - m) (i := ⟨m, th⟩) (m + 1, clrR th r) (by show ws.length - (m + 1) < ws.length - m; omega) ⟨rfl, rfl, rfl, rfl, rfl, rfl, rfl, trivial⟩ (⟨X3, U11, U12, hE2, hmw, fun q => by rw [bitR_clr X2.rt hr64, List.take_add_one, hy, Bool.and_eq_true, hth q]; simp only [Option.toList_some, List.mem_append, List.mem_singleton, not_or, Bool.not_eq_true', decide_eq_false_iff_not]; rw [and_assoc]; exact and_congr Iff.rfl (and_congr Iff.rfl (by omega))⟩)
      ·
       have hm := of_decide_eq_false hm;obtain rfl : m = ws.length := by omega
       refine zok (vu (vu (kf (qa (qh (yq (yh rfl (zt Tryd.underlying55 rfl rfl ((X2.b10.cell 0).trans rfl) (⟨Kept.refl _, ?_⟩)))))))));have hO1a : ∀ i, Mut [some gt] i → O1 i := fun i h => (hO1 i).2 (Or.inl (qt h));have hliv : ∀ r, gn th r = true → Liv f a r := fun r hr => by
        obtain ⟨h1, h2⟩ := (hth r).1 hr;rw [List.take_length] at h2;exact Liv.back hxa (List.mem_of_getElem? hway) h2 (hL.s t r h1)
       refine yh rfl (yw Tryd.underlying55 rfl (⟨Kept.refl _, (yh rfl (zl rfl (⟨Kept.refl _, (qm (qa (jk (zoq (ι := List (List Nat) × Bool × Nat) (fun (W2, ch2, q) => [(5, .pointer (some ⟨g5, 0, none⟩)), (11, .pointer (some ⟨h11, 0, none⟩)), (12, .pointer (some ⟨h12, 0, none⟩)), (104, .slice (some ⟨gt, 0, none⟩) n n), (105, .int .i64 ((n : Nat) : Int)), (106, .int .i64 ((q : Nat) : Int))]) (fun (W2, ch2, q) w' => LV 52 55 35 27 w (fnV p f) f.ins.length n g1 go g5 gt g10 gs W2 th w' ∧ Blk w' h11 4 #[.bool ch2] ∧ Blk w' h12 3 #[.int .i64 ((a : Nat) : Int)] ∧ Ext O1 W9 w' ∧ q ≤ n ∧ zhz f W2 ∧ zhq f W2 ∧ kg W1 ≤ kg W2 ∧ (ch2 = false → ch1 = false ∧ W2 = W1 ∧ ∀ i, i < q → jl (th.getD i 0) ((W2.getD a []).getD i 0) = 0) ∧ (ch2 = true → ch1 = true ∨ kg W1 < kg W2)) (fun (_, _, q) => n - q) (W1, ch1, 0) ⟨rfl, rfl, rfl, rfl, rfl, rfl, trivial⟩ (⟨X2, Z11, Z12, hEm.mono (fun i h _ => hO1a i h), Nat.zero_le _, hL.s, hL.r, Nat.le_refl _, fun h => ⟨h, rfl, fun i h => absurd h (Nat.not_lt_zero _)⟩, fun h => Or.inl h⟩) ?_))))⟩)))⟩))
       rintro ⟨W2, ch2, q⟩ w19 ⟨X4, Q11, Q12, hEq, hqn, hS6, hR6, hs6, hc6, hd6⟩;refine qh (yq (yh rfl (yy rfl rfl (⟨Kept.refl _, (qm (qa (qh (xx rfl (fun hq => ?_) (fun hq => ?_)))))⟩))))
       ·
        have hq := of_decide_eq_true hq;have hqn2 : q < n := by omega
        have hx64 : th.getD q 0 < 2 ^ 64 := X4.rt.get;have hxw : th[q]? = some (th.getD q 0) := by
         rw [List.getD_eq_getElem?_getD (i := q), List.getElem?_eq_getElem (by rw [X4.rt.1]; omega)]; rfl
        obtain ⟨gw, hgw, hrw, hbw, h64, hcw⟩ := X4.rows.get (i := a) (by rw [X4.wl]; exact haN);have hyw : (W2.getD a [])[q]? = some ((W2.getD a []).getD q 0) := by
         rw [List.getD_eq_getElem?_getD (i := q), List.getElem?_eq_getElem (by rw [h64.1]; omega)]; rfl
        refine xl (qa (qh (jk (qh (yq (yh rfl (zl rfl (⟨Kept.refl _, (yh rfl (zk (j := q) Tryd.underlying55 zax rfl rfl rfl hqn2 (⟨Kept.refl _, (yh rfl (zg Tryd.underlying35 rfl rfl X4.bt (km hxw) (⟨Kept.refl _, (yh rfl (va rfl (⟨Kept.refl _, (yh rfl (va rfl (⟨Kept.refl _, (qm (qa (qh (yq (yh rfl (zl rfl (⟨Kept.refl _, (yh rfl (zt Tryd.underlying52 rfl rfl ((X4.b5.cell 0).trans rfl) (⟨Kept.refl _, (yh rfl (zt Tryd.underlying3 rfl rfl ((Q12.cell 0).trans rfl) (⟨Kept.refl _, (yh rfl (zk (j := a) Tryd.underlying52 zhk rfl rfl rfl haN (⟨Kept.refl _, (yh rfl (zt Tryd.underlying55 rfl rfl (by rw [Nat.zero_add]; exact hcw) (⟨Kept.refl _, (yh rfl (zl rfl (⟨Kept.refl _, (yh rfl (zk (j := q) Tryd.underlying55 zax rfl rfl rfl hqn2 (⟨Kept.refl _, (yh rfl (zg Tryd.underlying35 rfl rfl hbw (km hyw) (⟨Kept.refl _, (yh rfl (ow_andNot rfl rfl andNot_u64 (⟨Kept.refl _, (yh rfl (vb rfl rfl (⟨Kept.refl _, ?_⟩)))⟩)))⟩)))⟩)))⟩)))⟩)))⟩)))⟩)))⟩)))⟩)))))))⟩)))⟩)))⟩)))⟩)))⟩))))))))
        refine qm (qa (xx rfl (fun hz => ?_) (fun hz => ?_)))
        ·
         have hz0 : jl (th.getD q 0) ((W2.getD a []).getD q 0) ≠ 0 := fun e => by rw [e] at hz; cases hz
         refine qh (yq (yh rfl (zt Tryd.underlying52 rfl rfl ((X4.b5.cell 0).trans rfl) (⟨Kept.refl _, (yh rfl (zt Tryd.underlying3 rfl rfl ((Q12.cell 0).trans rfl) (⟨Kept.refl _, (yh rfl (zk (j := a) Tryd.underlying52 zhk rfl rfl rfl haN (⟨Kept.refl _, (yh rfl (zt Tryd.underlying55 rfl rfl (by rw [Nat.zero_add]; exact hcw) (⟨Kept.refl _, (yh rfl (zl rfl (⟨Kept.refl _, (yh rfl (zk (j := q) Tryd.underlying55 zax rfl rfl rfl hqn2 (⟨Kept.refl _, (yh rfl (zg Tryd.underlying35 rfl rfl hbw (km hyw) (⟨Kept.refl _, (yh rfl (zl rfl (⟨Kept.refl _, (yh rfl (ow_or rfl rfl (or_u64 h64.get hx64) (⟨Kept.refl _, (yh rfl (zk (j := q) Tryd.underlying55 zax rfl rfl rfl hqn2 (⟨Kept.refl _, (xo rfl (qi zax rfl rfl hbw rfl rfl (by rw [List.size_toArray, kd, h64.1]; omega) (show _ = (vp ((W2.getD a []).set q ((W2.getD a []).getD q 0 ||| th.getD q 0))).toArray from by rw [ox, Nat.zero_add, List.setIfInBounds_toArray]) ?_))⟩)))⟩)))⟩)))⟩)))⟩)))⟩)))⟩)))⟩)))⟩)))⟩))))
         rintro wV Bs Es;refine ⟨Kept.one Es hbw, ?_⟩;have hgwl := hord.e gw (List.mem_of_getElem? hgw);have hgg := hord.g;have X5 := X4.putR hord hgw Es Bs (h64.set (Nat.or_lt_two_pow h64.get hx64));have R11 := Q11.ext Es (fun h => by have := qt h; omega);have R12 := Q12.ext Es (fun h => by have := qt h; omega)
         refine qm (qa (yq (xo rfl (zn sz4 rfl rfl R11 rfl rfl (Nat.le_of_ble_eq_true rfl) ?_))));rintro wW R11b F11b;refine ⟨Kept.one F11b R11, ?_⟩;have X6 := X5.other hord F11b (fun k hk => by have := qt hk; omega);have R12b := R12.ext F11b (fun h => by have := qt h; omega)
         have hEs : Ext O1 W9 wW := (hEq.step Es (fun i h => Or.inl ((hO1 i).2 (Or.inr (Or.inr (by rw [qt h]; exact List.mem_of_getElem? hgw)))))).step F11b (fun i h => Or.inl ((hO1 i).2 (Or.inr (Or.inl (qt h)))));have hRo := zix X4.rows X4.wl;have hbit := bitW_orAt (x := th.getD q 0) hRo haN hqn2
         have hgrow := orAt_sum (x := th.getD q 0) hRo haN hqn2 (or_grows (andNot64_some hx64 hz0));have hS7 : zhz f (orAt W2 a q (th.getD q 0)) := fun b r hb => by
          rw [hbit b r, Bool.or_eq_true, Bool.and_eq_true, decide_eq_true_iff] at hb;rcases hb with hb | ⟨⟨rfl, hb1⟩, hb2⟩
          · exact hS6 b r hb
          · exact hliv r (by unfold gn; rw [hb1]; exact hb2)
         have hR7 : zhq f (orAt W2 a q (th.getD q 0)) := fun b i r hi hr => by
          rw [hbit b r, hR6 b i r hi hr, Bool.true_or]
         refine qm (vm (qa (yq (yh rfl (qc rfl rfl (yg (by omega)) (⟨Kept.refl _, (yh rfl (zl rfl (⟨Kept.refl _, (qm ?_)⟩)))⟩))))))
         exact zdx (ι := List (List Nat) × Bool × Nat) (s := fun (W2, ch2, q) => [(5, .pointer (some ⟨g5, 0, none⟩)), (11, .pointer (some ⟨h11, 0, none⟩)), (12, .pointer (some ⟨h12, 0, none⟩)), (104, .slice (some ⟨gt, 0, none⟩) n n), (105, .int .i64 ((n : Nat) : Int)), (106, .int .i64 ((q : Nat) : Int))]) (R := fun (W2, ch2, q) w' => LV 52 55 35 27 w (fnV p f) f.ins.length n g1 go g5 gt g10 gs W2 th w' ∧ Blk w' h11 4 #[.bool ch2] ∧ Blk w' h12 3 #[.int .i64 ((a : Nat) : Int)] ∧ Ext O1 W9 w' ∧ q ≤ n ∧ zhz f W2 ∧ zhq f W2 ∧ kg W1 ≤ kg W2 ∧ (ch2 = false → ch1 = false ∧ W2 = W1 ∧ ∀ i, i < q → jl (th.getD i 0) ((W2.getD a []).getD i 0) = 0) ∧ (ch2 = true → ch1 = true ∨ kg W1 < kg W2)) (m := fun (_, _, q) => n - q) (i := ⟨W2, ch2, q⟩) (orAt W2 a q (th.getD q 0), true, q + 1) (by show n - (q + 1) < n - q; omega) ⟨rfl, rfl, rfl, rfl, rfl, rfl, trivial⟩ (⟨X6, R11b, R12b, hEs, hqn2, hS7, hR7, by omega, fun h => (by cases h), fun _ => Or.inr (by omega)⟩)
        ·
         have hz0 : jl (th.getD q 0) ((W2.getD a []).getD q 0) = 0 := by simpa using hz
         have hc7 : ch2 = false → ch1 = false ∧ W2 = W1 ∧ ∀ i, i < q + 1 → jl (th.getD i 0) ((W2.getD a []).getD i 0) = 0 := fun h => ⟨(hc6 h).1, (hc6 h).2.1, fun i hi => by
          rcases Nat.lt_or_ge i q with h1 | h1
          · exact (hc6 h).2.2 i h1
          · obtain rfl : i = q := by omega
            exact hz0⟩
         refine xl (vm (qa (yq (yh rfl (qc rfl rfl (yg (by omega)) (⟨Kept.refl _, (yh rfl (zl rfl (⟨Kept.refl _, (qm ?_)⟩)))⟩))))))
         exact zdx (ι := List (List Nat) × Bool × Nat) (s := fun (W2, ch2, q) => [(5, .pointer (some ⟨g5, 0, none⟩)), (11, .pointer (some ⟨h11, 0, none⟩)), (12, .pointer (some ⟨h12, 0, none⟩)), (104, .slice (some ⟨gt, 0, none⟩) n n), (105, .int .i64 ((n : Nat) : Int)), (106, .int .i64 ((q : Nat) : Int))]) (R := fun (W2, ch2, q) w' => LV 52 55 35 27 w (fnV p f) f.ins.length n g1 go g5 gt g10 gs W2 th w' ∧ Blk w' h11 4 #[.bool ch2] ∧ Blk w' h12 3 #[.int .i64 ((a : Nat) : Int)] ∧ Ext O1 W9 w' ∧ q ≤ n ∧ zhz f W2 ∧ zhq f W2 ∧ kg W1 ≤ kg W2 ∧ (ch2 = false → ch1 = false ∧ W2 = W1 ∧ ∀ i, i < q → jl (th.getD i 0) ((W2.getD a []).getD i 0) = 0) ∧ (ch2 = true → ch1 = true ∨ kg W1 < kg W2)) (m := fun (_, _, q) => n - q) (i := ⟨W2, ch2, q⟩) (W2, ch2, q + 1) (by show n - (q + 1) < n - q; omega) ⟨rfl, rfl, rfl, rfl, rfl, rfl, trivial⟩ (⟨X4, Q11, Q12, hEq, hqn2, hS6, hR6, hs6, hc7, hd6⟩)
       ·
        have hq := of_decide_eq_false hq;have hqe : q = n := by omega
        have hcl : ch2 = false → (∀ b, a < b → b < f.ins.length → zdz f W2 b) ∧ ∀ (i u : Nat) us (r : Nat), i < j + 1 → (vg f a x)[i]? = some ((u : Int), us) → (r : Int) ∉ us → vj W2 u r = true → vj W2 a r = true := fun h => by
         obtain ⟨h1, h2, h3⟩ := hc6 h;subst h2;refine ⟨(hL.cl h1).1, fun i u us r hi hw hr hb => ?_⟩;rcases Nat.lt_or_ge i j with h4 | h4
         · exact (hL.cl h1).2 i u us r h4 hw hr hb
         · obtain rfl : i = j := by omega
           rw [hway] at hw;obtain ⟨e1, e2⟩ := Prod.mk.inj (Option.some.inj hw);have e1 : t = u := by omega
           subst e1;subst e2;have h5 : gn th r = true := (hth r).2 ⟨hb, by rw [List.take_length]; exact hr⟩;have h6 := bitR_lt X4.rt h5;exact (zvq X4.rt.get).1 (h3 (r / 64) (by omega)) (r % 64) h5
        have hgr : ch2 = true → kg W0 < kg W2 := fun h => by
         have := hL.ge;rcases hd6 h with h1 | h1
         · have := hL.gr h1; omega
         · omega
        refine zok (vu (vu (kf (vm ?_))));intro a' ha'; exact ⟨rfl, O1, ⟨W2, th, ch2, ⟨X4, Q11, Q12, hS6, hR6, hcl, hgr, Nat.le_trans hL.ge hs6⟩, hO1⟩, hEq, fun i h => Or.inl h⟩
     ·
      rintro O2 W9 ⟨W1, th1, ch1, hL, hO1⟩ hs9;have hC5 : ch1 = false → ∀ b, a ≤ b → b < f.ins.length → zdz f W1 b := fun h b h1 h2 => by
       rcases Nat.lt_or_ge a b with h3 | h3
       · exact (hL.cl h).1 b h3 h2
       · obtain rfl : b = a := by omega
         intro i t ws r hi hw hr hb;rw [hxa] at hi;obtain rfl := Option.some.inj hi;obtain ⟨j, hj, e⟩ := List.getElem_of_mem hw;exact (hL.cl h).2 j t ws r hj (by rw [← e]; exact List.getElem?_eq_getElem hj) hr hb
      refine vm (vm (qa (qh (qh (yq (yh rfl (zt Tryd.underlying3 rfl rfl ((hL.c12.cell 0).trans rfl) (⟨Kept.refl _, (qm (qa (yq (yh rfl (qb zr3 ?_)))))⟩))))))));rintro g14 wQ B14 E14 G14;refine ⟨Kept.no E14, (xo rfl (zn sz3 rfl rfl B14 rfl rfl (Nat.le_of_ble_eq_true rfl) ?_))⟩;rintro wR B14b E14b
      refine ⟨Kept.one E14b B14, (qm (qa (yq (yh rfl (zt Tryd.underlying3 rfl rfl ((B14b.cell 0).trans rfl) (⟨Kept.refl _, (yh rfl (zmk rfl rfl (yg (by omega)) (⟨Kept.refl _, (xo rfl (zn sz3 rfl rfl B14b rfl rfl (Nat.le_of_ble_eq_true rfl) ?_))⟩)))⟩))))))⟩;rintro wS B14c E14c;refine ⟨Kept.one E14c B14b, ?_⟩;have hl14 := hL.v.b10.lt
      have hl15 := hL.c11.lt;have V6 := ((hL.v.other hord E14 (fun _ h => h.elim)).other hord E14b (fun k hk => by have := qt hk; omega)).other hord E14c (fun k hk => by have := qt hk; omega);have C6 := ((hL.c11.ext E14 (fun h => h.elim)).ext E14b (fun h => by have := qt h; omega)).ext E14c (fun h => by have := qt h; omega);refine qm ?_
      exact zdx (ι := List (List Nat) × List Nat × Bool × Nat × Nat) (s := fun (W, th, ch, h12, k) => [(1, .pointer (some ⟨g1, 0, none⟩)), (5, .pointer (some ⟨g5, 0, none⟩)), (10, .pointer (some ⟨g10, 0, none⟩)), (11, .pointer (some ⟨h11, 0, none⟩)), (12, .pointer (some ⟨h12, 0, none⟩))]) (R := fun (W, th, ch, h12, k) w' => LV 52 55 35 27 w (fnV p f) f.ins.length n g1 go g5 gt g10 gs W th w' ∧ Blk w' h11 4 #[.bool ch] ∧ Blk w' h12 3 #[.int .i64 (((k : Nat) : Int) - 1)] ∧ h11 < h12 ∧ k ≤ f.ins.length ∧ zhz f W ∧ zhq f W ∧ (ch = false → ∀ b, k ≤ b → b < f.ins.length → zdz f W b) ∧ (ch = true → kg W0 < kg W) ∧ kg W0 ≤ kg W) (m := fun (_, _, _, _, k) => k) (i := ⟨W, th, ch, h12, k⟩) (W1, th1, ch1, g14, a) (by show a < k; omega) ⟨rfl, rfl, rfl, rfl, rfl, trivial⟩ (⟨V6, C6, B14c, by omega, by omega, hL.s, hL.r, hC5, hL.gr, hL.ge⟩)
    ·
     have hk := of_decide_eq_false hk;obtain rfl : k = 0 := by omega
     refine zok (vu (vu (kf (vm (qa (qh (yq (yh rfl (zt Tryd.underlying4 rfl rfl ((D11.cell 0).trans rfl) (⟨Kept.refl _, (qm (qa (yq (yh rfl (qb zr4 ?_)))))⟩))))))))));rintro g13 wQ B13 E13 G13;refine ⟨Kept.no E13, (xo rfl (zn sz4 rfl rfl B13 rfl rfl (Nat.le_of_ble_eq_true rfl) ?_))⟩
     rintro wR B13b E13b;refine ⟨Kept.one E13b B13, ?_⟩;have hl13 := V4.b10.lt;have V6 := (V4.other hord E13 (fun _ h => h.elim)).other hord E13b (fun k hk => by have := qt hk; omega);have hM1 := hM W (zix V4.rows V4.wl);have hM2 := hM W0 (zix V.rows V.wl);have hms : 2 * (M - kg W) + (if ch = true then 1 else 0) < 2 * (M - kg W0) + (if ch0 = true then 1 else 0) := by
      rw [if_pos hch];cases ch with
      | false => have h := hE4; simp only [Bool.false_eq_true, if_false]; omega
      | true => have h := hG4 rfl; simp only [if_true]; omega
     refine qm ?_
     exact zdx (ι := List (List Nat) × List Nat × Bool × Nat) (s := fun (W0, th0, ch0, h11) => [(1, .pointer (some ⟨g1, 0, none⟩)), (5, .pointer (some ⟨g5, 0, none⟩)), (10, .pointer (some ⟨g10, 0, none⟩)), (11, .pointer (some ⟨h11, 0, none⟩))]) (R := fun (W, th, ch, g11) w' => LV 52 55 35 27 w (fnV p f) f.ins.length n g1 go g5 gt g10 gs W th w' ∧ Blk w' g11 4 #[.bool ch] ∧ g10 < g11 ∧ zhz f W ∧ zhq f W ∧ (ch = false → ∀ a, a < f.ins.length → zdz f W a)) (m := fun (W, th, ch, g11) => 2 * (M - kg W) + (if ch = true then 1 else 0)) (i := ⟨W0, th0, ch0, h11⟩) (W, th, ch, g13) (hms) ⟨rfl, rfl, rfl, rfl, trivial⟩ (⟨V6, B13b, by omega, hS4, hR4, fun h a ha => hC4 h a (Nat.zero_le _) ha⟩)
   ·
    refine zok (vu (vu (kf (qa (qh (yq (yh rfl (zt Tryd.underlying52 rfl rfl ((V.b5.cell 0).trans rfl) (⟨Kept.refl _, (yh rfl (va rfl (⟨Kept.refl _, (yh rfl (va rfl (⟨Kept.refl _, (qm (qa (ci_ret (ei_ret (rs := [.tmp 2, .tmp 3]) (vs := [_, _]) rfl (fun wz hw => ⟨⟨rfl, rfl, trivial⟩, ?_⟩)))))⟩)))⟩)))⟩)))))))))
    exact ⟨zgv V.lo hw (Nat.le_refl _) V.lo.size, fun h => (by rw [hs] at h; cases h), fun _ => ⟨_, _, W0, rfl, by rw [← hwn]; exact zix V.rows V.wl, fun a r => live_of hS hR (hC hch) a r, (V.rows.nc hw).rows (by omega)⟩⟩
end
end Go.Proofs.YtppdgjlmeahimaaDoor
namespace Go.Proofs.YtppdgjlmeahimaaDoor
open Go.RowKit
set_option maxRecDepth 100000
attribute [local irreducible] OW RS
def DbT (w : World) : Prop := ∀ j y, dbL[j]? = some y → w.cell? ⟨0, j, none⟩ = some (.int .u8 ((y : Nat) : Int))
theorem Per.dbT {X : Nat → Prop} {w : World} (h : DbT w) (hX : ∀ k, X k → w.heap.size ≤ k) : Per X w DbT := fun _ hz j y hy =>
 (hz.cell (World.block_lt_of_cell? w _ (h j y hy)) (fun hx => Nat.lt_irrefl _ (Nat.lt_of_lt_of_le (World.block_lt_of_cell? w _ (h j y hy)) (hX _ hx)))).trans (h j y hy)
theorem neg_u64 {x : Nat} (h0 : x ≠ 0) (hx : x < 2 ^ 64) : IntKind.u64.wrap (0 - (x : Int)) = ((2 ^ 64 - x : Nat) : Int) := by
 unfold IntKind.wrap;simp only [IntKind.bits, IntKind.signed, Bool.false_and, Bool.false_eq_true, if_false]
 have h : x < 18446744073709551616 := hx;have e : (2 : Int) ^ 64 = 18446744073709551616 := by decide
 have e2 : (2 : Nat) ^ 64 = 18446744073709551616 := by decide
 rw [e, e2];omega
theorem mul_u64 {x y : Nat} : IntKind.u64.wrap ((x : Int) * (y : Int)) = ((x * y % 2 ^ 64 : Nat) : Int) := by
 unfold IntKind.wrap;simp only [IntKind.bits, IntKind.signed, Bool.false_and, Bool.false_eq_true, if_false]
 rw [← Int.natCast_mul];rfl
theorem tz_any (w : World) (x : Nat) (hx : x < 2 ^ 64) (hD : DbT w) : Calls Tryd.prog 41 #[.int .u64 ((x : Nat) : Int)] w fun e w' => e = .returned (.int .i64 ((tz x : Nat) : Int)) ∧ Below w.heap.size w w' := by
 refine qs Tryd.func41 rfl Tryd.ntmps41 rfl ?_;have HF : Per (No) w (fun _ => True) := Per.true_;have LW := erx (No) w;have XLW := grx (No) w;have E := erx (No) w;replace HF := HF.on E;replace LW := LW.step E XLW;replace E := erx (No) w;replace HF := HF.and (Per.dbT hD (fun _ h => h.elim))
 refine srx (anx rfl (zp (srx (mvx rfl (za rfl (yn rfl rfl (rnx (zr rfl (fun h => ?_) (fun h => ?_)))))))))
 ·
  have h0 : x = 0 := by have := of_decide_eq_true h; omega
  subst h0;refine srx (anx rfl (zv (ze (zu (rs := [.tmp 2]) (vs := [_]) rfl ⟨rfl, trivial⟩ ?_))));exact ⟨rfl, (LW.step E XLW).toBelow⟩
 ·
  have h0 : x ≠ 0 := by have := of_decide_eq_false h; omega
  obtain ⟨k1, k2, k3⟩ := tz_spec h0 hx;obtain ⟨k, hk⟩ : ∃ k, k = tz x := ⟨_, rfl⟩;rw [← hk] at k1 k2 k3;have hin := low_in hx k2 k3;have hdb := db_at k1;refine zq (zh (srx (mvx rfl (mvx rfl (za rfl (ow_neg rfl (neg_u64 h0 hx) ?_))))));have hx' : x < 18446744073709551616 := hx;have hx2 : 2 ^ 64 - x < 2 ^ 64 := by
   have e2 : (2 : Nat) ^ 64 = 18446744073709551616 := by decide
   rw [e2];omega
  refine za rfl (kp rfl rfl (show _ = ((2 ^ k : Nat) : Int) from by rw [ot hx hx2, hin]) (za rfl (ow_mul rfl rfl (mul_u64 (y := 285870213051353865)) ?_)));obtain ⟨d, hd⟩ : ∃ d, d = 2 ^ k * 285870213051353865 % 2 ^ 64 := ⟨_, rfl⟩;rw [← hd] at hdb
  refine qr 9 (.int .u64 ((d : Nat) : Int)) rfl ((by rw [hd] : (.int .u64 ((2 ^ k * 285870213051353865 % 2 ^ 64 : Nat) : Int) : Value) = _)) (za rfl (ow_shr rfl rfl (by decide) (show _ = ((d / 2 ^ 58 : Nat) : Int) from (zxk (x := d) (k := 58) (by decide)).trans (by rw [Nat.shiftRight_eq_div_pow])) ?_));have hlt := (List.getElem?_eq_some_iff.1 hdb).1
  refine za rfl (zuk (j := d / 2 ^ 58) Tryd.underlying88 sz5 rfl rfl rfl hlt (za rfl (zt Tryd.underlying5 rfl rfl ((HF.on E).here.2 _ _ hdb) (za rfl (ow_conv Tryd.underlying3 Tryd.underlying5 rfl (yg (by omega)) (anx rfl (zv (zu (rs := [.tmp 2]) (vs := [_]) rfl ⟨rfl, trivial⟩ ?_))))))));exact ⟨by rw [hk]; rfl, (LW.step E XLW).toBelow⟩
end Go.Proofs.YtppdgjlmeahimaaDoor
namespace Go.Proofs.YtppdgjlmeahimaaDoor
open Go.RowKit
set_option maxRecDepth 100000
attribute [local irreducible] OW RS
structure EachOk (fid : FuncId) (caps : Array Value) (R : Nat) (X : Nat → Prop) (J : (Nat → Nat → Prop) → World → Prop) (F : Nat → Nat → Prop) (w0 : World) : Prop where
 keep : ∀ D w w' (Y : Nat → Prop), J D w → Ext Y w w' → (∀ k, Y k → w0.heap.size ≤ k) → J D w'
 call : ∀ D w (r o : Nat), J D w → Ext X w0 w → r < R → o < R → Calls Tryd.prog fid (#[.int .i64 ((r : Nat) : Int), .int .i64 ((o : Nat) : Int)] ++ caps) w (fun e w' => ∃ b, e = .returned (.bool b) ∧ Ext X w w' ∧ (b = true → J (fun x y => D x y ∨ (x = r ∧ y = o)) w') ∧ (b = false → F r o))
def MeetsR (f : LFn) (X : Nat → Prop) (J : (Nat → Nat → Prop) → World → Prop) (F : Nat → Nat → Prop) (w : World) : Ending → World → Prop := fun e w' => Ext X w w' ∧ ((e = .returned (.bool true) ∧ ∃ D, (∀ x y, D x y ↔ Met f x y) ∧ J D w') ∨ (e = .returned (.bool false) ∧ ∃ r o, Met f r o ∧ F r o))
def MetK (f : LFn) (b : Nat) (i : LIns) (k : Nat) (r o : Nat) : Prop := ∃ (t : Nat) (ws : List Int), (vg f b i)[k]? = some ((t : Int), ws) ∧ (r : Int) ∈ ws ∧ Liv f t o ∧ o ≠ r ∧ ¬ (i.op = 4 ∧ k = 0 ∧ (o : Int) = i.a)
def MetA (f : LFn) (b : Nat) (r o : Nat) : Prop := ∃ i k, f.ins[b]? = some i ∧ MetK f b i k r o
theorem met_iff {f : LFn} {r o : Nat} : Met f r o ↔ ∃ b, b < f.ins.length ∧ MetA f b r o := by
 constructor
 · rintro ⟨b, i, k, t, ws, h1, h2, h3, h4, h5, h6⟩;exact ⟨b, (List.getElem?_eq_some_iff.1 h1).1, i, k, h1, t, ws, h2, h3, h4, h5, h6⟩
 · rintro ⟨b, _, i, k, h1, t, ws, h2, h3, h4, h5, h6⟩;exact ⟨b, i, k, t, ws, h1, h2, h3, h4, h5, h6⟩
def Cov (f : LFn) (S D : Nat → Nat → Prop) : Prop := (∀ x y, D x y → Met f x y) ∧ ∀ x y, S x y → D x y
theorem way_ws {f : LFn} {a k : Nat} {x : LIns} {t : Int} {ws : List Int} (h : (vg f a x)[k]? = some (t, ws)) :
 (k = 0 → x.op ≠ 18 → 0 < (yo x (a : Int)).length → ws = yj x) ∧ (k = (yo x (a : Int)).length → ∃ kk r, jn f a x = some kk ∧ f.rgs[kk]? = some r ∧ ws = [r.d]) ∧ (k ≠ (yo x (a : Int)).length → ¬ (k = 0 ∧ x.op ≠ 18) → ws = []) := by
 unfold vg at h;rcases Nat.lt_or_ge k (yo x (a : Int)).length with h1 | h1
 · rw [List.getElem?_append_left (by rw [oa]; exact h1)] at h;obtain ⟨u, hu⟩ : ∃ u, (yo x (a : Int))[k]? = some u := ⟨_, List.getElem?_eq_getElem h1⟩;rw [goWays_at hu] at h;obtain ⟨e1, e2⟩ := Prod.mk.inj (Option.some.inj h);refine ⟨fun a1 a2 _ => ?_, fun e => by omega, fun _ a1 => ?_⟩
   · rw [if_pos ⟨a1, a2⟩] at e2; exact e2.symm
   · rw [if_neg a1] at e2; exact e2.symm
 · rw [List.getElem?_append_right (by rw [oa]; exact h1), oa] at h;unfold zkv at h;cases hh : jn f a x with
   | none => rw [hh] at h; simp at h
   | some kk =>
    obtain ⟨r, hr⟩ := zak hh;rw [hh] at h;simp only [hr] at h
    have hz : k - (yo x (a : Int)).length = 0 := by
     have := (List.getElem?_eq_some_iff.1 h).1;simp at this
     omega
    rw [hz] at h;obtain ⟨e1, e2⟩ := Prod.mk.inj (Option.some.inj h);exact ⟨fun a1 _ a3 => by omega, fun _ => ⟨kk, r, rfl, hr, e2.symm⟩, fun a1 _ => by omega⟩
def WsA (X : Nat → Prop) (A : Option Addr) (ws : List Int) (w : World) : Prop := ∀ (m : Nat) (y : Int), ws[m]? = some y → ∃ g o, A = some ⟨g, o, none⟩ ∧ ∀ w', Ext X w w' → w'.cell? ⟨g, o + m, none⟩ = some (.int .i64 y)
theorem wsA_nil {X : Nat → Prop} {A : Option Addr} {w : World} : WsA X A [] w := fun m y h => by simp at h
theorem wsA_own {X : Nat → Prop} {base c : Nat} {A : Option Addr} {ws : List Int} {w : World} (h : OwnsI w base A c ws) (hX : ∀ k, X k → k < base) : WsA X A ws w := fun m y hy => by
 have hk := (List.getElem?_eq_some_iff.1 hy).1;obtain ⟨g, e, hg1, hg2, hc⟩ := jm h (by omega);refine ⟨g, 0, e, fun w' h => ?_⟩;rw [Nat.zero_add];exact (h.cell hg2 (fun hx => by have := hX g hx; omega)).trans (hc m _ (by unfold yz; rw [List.getElem?_map, hy]; rfl))
theorem wsA_blk {X : Nat → Prop} {base g : Nat} {y : Int} {w : World} (h : Blk w g 3 #[.int .i64 y]) (hg : base ≤ g) (hX : ∀ k, X k → k < base) : WsA X (some ⟨g, 0, none⟩) [y] w := fun m z hz => by
 cases m with
 | zero =>
  simp only [List.getElem?_cons_zero, Option.some.injEq] at hz
  subst hz;refine ⟨g, 0, rfl, fun w' e => ?_⟩;exact ((h.ext e (fun hx => by have := hX g hx; omega)).cell 0).trans rfl
 | succ m => simp at hz
def PO (f : LFn) (k : Nat) (x : LIns) (t : Nat) (r o : Nat) : Prop := Liv f t o ∧ o ≠ r ∧ ¬ (x.op = 4 ∧ k = 0 ∧ (o : Int) = x.a)
def ygv (f : LFn) (a k : Nat) (x : LIns) (t : Nat) (ws : List Int) (j : Nat) (r o : Nat) : Prop := (∃ b, b < a ∧ MetA f b r o) ∨ (∃ i, i < k ∧ MetK f a x i r o) ∨ ((r : Int) ∈ ws.take j ∧ PO f k x t r o)
theorem pairS_done {f : LFn} {a k : Nat} {x : LIns} {t : Nat} {ws : List Int} (hw : (vg f a x)[k]? = some ((t : Int), ws)) {r o : Nat} (h : (∃ b, b < a ∧ MetA f b r o) ∨ ∃ j, j < k + 1 ∧ MetK f a x j r o) : ygv f a k x t ws ws.length r o := by
 rcases h with h | ⟨j, hj, h⟩
 · exact Or.inl h
 · rcases Nat.lt_or_ge j k with h1 | h1
   · exact Or.inr (Or.inl ⟨j, h1, h⟩)
   · obtain rfl : j = k := by omega
     obtain ⟨u, us, h2, h3, h4, h5, h6⟩ := h;rw [hw] at h2;obtain ⟨e1, e2⟩ := Prod.mk.inj (Option.some.inj h2);have e1 : t = u := by omega
     subst e1;subst e2;exact Or.inr (Or.inr ⟨by rw [List.take_length]; exact h3, h4, h5, h6⟩)
theorem yck {f : LFn} {a k : Nat} {x : LIns} {t : Nat} {ws : List Int} (hx : f.ins[a]? = some x) (hw : (vg f a x)[k]? = some ((t : Int), ws)) {r o : Nat} (hr : (r : Int) ∈ ws) (h : PO f k x t r o) : Met f r o := ⟨a, x, k, t, ws, hx, hw, hr, h⟩
theorem pairS_next {f : LFn} {a k : Nat} {x : LIns} {t : Nat} {ws : List Int} {j r q : Nat} (hy : ws[j]? = some (r : Int)) (hb : ∀ o, Liv f t o → o / 64 < q) {u o : Nat} (h : ygv f a k x t ws (j + 1) u o) : ygv f a k x t ws j u o ∨ (u = r ∧ o / 64 < q ∧ PO f k x t r o) := by
 rcases h with h | h | ⟨h, h2⟩
 · exact Or.inl (Or.inl h)
 · exact Or.inl (Or.inr (Or.inl h))
 · rw [List.take_add_one, hy] at h;simp only [Option.toList_some, List.mem_append, List.mem_singleton] at h
   rcases h with h | h
   · exact Or.inl (Or.inr (Or.inr ⟨h, h2⟩))
   · obtain rfl : u = r := by omega
     exact Or.inr ⟨rfl, hb o h2.1, h2⟩
theorem bitW_row {W : List (List Nat)} {t n o : Nat} {row : List Nat} (h : W[t]? = some row) (hr : Row64 row n) (hb : vj W t o = true) : o < 64 * n := by
 unfold vj at hb;rw [List.getD_eq_getElem?_getD, h] at hb;exact bitR_lt hr hb
def PairW (f : LFn) (a k : Nat) (x : LIns) (t : Nat) (ws : List Int) (j r q x0 xw : Nat) (u o : Nat) : Prop := ygv f a k x t ws j u o ∨ (u = r ∧ o / 64 < q ∧ PO f k x t r o) ∨ (u = r ∧ o / 64 = q ∧ x0.testBit (o % 64) = true ∧ xw.testBit (o % 64) = false ∧ PO f k x t r o)
theorem zfv {f : LFn} {a k : Nat} {x : LIns} {t : Nat} {ws : List Int} {j r q x0 xw kk : Nat} {D D' : Nat → Nat → Prop} (h : ∀ u o, PairW f a k x t ws j r q x0 xw u o → D u o) (hd : ∀ u o, D u o → D' u o) (hn : PO f k x t r (64 * q + kk) → D' r (64 * q + kk)) (hb : ∀ i, (xw &&& (xw - 1)).testBit i = (xw.testBit i && !decide (i = kk))) : ∀ u o, PairW f a k x t ws j r q x0 (xw &&& (xw - 1)) u o → D' u o := fun u o ho => by
 rcases ho with ho | ho | ⟨rfl, h1, h2, h3, h4⟩
 · exact hd u o (h u o (Or.inl ho))
 · exact hd u o (h u o (Or.inr (Or.inl ho)))
 · rw [hb] at h3;cases h5 : xw.testBit (o % 64) with
   | false => exact hd u o (h u o (Or.inr (Or.inr ⟨rfl, h1, h2, h5, h4⟩)))
   | true =>
    rw [h5] at h3;have h6 : o % 64 = kk := by simpa using h3
    have h7 : o = 64 * q + kk := by omega
    rw [h7] at h4 ⊢;exact hn h4
theorem pairW_done {f : LFn} {a k : Nat} {x : LIns} {t n : Nat} {ws : List Int} {j r q x0 : Nat} {row : List Nat} {W : List (List Nat)} (hrow : W[t]? = some row) (hx0 : row[q]? = some x0) (hL : ∀ o, Liv f t o → vj W t o = true) {u o : Nat} (h : ygv f a k x t ws j u o ∨ (u = r ∧ o / 64 < q + 1 ∧ PO f k x t r o)) : PairW f a k x t ws j r q x0 0 u o := by
 have _ := n;rcases h with h | ⟨h1, h2, h3⟩
 · exact Or.inl h
 · rcases Nat.lt_or_ge (o / 64) q with h4 | h4
   · exact Or.inr (Or.inl ⟨h1, h4, h3⟩)
   · have h5 : o / 64 = q := by omega
     have h6 := hL o h3.1;unfold vj gn at h6;rw [List.getD_eq_getElem?_getD (i := t), hrow, Option.getD_some, h5, List.getD_eq_getElem?_getD, hx0] at h6;exact Or.inr (Or.inr ⟨h1, h5, h6, Nat.zero_testBit _, h3⟩)
theorem met_next {f : LFn} {a b k r o : Nat} {x : LIns} (hx : f.ins[a]? = some x) (hk : (vg f a x).length ≤ k) (hb : b < a + 1) (h : MetA f b r o) : (∃ b, b < a ∧ MetA f b r o) ∨ ∃ j, j < k ∧ MetK f a x j r o := by
 rcases Nat.lt_or_ge b a with h1 | h1
 · exact Or.inl ⟨b, h1, h⟩
 · obtain rfl : b = a := by omega
   obtain ⟨i, j, hi, hm⟩ := h;rw [hx] at hi;obtain rfl := Option.some.inj hi;have hm2 := hm;obtain ⟨t, ws, h2, _⟩ := hm2;exact Or.inr ⟨j, by have := (List.getElem?_eq_some_iff.1 h2).1; omega, hm⟩
theorem zwx {w : World} {p : Pl} {f : LFn} {n0 at_ kk : Nat} {x : LIns} (hF : FnA n0 w p f) (hx : f.ins[at_]? = some x) (h : jn f at_ x = some kk) : Calls Tryd.prog 40 #[fnV p f, .int .i64 ((at_ : Nat) : Int)] w fun e w' => e = .returned (.int .i64 ((kk : Nat) : Int)) ∧ Below w.heap.size w w' :=
 (ygx w p f n0 hF at_ x hx).mono fun e w' h2 => ⟨by rw [h2.1, zik h], h2.2⟩
section
variable (w : World) (p : Pl) (f : LFn) (n0 b0 c : Nat) (A : Option Addr) (W : List (List Nat)) (hF : FnA n0 w p f) (hs : vh f = true) (hD : DbT w) (hW : Rows64 W f.ins.length (ke f)) (hL : ∀ a r, vj W a r = true ↔ Liv f a r) (hA : RowsW b0 w A W) (hb0 : n0 ≤ b0) (hdb : 0 < b0)
 (fid : FuncId) (caps : Array Value) (X : Nat → Prop) (J : (Nat → Nat → Prop) → World → Prop) (F : Nat → Nat → Prop) (hX : ∀ k, X k → b0 ≤ k ∧ k < w.heap.size) (hE : EachOk fid caps f.regs.toNat X J F w) (hown : gp Tryd.prog fid) (h0 : J (fun _ _ => False) w)
include hF hs hD hW hL hA hb0 hdb hX hE hown h0
theorem meets_any : Calls Tryd.prog 20 #[fnV p f, .slice A f.ins.length c, .func (.func fid) #[] caps] w (MeetsR f X J F w) := by
 have hrl := hF.rgs.len;have hil := hF.ins.len;have hn := hF.size;obtain ⟨hr0, hr1, hp0, hp1, hne⟩ := gl hs;refine qs Tryd.func20 rfl Tryd.ntmps20 rfl (srx (za rfl (vk rfl ?_)));rintro g3 wA B3 E3 G3;have hX3 : ¬ X g3 := fun h => by have := (hX g3 h).2; omega
 have hJA := hE.keep _ _ _ _ h0 E3 (fun _ h => h.elim);have hEA : Ext X w wA := E3.mono (fun _ h _ => h.elim)
 refine anx rfl (zp (srx (za rfl (zb Tryd.underlying27 rfl gz (by decide) rfl (za rfl (zg Tryd.underlying24 rfl rfl B3 rfl (za rfl (yw Tryd.underlying24 rfl (mvx rfl (rnx (yb (qu (ι := Nat) (fun a => [(1, .slice A f.ins.length c), (2, .func (.func fid) #[] caps), (3, .pointer (some ⟨g3, 0, none⟩)), (19, .slice p.ai f.ins.length p.ci), (20, .int .i64 ((f.ins.length : Nat) : Int)), (21, .int .i64 ((a : Nat) : Int))]) (fun a w' => Ext X wA w' ∧ a ≤ f.ins.length ∧ ∃ D, J D w' ∧ Cov f (fun x y => ∃ b, b < a ∧ MetA f b x y) D) (fun a => f.ins.length - a) 0 ⟨rfl, rfl, rfl, rfl, rfl, rfl, trivial⟩ (⟨Ext.refl _ _, Nat.zero_le _, _, hJA, fun _ _ h => h.elim, fun x y h => by obtain ⟨b, h, _⟩ := h; omega⟩) ?_))))))))))))
 rintro a w2 ⟨hEa, haN, D, hJ, hC1, hC2⟩;refine srx (za rfl (yy rfl rfl (rnx (zp (zr rfl (fun ha => ?_) (fun ha => ?_))))))
 ·
  have ha := of_decide_eq_true ha;have han : a < f.ins.length := by omega
  obtain ⟨x, hx⟩ : ∃ x, f.ins[a]? = some x := ⟨_, List.getElem?_eq_getElem han⟩;have hF1 : FnA n0 w2 p f := hF.low (X := X) ⟨hEA.step hEa (fun i h => Or.inl h), fun k h => Nat.le_trans hb0 (hX k h).1⟩;refine zq (zh (zp (yb (srx (mvx rfl ?_)))));obtain ⟨g, o, hAi, hg, hc⟩ := hF1.ins.row.at hx;obtain ⟨hI, B, cB, hcB, hl, hcells⟩ := hc
  refine za rfl (yi (j := a) Tryd.underlying24 vx (congrArg (fun z ↦ some (Value.slice z f.ins.length p.ci)) hAi) rfl rfl han (za rfl (jb (cs := (jr x B cB).toArray) Tryd.underlying41 rfl vx rfl rfl (fun j v hj ↦ hcells j v (by simpa using hj)) (za rfl (qb zpk ?_)))));rintro g8 wB B8 E8 G8;refine avx rfl (zw (qz vx rfl rfl B8 rfl rfl rfl ?_))
  rintro wC B8b E8b;have hE8 : Ext X wA wC := (hEa.step E8 (fun _ h => h.elim)).step E8b (fun k hk => Or.inr (by rw [qt hk]; exact Nat.le_trans hEa.size G8));have hlC : IntsA n0 wC B x.l := hl.low (X := X) ⟨(E8.mono (fun _ h _ => h.elim)).step E8b (fun k hk => Or.inr (by rw [qt hk]; exact G8)), fun k h => Nat.le_trans hb0 (hX k h).1⟩
  have hXg8 : ¬ X g8 := fun h => by have := (hX g8 h).2; have := hEA.size; have := hEa.size; omega
  have hJ8 := hE.keep _ _ _ _ (hE.keep _ _ _ _ hJ E8 (fun _ h => h.elim)) E8b (fun k hk => by rw [qt hk]; have := hEA.size; have := hEa.size; omega);have B3b := B3.ext hE8 hX3;have hF2 : FnA n0 wC p f := hF.low (X := X) ⟨hEA.step hE8 (fun i h => Or.inl h), fun k h => Nat.le_trans hb0 (hX k h).1⟩
  refine rnx (srx (za rfl (zo Tryd.underlying27 rfl jp rfl B3b rfl (mvx rfl (za rfl (yf en37 rfl ((waysl_any _ p f n0 a x hF2 hx).mono ?_)))))));rintro e w3 ⟨A9, c9, rfl, o9, hb⟩;refine ⟨_, rfl, ?_⟩;obtain ⟨wD, hwD⟩ : ∃ wD, wD = w3 := ⟨_, rfl⟩;have hbn : Ext No wC w3 := Ext.of_below hb No;have hE9 : Ext X wA w3 := hE8.step hbn (fun _ h => h.elim)
  have hJ9 := hE.keep _ _ _ _ hJ8 hbn (fun _ h => h.elim);have B3c := B3b.ext hbn (fun h => h.elim);have B8c := B8b.ext hbn (fun h => h.elim);have hlt9 := tosL_len f a x;have hl9 := ways_len f a x;have hsz9 : w.heap.size ≤ wC.heap.size := by have := hEA.size; have := hE8.size; omega
  have htos : ∀ (k : Nat) (y : Int), (zbk f a x)[k]? = some y → ∃ g, A9 = some ⟨g, 0, none⟩ ∧ ∀ w', Ext X w3 w' → w'.cell? ⟨g, 0 + k, none⟩ = some (.int .i64 y) := fun k y hy => by
   have hk := (List.getElem?_eq_some_iff.1 hy).1;obtain ⟨g, e, hg1, hg2, hc⟩ := jm o9 (by omega);refine ⟨g, e, fun w' h => ?_⟩;rw [Nat.zero_add];exact (h.cell hg2 (fun hx => by have := (hX g hx).2; omega)).trans (hc k _ (by unfold yz; rw [List.getElem?_map, hy]; rfl))
  refine anx rfl (srx (mvx rfl (za rfl (yw Tryd.underlying28 rfl (mvx rfl (rnx (yb (qu (ι := Nat) (fun k => [(1, .slice A f.ins.length c), (2, .func (.func fid) #[] caps), (3, .pointer (some ⟨g3, 0, none⟩)), (7, .int .i64 ((a : Nat) : Int)), (8, .pointer (some ⟨g8, 0, none⟩)), (19, .slice p.ai f.ins.length p.ci), (20, .int .i64 ((f.ins.length : Nat) : Int)), (21, .int .i64 ((a : Nat) : Int)), (29, .slice A9 (zbk f a x).length c9), (30, .int .i64 (((zbk f a x).length : Nat) : Int)), (31, .int .i64 ((k : Nat) : Int))]) (fun k w' => Ext X wD w' ∧ k ≤ (zbk f a x).length ∧ ∃ D, J D w' ∧ Cov f (fun r o => (∃ b, b < a ∧ MetA f b r o) ∨ ∃ j, j < k ∧ MetK f a x j r o) D) (fun k => (zbk f a x).length - k) 0 ⟨rfl, rfl, rfl, rfl, rfl, rfl, rfl, rfl, rfl, rfl, rfl, trivial⟩ (⟨by rw [hwD]; exact Ext.refl _ _, Nat.zero_le _, D, hJ9, hC1, fun r o h => by rcases h with h | ⟨j, h, _⟩; exact hC2 r o h; omega⟩) ?_))))))))
  rintro k w5 ⟨hEk, hkN, D2, hJ2, hC3, hC4⟩;subst hwD;refine srx (za rfl (yy rfl rfl (rnx (zp (zr rfl (fun hk => ?_) (fun hk => ?_))))))
  ·
   have hk := of_decide_eq_true hk;have hkn : k < (zbk f a x).length := by omega
   obtain ⟨⟨t, ws⟩, hway⟩ : ∃ y, (vg f a x)[k]? = some y := ⟨_, List.getElem?_eq_getElem (by omega)⟩;obtain ⟨⟨ht0, ht1⟩, hwsr⟩ := yhx hs hx (List.mem_of_getElem? hway);obtain ⟨t, rfl⟩ : ∃ u : Nat, t = (u : Int) := ⟨t.toNat, by dsimp only at ht0; omega⟩;obtain ⟨g9, hA9, hc9⟩ := htos k _ (tosL_at hway)
   refine zq (zh (zp (yb (srx (mvx rfl (za rfl (zk (j := k) Tryd.underlying28 sz3 (congrArg (fun z ↦ some (Value.slice z (zbk f a x).length c9)) hA9) rfl rfl hkn (za rfl (zt Tryd.underlying3 rfl rfl (hc9 _ hEk) ?_)))))))));obtain ⟨hw1, hw2, hw3⟩ := way_ws hway;have hwsl : 8 * ws.length ≤ 140737488355000 := by
    by_cases h9 : k = (yo x (a : Int)).length
    · obtain ⟨_, r, _, _, e⟩ := hw2 h9;rw [e]; simp
    · by_cases h8 : k = 0 ∧ x.op ≠ 18
      · rw [hw1 h8.1 h8.2 (by omega)]; exact zmx hl
      · rw [hw3 h9 h8]; simp
   obtain ⟨wE, hwE⟩ : ∃ wE, wE = w5 := ⟨_, rfl⟩;have B8d := B8c.ext hEk hXg8;have B3d := B3c.ext hEk hX3;have hEk2 : Ext X w w5 := (hEA.step hE9 (fun i h => Or.inl h)).step hEk (fun i h => Or.inl h);have hF3 : FnA n0 w5 p f := hF.low (X := X) ⟨hEk2, fun k h => Nat.le_trans hb0 (hX k h).1⟩;have hXk : ∀ i, X i → i < w.heap.size := fun i h => (hX i h).2;have hsk := hEk2.size
   rw [← hwE] at B8d B3d hF3 hEk2 hsk hJ2 hEk
   refine avx rfl (anx rfl (srx (anx rfl (zp (xv (ι := Option Addr × Nat) (fun (A12, c12) => [(1, .slice A f.ins.length c), (2, .func (.func fid) #[] caps), (3, .pointer (some ⟨g3, 0, none⟩)), (7, .int .i64 ((a : Nat) : Int)), (8, .pointer (some ⟨g8, 0, none⟩)), (10, .int .i64 ((k : Nat) : Int)), (11, .int .i64 ((t : Nat) : Int)), (12, .slice A12 ws.length c12), (19, .slice p.ai f.ins.length p.ci), (20, .int .i64 ((f.ins.length : Nat) : Int)), (21, .int .i64 ((a : Nat) : Int)), (29, .slice A9 (zbk f a x).length c9), (30, .int .i64 (((zbk f a x).length : Nat) : Int)), (31, .int .i64 ((k : Nat) : Int))]) (fun (A12, c12) w' => Ext X wE w' ∧ J D2 w' ∧ WsA X A12 ws w') ?_ ?_)))))
   ·
    have ev : w5 = wE := hwE.symm;have e0 : Ext No wE w5 := by rw [ev]; exact Ext.refl _ _
    rw [← ev] at B8d B3d hF3;refine yb (srx (mvx rfl (za rfl (yn rfl rfl (mvx rfl (yx 39 rfl (fun h1 => ?_) (fun h1 => ?_)))))))
    ·
     have hk0 : k = 0 := by simpa using h1
     refine onx rfl (zb Tryd.underlying41 rfl sz3 (by decide) rfl (onx rfl (zt Tryd.underlying3 rfl rfl ((B8d.cell 0).trans rfl) (onx rfl (vb rfl rfl (za rfl (zx rfl rfl (mvx rfl (yx 44 rfl (fun h2 => ?_) (fun h2 => ?_))))))))))
     ·
      have h18 : x.op ≠ 18 := by simpa using h2
      refine onx rfl (zo Tryd.underlying41 rfl vx rfl B8d rfl (onx rfl (zl rfl (onx rfl (yf en38 rfl ((zlz _ x B cB ((a : Nat) : Int) (by unfold I64; omega)).mono ?_))))));rintro e w8 ⟨A13, c13, rfl, o13, hb⟩;refine ⟨_, rfl, ?_⟩;have e1n := Ext.of_below hb No;replace e0 := e0.trans e1n;replace B8d := B8d.ext e1n (fun h => h.elim)
      replace B3d := B3d.ext e1n (fun h => h.elim);replace hF3 : FnA n0 w8 p f := hF3.low (X := No) ⟨e1n, fun _ h => h.elim⟩;refine onx rfl (yw Tryd.underlying28 rfl (onx rfl (xb rfl rfl (za rfl (zx rfl rfl (anx rfl (zr rfl (fun h3 => ?_) (fun h3 => ?_))))))))
      ·
       have h3 := of_decide_eq_true h3;have hws := hw1 hk0 h18 (by omega);have hlE : IntsA n0 w8 B x.l := hlC.low (X := X) ⟨((hbn.mono (fun _ h _ => h.elim)).step hEk (fun i h => Or.inl h)).step e0 (fun _ h => h.elim), fun k h => Nat.le_trans hb0 (hX k h).1⟩
       refine zj (za rfl (zo Tryd.underlying41 rfl vx rfl B8d rfl (za rfl (yf en39 rfl ((zmz _ x B cB n0 hlE hF3.size).mono ?_)))));rintro e w9 ⟨Aw, cw, rfl, ow, hb⟩;refine ⟨_, rfl, ?_⟩;have e5n := e0.trans (Ext.of_below hb No);have hs0 := e0.size;refine avx rfl (yc (zf ?_))
       exact jh (Aw, cw) ⟨rfl, rfl, rfl, rfl, rfl, rfl, rfl, by rw [hws]; rfl, rfl, rfl, rfl, rfl, rfl, rfl, trivial⟩ (⟨e5n.mono (fun _ h _ => h.elim), hE.keep _ _ _ _ hJ2 e5n (fun _ h => h.elim), by rw [hws]; exact wsA_own ow (fun k h => by have := hXk k h; omega)⟩)
      ·
       have h3 := of_decide_eq_false h3;refine srx (mvx rfl (za rfl (zo Tryd.underlying41 rfl vx rfl B8d rfl (mvx rfl (za rfl (yf en38 rfl ((zlz _ x B cB ((a : Nat) : Int) (by unfold I64; omega)).mono ?_)))))));rintro e w10 ⟨A13, c13, rfl, o13, hb⟩;refine ⟨_, rfl, ?_⟩;have e2n := e0.trans (Ext.of_below hb No)
       refine za rfl (yw Tryd.underlying28 rfl (za rfl (yn rfl rfl (anx rfl (zr rfl (fun h9 => ?_) (fun h9 => ?_))))))
       ·
        have h9 : k = (yo x ((a : Nat) : Int)).length := by have h := h9; simp at h; omega
        obtain ⟨kk, r, hkk, hr, hws⟩ := hw2 h9;have hkr := (List.getElem?_eq_some_iff.1 hr).1;have e3n := (Ext.of_below hb No);have B3e := B3d.ext e3n (fun h => h.elim);have hF4 : FnA n0 w10 p f := hF3.low (X := No) ⟨e3n, fun _ h => h.elim⟩;obtain ⟨gr, ro, hA2, hgr, hcr⟩ := hF4.rgs.row.at hr;have hri := hF4.rgs.in_ r (List.mem_of_getElem? hr);refine kr je (kt 9 rfl ?_)
        refine vv (No) Mut.none_ [] [] (kl [Fx.of (.pointer (some ⟨g3, 9, none⟩)),
         Fx.of (.slice p.ar f.rgs.length p.cr),
         Fx.of (.agg #[.string f.name, .int .i64 f.params, .int .i64 f.regs, .int .i64 f.frees, .bool f.gen, .int .i64 f.bound, .slice p.an f.names.length p.cn, .slice p.ac f.consts.length p.cc, .slice p.ai f.ins.length p.ci, .slice p.ar f.rgs.length p.cr]),
         Fx.of (.int .i64 ((a : Nat) : Int)),
         Fx.of (.int .i64 ((kk : Nat) : Int)),
         Fx.of (.pointer (some ⟨gr, ro + kk * 4, none⟩)),
         Fx.of (.pointer (some ⟨gr, ro + kk * 4 + 3, none⟩)),
         Fx.of (.int .i64 r.d),
         ⟨Nat, fun gs => .slice (some ⟨gs, 0, none⟩) 1 1, fun gs b => (Blk b gs 3 #[.int .i64 r.d] ∧ w.heap.size ≤ gs)⟩]) rfl trivial (fun _ h => by cases h) ?_ ?_
        · refine ⟨?_, ?_, ?_, ?_, ?_, ?_, ?_, ?_, ?_, trivial⟩
          · intro vs X wq K;exact zb Tryd.underlying27 rfl ko (by decide) rfl ⟨Below.refl _ _, Left.of rfl⟩
          · intro vs X wq K;have LE := K.1;obtain ⟨_, e0, k0⟩ := K.dep 0 rfl rfl rfl;refine zd 60 (.pointer (some ⟨g3, 9, none⟩)) rfl e0 ?_;exact zg Tryd.underlying25 rfl rfl (vr LE B3e) rfl ⟨Below.refl _ _, Left.of rfl⟩
          · intro vs X wq K;have LE := K.1;exact zo Tryd.underlying27 rfl jp rfl (vr LE B3e) rfl ⟨Below.refl _ _, Left.of rfl⟩
          · intro vs X wq K;exact zl rfl ⟨Below.refl _ _, Left.of rfl⟩
          · intro vs X wq K;have LE := K.1;obtain ⟨_, e2, k2⟩ := K.dep 2 rfl rfl rfl;refine zd 62 (.agg #[.string f.name, .int .i64 f.params, .int .i64 f.regs, .int .i64 f.frees, .bool f.gen, .int .i64 f.bound, .slice p.an f.names.length p.cn, .slice p.ac f.consts.length p.cc, .slice p.ai f.ins.length p.ci, .slice p.ar f.rgs.length p.cr]) rfl e2 ?_
            obtain ⟨_, e3, k3⟩ := K.dep 3 rfl rfl rfl;refine zd 63 (.int .i64 ((a : Nat) : Int)) rfl e3 (yf en40 rfl ((zwx (hF4.low (X := No) ⟨(Ext.refl No _).drew.trans LE, fun _ h ↦ h.elim⟩) hx hkk).mono ?_));rintro e w2 ⟨rfl, hb⟩;exact ⟨_, rfl, hb, Left.of rfl⟩
          · intro vs X wq K;obtain ⟨_, e1, k1⟩ := K.dep 1 rfl rfl rfl;refine zd 61 (.slice p.ar f.rgs.length p.cr) rfl e1 ?_;obtain ⟨_, e4, k4⟩ := K.dep 4 rfl rfl rfl;refine zd 64 (.int .i64 ((kk : Nat) : Int)) rfl e4 ?_;exact yi (j := kk) Tryd.underlying25 ku (congrArg (fun z ↦ some (Value.slice z f.rgs.length p.cr)) hA2) rfl rfl hkr ⟨Below.refl _ _, Left.of rfl⟩
          · intro vs X wq K;obtain ⟨_, e5, k5⟩ := K.dep 5 rfl rfl rfl;refine zd 65 (.pointer (some ⟨gr, ro + kk * 4, none⟩)) rfl e5 ?_;exact zb Tryd.underlying50 rfl sz3 (by decide) rfl ⟨Below.refl _ _, Left.of rfl⟩
          · intro vs X wq K;have LE := K.1;obtain ⟨_, e6, k6⟩ := K.dep 6 rfl rfl rfl;refine zd 66 (.pointer (some ⟨gr, ro + kk * 4 + 3, none⟩)) rfl e6 ?_;exact zt Tryd.underlying3 rfl rfl ((Low.cells (n := n0) (X := No) ⟨(Ext.refl No _).drew.trans LE, fun _ h ↦ h.elim⟩ hgr hcr) 3 _ rfl) ⟨Below.refl _ _, Left.of rfl⟩
          · intro vs X wq K;have LE := K.1;have XN := K.2.1;obtain ⟨_, e7, k7⟩ := K.dep 7 rfl rfl rfl;refine zd 67 (.int .i64 r.d) rfl e7 (qv (cs := #[.int .i64 r.d]) Tryd.underlying28 sz3 zr3 (by decide) rfl (by rw [ym]; rfl) ?_);intro gs w5 Bs hb Gs
            exact ⟨hb, ⟨gs, rfl, (Per.blk Bs (fun hx => by have := XN gs hx; omega)).and (fun _ _ => Nat.le_trans (Nat.le_trans (Nat.le_trans hsk (by first | exact e3n.size | exact e2n.size)) LE.size) Gs)⟩⟩
        intro vs w11 LE AO AL AF AA;have hbd : Below (w10).heap.size (w10) w11 := (((Ext.refl No (w10)).drew).trans LE).toBelow;obtain ⟨gs, e8, k8⟩ := AL.2.2.2.2.2.2.2.2.1;have Wc8 := k8.here
        refine vq (τ := [(1, _), (2, _), (3, _), (7, _), (8, _), (10, _), (11, _), (12, _), (19, _), (20, _), (21, _), (29, _), (30, _), (31, _), (68, .slice (some ⟨gs, 0, none⟩) 1 1)]) ⟨rfl, rfl, rfl, rfl, rfl, rfl, rfl, rfl, rfl, rfl, rfl, rfl, rfl, rfl, congrArg some e8, trivial⟩ ?_;clear AL AF AA AO
        refine ol (ji (by kernel_rfl) (fun _ _ d_ _ _ h => by cases d_ <;> exact h) ?_);change Nat at gs
        have e4n := e2n.trans (Ext.of_below hbd No);refine avx rfl (yc (zf ?_));exact jh (some ⟨gs, 0, none⟩, 1) ⟨rfl, rfl, rfl, rfl, rfl, rfl, rfl, by rw [hws]; rfl, rfl, rfl, rfl, rfl, rfl, rfl, trivial⟩ (⟨e4n.mono (fun _ h _ => h.elim), hE.keep _ _ _ _ hJ2 e4n (fun _ h => h.elim), by rw [hws]; exact wsA_blk Wc8.1 Wc8.2 hXk⟩)
       ·
        have h9 : k ≠ (yo x ((a : Nat) : Int)).length := by have h := h9; simp at h; omega
        have hws := hw3 h9 (by rintro ⟨_, _⟩; omega);refine zq (zf ?_);exact jh (none, 0) ⟨rfl, rfl, rfl, rfl, rfl, rfl, rfl, by rw [hws]; rfl, rfl, rfl, rfl, rfl, rfl, rfl, trivial⟩ (⟨e2n.mono (fun _ h _ => h.elim), hE.keep _ _ _ _ hJ2 e2n (fun _ h => h.elim), by rw [hws]; exact wsA_nil⟩)
     ·
      have h18 : x.op = 18 := by simpa using h2
      refine za rfl (zc rfl (za rfl (zc rfl (za rfl (zc rfl (za rfl (zc rfl (za rfl (zc rfl (za rfl (yd rfl rfl (anx rfl (qp rfl (srx (mvx rfl (za rfl (zo Tryd.underlying41 rfl vx rfl B8d rfl (mvx rfl (za rfl (yf en38 rfl ((zlz _ x B cB ((a : Nat) : Int) (by unfold I64; omega)).mono ?_)))))))))))))))))))))
      rintro e w12 ⟨A13, c13, rfl, o13, hb⟩;refine ⟨_, rfl, ?_⟩;have e2n := e0.trans (Ext.of_below hb No);refine za rfl (yw Tryd.underlying28 rfl (za rfl (yn rfl rfl (anx rfl (zr rfl (fun h9 => ?_) (fun h9 => ?_))))))
      ·
       have h9 : k = (yo x ((a : Nat) : Int)).length := by have h := h9; simp at h; omega
       obtain ⟨kk, r, hkk, hr, hws⟩ := hw2 h9;have hkr := (List.getElem?_eq_some_iff.1 hr).1;have e3n := (Ext.of_below hb No);have B3e := B3d.ext e3n (fun h => h.elim);have hF4 : FnA n0 w12 p f := hF3.low (X := No) ⟨e3n, fun _ h => h.elim⟩;obtain ⟨gr, ro, hA2, hgr, hcr⟩ := hF4.rgs.row.at hr;have hri := hF4.rgs.in_ r (List.mem_of_getElem? hr);refine kr je (kt 9 rfl ?_)
       refine vv (No) Mut.none_ [] [] (kl [Fx.of (.pointer (some ⟨g3, 9, none⟩)),
        Fx.of (.slice p.ar f.rgs.length p.cr),
        Fx.of (.agg #[.string f.name, .int .i64 f.params, .int .i64 f.regs, .int .i64 f.frees, .bool f.gen, .int .i64 f.bound, .slice p.an f.names.length p.cn, .slice p.ac f.consts.length p.cc, .slice p.ai f.ins.length p.ci, .slice p.ar f.rgs.length p.cr]),
        Fx.of (.int .i64 ((a : Nat) : Int)),
        Fx.of (.int .i64 ((kk : Nat) : Int)),
        Fx.of (.pointer (some ⟨gr, ro + kk * 4, none⟩)),
        Fx.of (.pointer (some ⟨gr, ro + kk * 4 + 3, none⟩)),
        Fx.of (.int .i64 r.d),
        ⟨Nat, fun gs => .slice (some ⟨gs, 0, none⟩) 1 1, fun gs b => (Blk b gs 3 #[.int .i64 r.d] ∧ w.heap.size ≤ gs)⟩]) rfl trivial (fun _ h => by cases h) ?_ ?_
       · refine ⟨?_, ?_, ?_, ?_, ?_, ?_, ?_, ?_, ?_, trivial⟩
         · intro vs X wq K;exact zb Tryd.underlying27 rfl ko (by decide) rfl ⟨Below.refl _ _, Left.of rfl⟩
         · intro vs X wq K;have LE := K.1;obtain ⟨_, e0, k0⟩ := K.dep 0 rfl rfl rfl;refine zd 60 (.pointer (some ⟨g3, 9, none⟩)) rfl e0 ?_;exact zg Tryd.underlying25 rfl rfl (vr LE B3e) rfl ⟨Below.refl _ _, Left.of rfl⟩
         · intro vs X wq K;have LE := K.1;exact zo Tryd.underlying27 rfl jp rfl (vr LE B3e) rfl ⟨Below.refl _ _, Left.of rfl⟩
         · intro vs X wq K;exact zl rfl ⟨Below.refl _ _, Left.of rfl⟩
         · intro vs X wq K;have LE := K.1;obtain ⟨_, e2, k2⟩ := K.dep 2 rfl rfl rfl;refine zd 62 (.agg #[.string f.name, .int .i64 f.params, .int .i64 f.regs, .int .i64 f.frees, .bool f.gen, .int .i64 f.bound, .slice p.an f.names.length p.cn, .slice p.ac f.consts.length p.cc, .slice p.ai f.ins.length p.ci, .slice p.ar f.rgs.length p.cr]) rfl e2 ?_
           obtain ⟨_, e3, k3⟩ := K.dep 3 rfl rfl rfl;refine zd 63 (.int .i64 ((a : Nat) : Int)) rfl e3 (yf en40 rfl ((zwx (hF4.low (X := No) ⟨(Ext.refl No _).drew.trans LE, fun _ h ↦ h.elim⟩) hx hkk).mono ?_));rintro e w2 ⟨rfl, hb⟩;exact ⟨_, rfl, hb, Left.of rfl⟩
         · intro vs X wq K;obtain ⟨_, e1, k1⟩ := K.dep 1 rfl rfl rfl;refine zd 61 (.slice p.ar f.rgs.length p.cr) rfl e1 ?_;obtain ⟨_, e4, k4⟩ := K.dep 4 rfl rfl rfl;refine zd 64 (.int .i64 ((kk : Nat) : Int)) rfl e4 ?_;exact yi (j := kk) Tryd.underlying25 ku (congrArg (fun z ↦ some (Value.slice z f.rgs.length p.cr)) hA2) rfl rfl hkr ⟨Below.refl _ _, Left.of rfl⟩
         · intro vs X wq K;obtain ⟨_, e5, k5⟩ := K.dep 5 rfl rfl rfl;refine zd 65 (.pointer (some ⟨gr, ro + kk * 4, none⟩)) rfl e5 ?_;exact zb Tryd.underlying50 rfl sz3 (by decide) rfl ⟨Below.refl _ _, Left.of rfl⟩
         · intro vs X wq K;have LE := K.1;obtain ⟨_, e6, k6⟩ := K.dep 6 rfl rfl rfl;refine zd 66 (.pointer (some ⟨gr, ro + kk * 4 + 3, none⟩)) rfl e6 ?_;exact zt Tryd.underlying3 rfl rfl ((Low.cells (n := n0) (X := No) ⟨(Ext.refl No _).drew.trans LE, fun _ h ↦ h.elim⟩ hgr hcr) 3 _ rfl) ⟨Below.refl _ _, Left.of rfl⟩
         · intro vs X wq K;have LE := K.1;have XN := K.2.1;obtain ⟨_, e7, k7⟩ := K.dep 7 rfl rfl rfl;refine zd 67 (.int .i64 r.d) rfl e7 (qv (cs := #[.int .i64 r.d]) Tryd.underlying28 sz3 zr3 (by decide) rfl (by rw [ym]; rfl) ?_);intro gs w5 Bs hb Gs
           exact ⟨hb, ⟨gs, rfl, (Per.blk Bs (fun hx => by have := XN gs hx; omega)).and (fun _ _ => Nat.le_trans (Nat.le_trans (Nat.le_trans hsk (by first | exact e3n.size | exact e2n.size)) LE.size) Gs)⟩⟩
       intro vs w13 LE AO AL AF AA;have hbd : Below (w12).heap.size (w12) w13 := (((Ext.refl No (w12)).drew).trans LE).toBelow;obtain ⟨gs, e8, k8⟩ := AL.2.2.2.2.2.2.2.2.1;have Wc8 := k8.here
       refine vq (τ := [(1, _), (2, _), (3, _), (7, _), (8, _), (10, _), (11, _), (12, _), (19, _), (20, _), (21, _), (29, _), (30, _), (31, _), (68, .slice (some ⟨gs, 0, none⟩) 1 1)]) ⟨rfl, rfl, rfl, rfl, rfl, rfl, rfl, rfl, rfl, rfl, rfl, rfl, rfl, rfl, congrArg some e8, trivial⟩ ?_;clear AL AF AA AO
       refine ol (ji (by kernel_rfl) (fun _ _ d_ _ _ h => by cases d_ <;> exact h) ?_);change Nat at gs
       have e4n := e2n.trans (Ext.of_below hbd No);refine avx rfl (yc (zf ?_));exact jh (some ⟨gs, 0, none⟩, 1) ⟨rfl, rfl, rfl, rfl, rfl, rfl, rfl, by rw [hws]; rfl, rfl, rfl, rfl, rfl, rfl, rfl, trivial⟩ (⟨e4n.mono (fun _ h _ => h.elim), hE.keep _ _ _ _ hJ2 e4n (fun _ h => h.elim), by rw [hws]; exact wsA_blk Wc8.1 Wc8.2 hXk⟩)
      ·
       have h9 : k ≠ (yo x ((a : Nat) : Int)).length := by have h := h9; simp at h; omega
       have hws := hw3 h9 (by rintro ⟨_, h⟩; exact h h18);refine zq (zf ?_);exact jh (none, 0) ⟨rfl, rfl, rfl, rfl, rfl, rfl, rfl, by rw [hws]; rfl, rfl, rfl, rfl, rfl, rfl, rfl, trivial⟩ (⟨e2n.mono (fun _ h _ => h.elim), hE.keep _ _ _ _ hJ2 e2n (fun _ h => h.elim), by rw [hws]; exact wsA_nil⟩)
    ·
     have hk0 : k ≠ 0 := by simpa using h1
     refine za rfl (zc rfl (za rfl (zc rfl (za rfl (zc rfl (za rfl (yd rfl rfl (mvx rfl (za rfl (zc rfl (za rfl (zc rfl (za rfl (zc rfl (za rfl (zc rfl (za rfl (zc rfl (za rfl (yd rfl rfl (anx rfl (qp rfl (srx (mvx rfl (za rfl (zo Tryd.underlying41 rfl vx rfl B8d rfl (mvx rfl (za rfl (yf en38 rfl ((zlz _ x B cB ((a : Nat) : Int) (by unfold I64; omega)).mono ?_))))))))))))))))))))))))))))))
     rintro e w14 ⟨A13, c13, rfl, o13, hb⟩;refine ⟨_, rfl, ?_⟩;have e2n := e0.trans (Ext.of_below hb No);refine za rfl (yw Tryd.underlying28 rfl (za rfl (yn rfl rfl (anx rfl (zr rfl (fun h9 => ?_) (fun h9 => ?_))))))
     ·
      have h9 : k = (yo x ((a : Nat) : Int)).length := by have h := h9; simp at h; omega
      obtain ⟨kk, r, hkk, hr, hws⟩ := hw2 h9;have hkr := (List.getElem?_eq_some_iff.1 hr).1;have e3n := (Ext.of_below hb No);have B3e := B3d.ext e3n (fun h => h.elim);have hF4 : FnA n0 w14 p f := hF3.low (X := No) ⟨e3n, fun _ h => h.elim⟩;obtain ⟨gr, ro, hA2, hgr, hcr⟩ := hF4.rgs.row.at hr;have hri := hF4.rgs.in_ r (List.mem_of_getElem? hr);refine kr je (kt 9 rfl ?_)
      refine vv (No) Mut.none_ [] [] (kl [Fx.of (.pointer (some ⟨g3, 9, none⟩)),
       Fx.of (.slice p.ar f.rgs.length p.cr),
       Fx.of (.agg #[.string f.name, .int .i64 f.params, .int .i64 f.regs, .int .i64 f.frees, .bool f.gen, .int .i64 f.bound, .slice p.an f.names.length p.cn, .slice p.ac f.consts.length p.cc, .slice p.ai f.ins.length p.ci, .slice p.ar f.rgs.length p.cr]),
       Fx.of (.int .i64 ((a : Nat) : Int)),
       Fx.of (.int .i64 ((kk : Nat) : Int)),
       Fx.of (.pointer (some ⟨gr, ro + kk * 4, none⟩)),
       Fx.of (.pointer (some ⟨gr, ro + kk * 4 + 3, none⟩)),
       Fx.of (.int .i64 r.d),
       ⟨Nat, fun gs => .slice (some ⟨gs, 0, none⟩) 1 1, fun gs b => (Blk b gs 3 #[.int .i64 r.d] ∧ w.heap.size ≤ gs)⟩]) rfl trivial (fun _ h => by cases h) ?_ ?_
      · refine ⟨?_, ?_, ?_, ?_, ?_, ?_, ?_, ?_, ?_, trivial⟩
        · intro vs X wq K;exact zb Tryd.underlying27 rfl ko (by decide) rfl ⟨Below.refl _ _, Left.of rfl⟩
        · intro vs X wq K;have LE := K.1;obtain ⟨_, e0, k0⟩ := K.dep 0 rfl rfl rfl;refine zd 60 (.pointer (some ⟨g3, 9, none⟩)) rfl e0 ?_;exact zg Tryd.underlying25 rfl rfl (vr LE B3e) rfl ⟨Below.refl _ _, Left.of rfl⟩
        · intro vs X wq K;have LE := K.1;exact zo Tryd.underlying27 rfl jp rfl (vr LE B3e) rfl ⟨Below.refl _ _, Left.of rfl⟩
        · intro vs X wq K;exact zl rfl ⟨Below.refl _ _, Left.of rfl⟩
        · intro vs X wq K;have LE := K.1;obtain ⟨_, e2, k2⟩ := K.dep 2 rfl rfl rfl;refine zd 62 (.agg #[.string f.name, .int .i64 f.params, .int .i64 f.regs, .int .i64 f.frees, .bool f.gen, .int .i64 f.bound, .slice p.an f.names.length p.cn, .slice p.ac f.consts.length p.cc, .slice p.ai f.ins.length p.ci, .slice p.ar f.rgs.length p.cr]) rfl e2 ?_
          obtain ⟨_, e3, k3⟩ := K.dep 3 rfl rfl rfl;refine zd 63 (.int .i64 ((a : Nat) : Int)) rfl e3 (yf en40 rfl ((zwx (hF4.low (X := No) ⟨(Ext.refl No _).drew.trans LE, fun _ h ↦ h.elim⟩) hx hkk).mono ?_));rintro e w2 ⟨rfl, hb⟩;exact ⟨_, rfl, hb, Left.of rfl⟩
        · intro vs X wq K;obtain ⟨_, e1, k1⟩ := K.dep 1 rfl rfl rfl;refine zd 61 (.slice p.ar f.rgs.length p.cr) rfl e1 ?_;obtain ⟨_, e4, k4⟩ := K.dep 4 rfl rfl rfl;refine zd 64 (.int .i64 ((kk : Nat) : Int)) rfl e4 ?_;exact yi (j := kk) Tryd.underlying25 ku (congrArg (fun z ↦ some (Value.slice z f.rgs.length p.cr)) hA2) rfl rfl hkr ⟨Below.refl _ _, Left.of rfl⟩
        · intro vs X wq K;obtain ⟨_, e5, k5⟩ := K.dep 5 rfl rfl rfl;refine zd 65 (.pointer (some ⟨gr, ro + kk * 4, none⟩)) rfl e5 ?_;exact zb Tryd.underlying50 rfl sz3 (by decide) rfl ⟨Below.refl _ _, Left.of rfl⟩
        · intro vs X wq K;have LE := K.1;obtain ⟨_, e6, k6⟩ := K.dep 6 rfl rfl rfl;refine zd 66 (.pointer (some ⟨gr, ro + kk * 4 + 3, none⟩)) rfl e6 ?_;exact zt Tryd.underlying3 rfl rfl ((Low.cells (n := n0) (X := No) ⟨(Ext.refl No _).drew.trans LE, fun _ h ↦ h.elim⟩ hgr hcr) 3 _ rfl) ⟨Below.refl _ _, Left.of rfl⟩
        · intro vs X wq K;have LE := K.1;have XN := K.2.1;obtain ⟨_, e7, k7⟩ := K.dep 7 rfl rfl rfl;refine zd 67 (.int .i64 r.d) rfl e7 (qv (cs := #[.int .i64 r.d]) Tryd.underlying28 sz3 zr3 (by decide) rfl (by rw [ym]; rfl) ?_);intro gs w5 Bs hb Gs
          exact ⟨hb, ⟨gs, rfl, (Per.blk Bs (fun hx => by have := XN gs hx; omega)).and (fun _ _ => Nat.le_trans (Nat.le_trans (Nat.le_trans hsk (by first | exact e3n.size | exact e2n.size)) LE.size) Gs)⟩⟩
      intro vs w15 LE AO AL AF AA;have hbd : Below (w14).heap.size (w14) w15 := (((Ext.refl No (w14)).drew).trans LE).toBelow;obtain ⟨gs, e8, k8⟩ := AL.2.2.2.2.2.2.2.2.1;have Wc8 := k8.here
      refine vq (τ := [(1, _), (2, _), (3, _), (7, _), (8, _), (10, _), (11, _), (12, _), (19, _), (20, _), (21, _), (29, _), (30, _), (31, _), (68, .slice (some ⟨gs, 0, none⟩) 1 1)]) ⟨rfl, rfl, rfl, rfl, rfl, rfl, rfl, rfl, rfl, rfl, rfl, rfl, rfl, rfl, congrArg some e8, trivial⟩ ?_;clear AL AF AA AO
      refine ol (ji (by kernel_rfl) (fun _ _ d_ _ _ h => by cases d_ <;> exact h) ?_);change Nat at gs
      have e4n := e2n.trans (Ext.of_below hbd No);refine avx rfl (yc (zf ?_));exact jh (some ⟨gs, 0, none⟩, 1) ⟨rfl, rfl, rfl, rfl, rfl, rfl, rfl, by rw [hws]; rfl, rfl, rfl, rfl, rfl, rfl, rfl, trivial⟩ (⟨e4n.mono (fun _ h _ => h.elim), hE.keep _ _ _ _ hJ2 e4n (fun _ h => h.elim), by rw [hws]; exact wsA_blk Wc8.1 Wc8.2 hXk⟩)
     ·
      have h9 : k ≠ (yo x ((a : Nat) : Int)).length := by have h := h9; simp at h; omega
      have hws := hw3 h9 (by rintro ⟨h, _⟩; exact hk0 h);refine zq (zf ?_);exact jh (none, 0) ⟨rfl, rfl, rfl, rfl, rfl, rfl, rfl, by rw [hws]; rfl, rfl, rfl, rfl, rfl, rfl, rfl, trivial⟩ (⟨e2n.mono (fun _ h _ => h.elim), hE.keep _ _ _ _ hJ2 e2n (fun _ h => h.elim), by rw [hws]; exact wsA_nil⟩)
   ·
    rintro ⟨A12, c12⟩ w7 ⟨hEm, hJm, hWm⟩;obtain ⟨wM, hwM⟩ : ∃ wM, wM = w7 := ⟨_, rfl⟩;have B8m := B8d.ext hEm hXg8;rw [← hwM] at B8m hEm hJm hWm;have hEM : Ext X w wM := hEk2.step hEm (fun i h => Or.inl h);have hJM : ∃ D, J D wM ∧ Cov f (ygv f a k x t ws 0) D := ⟨D2, hJm, hC3, fun r o h => hC4 r o (by
     rcases h with h | h | ⟨h, _⟩
     · exact Or.inl h
     · exact Or.inr h
     · simp at h)⟩
    refine srx (mvx rfl (za rfl (yw Tryd.underlying28 rfl (mvx rfl (rnx (yb (qu (ι := Nat) (fun j => [(1, .slice A f.ins.length c), (2, .func (.func fid) #[] caps), (3, .pointer (some ⟨g3, 0, none⟩)), (7, .int .i64 ((a : Nat) : Int)), (8, .pointer (some ⟨g8, 0, none⟩)), (10, .int .i64 ((k : Nat) : Int)), (11, .int .i64 ((t : Nat) : Int)), (19, .slice p.ai f.ins.length p.ci), (20, .int .i64 ((f.ins.length : Nat) : Int)), (21, .int .i64 ((a : Nat) : Int)), (29, .slice A9 (zbk f a x).length c9), (30, .int .i64 (((zbk f a x).length : Nat) : Int)), (31, .int .i64 ((k : Nat) : Int)), (69, .slice A12 ws.length c12), (70, .int .i64 ((ws.length : Nat) : Int)), (71, .int .i64 ((j : Nat) : Int))]) (fun j w' => Ext X wM w' ∧ j ≤ ws.length ∧ ∃ D, J D w' ∧ Cov f (ygv f a k x t ws j) D) (fun j => ws.length - j) 0 ⟨rfl, rfl, rfl, rfl, rfl, rfl, rfl, rfl, rfl, rfl, rfl, rfl, rfl, rfl, rfl, rfl, trivial⟩ (⟨by rw [hwM]; exact Ext.refl _ _, Nat.zero_le _, by rw [← hwM]; exact hJM⟩) ?_)))))))
    rintro j w17 ⟨hEj, hjn, D3, hJ3, hC5, hC6⟩;refine srx (za rfl (yy rfl rfl (rnx (zp (zr rfl (fun hj => ?_) (fun hj => ?_))))))
    ·
     have hj := of_decide_eq_true hj;have hjw : j < ws.length := by omega
     obtain ⟨y, hy⟩ : ∃ y, ws[j]? = some y := ⟨_, List.getElem?_eq_getElem hjw⟩;obtain ⟨hy0, hy1⟩ := hwsr y (List.mem_of_getElem? hy);obtain ⟨r, rfl⟩ : ∃ u : Nat, y = (u : Int) := ⟨y.toNat, by omega⟩;obtain ⟨gv, ov, hA12, hcv⟩ := hWm j _ hy
     refine zq (zh (zp (yb (srx (za rfl (zk (j := j) Tryd.underlying28 sz3 (congrArg (fun z ↦ some (Value.slice z ws.length c12)) hA12) rfl rfl hjw (za rfl (zt Tryd.underlying3 rfl rfl (hcv _ hEj) ?_))))))));obtain ⟨wN, hwN⟩ : ∃ wN, wN = w17 := ⟨_, rfl⟩;have hEN : Ext X w w17 := hEM.step hEj (fun i h => Or.inl h)
     have htN : t < W.length := by rw [hW.1]; dsimp only at ht1; omega
     obtain ⟨row, hrow⟩ : ∃ row, W[t]? = some row := ⟨_, List.getElem?_eq_getElem htN⟩;have hr64 := hW.2 row (List.mem_of_getElem? hrow);have hAN : RowsW b0 w17 A W := hA.low (X := X) ⟨hEN, fun k h => (hX k h).1⟩;obtain ⟨gL, oL, hAL, hgL, AL, cL, hU, hcL⟩ := hAN.at hrow
     refine anx rfl (srx (mvx rfl (mvx rfl (za rfl (zk (j := t) Tryd.underlying52 zhk (congrArg (fun z ↦ some (Value.slice z f.ins.length c)) hAL) rfl rfl (by rw [← hW.1]; exact htN) (za rfl (zt Tryd.underlying55 rfl rfl (by rw [Nat.mul_one] at hcL; exact hcL) ?_)))))));have hll := hU.len;rw [← hwN] at hEN hAN hU
     refine za rfl (yw Tryd.underlying55 rfl (mvx rfl (rnx (yb (qu (ι := Nat) (fun q => [(1, .slice A f.ins.length c), (2, .func (.func fid) #[] caps), (3, .pointer (some ⟨g3, 0, none⟩)), (7, .int .i64 ((a : Nat) : Int)), (8, .pointer (some ⟨g8, 0, none⟩)), (10, .int .i64 ((k : Nat) : Int)), (11, .int .i64 ((t : Nat) : Int)), (19, .slice p.ai f.ins.length p.ci), (20, .int .i64 ((f.ins.length : Nat) : Int)), (21, .int .i64 ((a : Nat) : Int)), (29, .slice A9 (zbk f a x).length c9), (30, .int .i64 (((zbk f a x).length : Nat) : Int)), (31, .int .i64 ((k : Nat) : Int)), (69, .slice A12 ws.length c12), (70, .int .i64 ((ws.length : Nat) : Int)), (71, .int .i64 ((j : Nat) : Int)), (14, .int .i64 ((r : Nat) : Int)), (78, .slice AL row.length cL), (79, .int .i64 ((row.length : Nat) : Int)), (80, .int .i64 ((q : Nat) : Int))]) (fun q w' => Ext X wN w' ∧ q ≤ row.length ∧ ∃ D, J D w' ∧ Cov f (fun u o => ygv f a k x t ws j u o ∨ (u = r ∧ o / 64 < q ∧ PO f k x t r o)) D) (fun q => row.length - q) 0 ⟨rfl, rfl, rfl, rfl, rfl, rfl, rfl, rfl, rfl, rfl, rfl, rfl, rfl, rfl, rfl, rfl, rfl, rfl, rfl, rfl, trivial⟩ (⟨by rw [hwN]; exact Ext.refl _ _, Nat.zero_le _, D3, hJ3, hC5, fun u o h => by rcases h with h | ⟨_, h, _⟩; exact hC6 u o h; omega⟩) ?_)))))
     rintro q w19 ⟨hEq, hqn, D4, hJ4, hC7, hC8⟩;refine srx (za rfl (yy rfl rfl (rnx (zp (zr rfl (fun hq => ?_) (fun hq => ?_))))))
     ·
      have hq := of_decide_eq_true hq;have hqr : q < row.length := by omega
      obtain ⟨x0, hx0⟩ : ∃ x0, row[q]? = some x0 := ⟨_, List.getElem?_eq_getElem hqr⟩;have hx064 := hU.in_ x0 (List.mem_of_getElem? hx0);have hEq2 : Ext X w w19 := hEN.step hEq (fun i h => Or.inl h);obtain ⟨gU, oU, hAU, hgU, hcU⟩ := (hU.low (X := X) ⟨hEq, fun k h => (hX k h).1⟩).cell hx0
      refine zq (zh (zp (yb (srx (mvx rfl (za rfl (zk (j := q) Tryd.underlying55 zax (congrArg (fun z ↦ some (Value.slice z row.length cL)) hAU) rfl rfl hqr (za rfl (zt Tryd.underlying35 rfl rfl hcU ?_)))))))));obtain ⟨wP, hwP⟩ : ∃ wP, wP = w19 := ⟨_, rfl⟩
      have B8p : Blk w19 g8 41 (Value.agg #[.int .i64 x.op, .int .i64 x.d, .int .i64 x.a, .int .i64 x.b, .int .i64 x.t, .int .i64 x.k, .slice B x.l.length cB]).cells := by
       have h1 := hEj;have h2 := hEq;rw [hwM] at h1;rw [hwN] at h2;rw [hwM] at B8m;exact ((B8m.ext h1 hXg8).ext h2 hXg8)
      rw [← hwP] at hEq2 B8p
      refine avx rfl (anx rfl (yb (qu (ι := Nat) (fun xw => [(1, .slice A f.ins.length c), (2, .func (.func fid) #[] caps), (3, .pointer (some ⟨g3, 0, none⟩)), (7, .int .i64 ((a : Nat) : Int)), (8, .pointer (some ⟨g8, 0, none⟩)), (10, .int .i64 ((k : Nat) : Int)), (11, .int .i64 ((t : Nat) : Int)), (19, .slice p.ai f.ins.length p.ci), (20, .int .i64 ((f.ins.length : Nat) : Int)), (21, .int .i64 ((a : Nat) : Int)), (29, .slice A9 (zbk f a x).length c9), (30, .int .i64 (((zbk f a x).length : Nat) : Int)), (31, .int .i64 ((k : Nat) : Int)), (69, .slice A12 ws.length c12), (70, .int .i64 ((ws.length : Nat) : Int)), (71, .int .i64 ((j : Nat) : Int)), (14, .int .i64 ((r : Nat) : Int)), (78, .slice AL row.length cL), (79, .int .i64 ((row.length : Nat) : Int)), (80, .int .i64 ((q : Nat) : Int)), (15, .int .i64 ((q : Nat) : Int)), (16, .int .u64 ((xw : Nat) : Int))]) (fun xw w' => Ext X wP w' ∧ xw < 2 ^ 64 ∧ (∀ i, xw.testBit i = true → x0.testBit i = true) ∧ ∃ D, J D w' ∧ Cov f (PairW f a k x t ws j r q x0 xw) D) (fun xw => xw) x0 ⟨rfl, rfl, rfl, rfl, rfl, rfl, rfl, rfl, rfl, rfl, rfl, rfl, rfl, rfl, rfl, rfl, rfl, rfl, rfl, rfl, rfl, rfl, trivial⟩ (⟨by rw [hwP]; exact Ext.refl _ _, hx064, fun _ h => h, D4, hJ4, hC7, fun u o h => by rcases h with h | h | ⟨_, _, h1, h2, _⟩; exact hC8 u o (Or.inl h); exact hC8 u o (Or.inr h); rw [h1] at h2; cases h2⟩) ?_)))
      rintro xw w21 ⟨hEx, hxw, hsub, D5, hJ5, hC9, hC10⟩;refine zp (srx (mvx rfl (za rfl (vb rfl rfl (rnx (zr rfl (fun hz => ?_) (fun hz => ?_)))))))
      ·
       have hz : xw ≠ 0 := fun e => by subst e; cases hz
       obtain ⟨k1, k2, k3⟩ := tz_spec hz hxw;have hlo := low_out k2 k3;have hEx2 : Ext X w w21 := hEq2.step hEx (fun i h => Or.inl h);have hD5 : DbT w21 := fun j y hy => Low.cell (n := b0) (X := X) ⟨hEx2, fun k h => (hX k h).1⟩ hdb (hD j y hy)
       refine zq (zh (zp (yb (srx (mvx rfl (za rfl (ow_mul rfl rfl (yg (by omega)) (mvx rfl (za rfl (yf en41 rfl ((tz_any _ xw hxw hD5).mono ?_)))))))))));rintro e w22 ⟨rfl, hb⟩;refine ⟨_, rfl, ?_⟩;have e6 := Ext.of_below hb No;have hless : xw &&& (xw - 1) < xw := by
        have := Nat.and_le_right (n := xw) (m := xw - 1);omega
       have hxw2 : xw &&& (xw - 1) < 2 ^ 64 := by omega
       have hsub2 : ∀ i, (xw &&& (xw - 1)).testBit i = true → x0.testBit i = true := fun i hi => by
        rw [hlo i] at hi;exact hsub i (by simp at hi; exact hi.1)
       have hn1 : ke f ≤ 1024 := by unfold ke; omega
       have hrl6 := hr64.1;have B8q := (B8p.ext hEx hXg8).ext e6 (fun h => h.elim)
       refine za rfl (qc rfl rfl (yg (by omega)) (anx rfl (zp (srx (mvx rfl (mvx rfl (za rfl (yn rfl rfl (mvx rfl (qr 17 (.int .i64 ((64 * q + tz xw : Nat) : Int)) rfl ((by rw [Int.natCast_add, Int.natCast_mul]; rfl : (.int .i64 ((64 * ((q : Nat) : Int)) + ((tz xw : Nat) : Int)) : Value) = _)) (yx 99 rfl (fun h1 => ?_) (fun h1 => ?_))))))))))))
       ·
        have h1 : 64 * q + tz xw = r := by have h := h1; simp at h; omega
        have hno : ¬ PO f k x t r (64 * q + tz xw) := fun h => by exact h.2.1 h1
        refine za rfl (zc rfl (za rfl (zc rfl (za rfl (zc rfl (za rfl (zc rfl (za rfl (yp rfl rfl (za rfl (yp rfl rfl (za rfl (zc rfl (za rfl (zc rfl (za rfl (yp rfl rfl (za rfl (yp rfl rfl (za rfl (yp rfl rfl (za rfl (yp rfl rfl (za rfl (zc rfl (za rfl (zx rfl rfl (rnx (yr rfl (qe (zm (ya (zh (zj (mvx rfl (mvx rfl (za rfl (zmk rfl rfl (xd (by omega)) (za rfl (kp rfl rfl (show _ = ((xw &&& (xw - 1) : Nat) : Int) from by rw [show ((xw : Nat) : Int) - 1 = ((xw - 1 : Nat) : Int) by omega]; exact ot hxw (by omega)) (avx rfl (yc ?_))))))))))))))))))))))))))))))))))))))))))
        exact yt (xw &&& (xw - 1)) (hless) ⟨rfl, rfl, rfl, rfl, rfl, rfl, rfl, rfl, rfl, rfl, rfl, rfl, rfl, rfl, rfl, rfl, rfl, rfl, rfl, rfl, rfl, rfl, trivial⟩ (⟨hEx.step e6 (fun _ h => h.elim), hxw2, hsub2, D5, hE.keep _ _ _ _ hJ5 e6 (fun _ h => h.elim), hC9, zfv hC10 (fun _ _ h => h) (fun h => absurd h hno) hlo⟩)
       ·
        have h1 : 64 * q + tz xw ≠ r := by have h := h1; simp at h; omega
        refine onx rfl (zb Tryd.underlying41 rfl sz3 (by decide) rfl (onx rfl (zt Tryd.underlying3 rfl rfl ((B8q.cell 0).trans rfl) ?_)));have hlivo : Liv f t (64 * q + tz xw) := (hL t _).1 (by
         unfold vj gn;rw [List.getD_eq_getElem?_getD (i := t), hrow, Option.getD_some, List.getD_eq_getElem?_getD, show (64 * q + tz xw) / 64 = q by omega, hx0, show (64 * q + tz xw) % 64 = tz xw by omega];exact hsub _ k2)
        have hJ6 := hE.keep _ _ _ _ hJ5 e6 (fun _ h => h.elim);have hEx3 : Ext X w w22 := hEx2.step e6 (fun _ h => h.elim);have hrR : r < f.regs.toNat := by omega
        have hoR : 64 * q + tz xw < f.regs.toNat := by have := (liv_in hs hlivo).2; omega
        refine onx rfl (yn rfl rfl (onx rfl (zl rfl (yx 103 rfl (fun h2 => ?_) (fun h2 => ?_)))))
        ·
         have h2 : x.op = 4 := by simpa using h2
         refine onx rfl (zl rfl (onx rfl (yn rfl rfl (onx rfl (zx rfl rfl (onx rfl (zl rfl (yx 107 rfl (fun h3 => ?_) (fun h3 => ?_)))))))))
         ·
          have h3 : k = 0 := by have h := h3; simp at h; omega
          refine onx rfl (zl rfl (onx rfl (zb Tryd.underlying41 rfl sz3 (by decide) rfl (onx rfl (zt Tryd.underlying3 rfl rfl ((B8q.cell 2).trans rfl) (onx rfl (yn rfl rfl (onx rfl (zx rfl rfl (za rfl (yd rfl rfl (rnx (zr rfl (fun h4 => ?_) (fun h4 => ?_))))))))))))))
          ·
           have h4 : ((64 * q + tz xw : Nat) : Int) = x.a := by have h := h4; simp at h; omega
           have hno : ¬ PO f k x t r (64 * q + tz xw) := fun h => by exact h.2.2 ⟨h2, h3, h4⟩
           refine qe (zm (ya (zh (zj (mvx rfl (mvx rfl (za rfl (zmk rfl rfl (xd (by omega)) (za rfl (kp rfl rfl (show _ = ((xw &&& (xw - 1) : Nat) : Int) from by rw [show ((xw : Nat) : Int) - 1 = ((xw - 1 : Nat) : Int) by omega]; exact ot hxw (by omega)) (avx rfl (yc ?_))))))))))))
           exact yt (xw &&& (xw - 1)) (hless) ⟨rfl, rfl, rfl, rfl, rfl, rfl, rfl, rfl, rfl, rfl, rfl, rfl, rfl, rfl, rfl, rfl, rfl, rfl, rfl, rfl, rfl, rfl, trivial⟩ (⟨hEx.step e6 (fun _ h => h.elim), hxw2, hsub2, D5, hE.keep _ _ _ _ hJ5 e6 (fun _ h => h.elim), hC9, zfv hC10 (fun _ _ h => h) (fun h => absurd h hno) hlo⟩)
          ·
           have h4 : ((64 * q + tz xw : Nat) : Int) ≠ x.a := by have h := h4; simp at h; omega
           have hpo : PO f k x t r (64 * q + tz xw) := ⟨hlivo, h1, by exact fun h => h4 h.2.2⟩;have hmet := yck hx hway (List.mem_of_getElem? hy) hpo;refine zq (zh (srx (mvx rfl (mvx rfl (mvx rfl (za rfl (ydx rfl hown rfl ((hE.call D5 _ r (64 * q + tz xw) hJ6 hEx3 hrR hoR).mono ?_))))))));rintro e wQ ⟨b, rfl, hEQ, hbt, hbf⟩
           refine ⟨_, rfl, (za rfl (jg rfl (rnx (zr rfl (fun h5 => ?_) (fun h5 => ?_)))))⟩
           ·
            have h5 : b = false := by simpa using h5
            refine srx (anx rfl (zv (zi (ze (ze (zi (zi (ze (ze (zi (zi (ze (ze (zi (zi (ze (ze (zi (zi (ze (ze (zi (ze (zu (rs := [.tmp 6]) (vs := [_]) rfl ⟨rfl, trivial⟩ ?_))))))))))))))))))))))))
            exact ⟨hEx3.step hEQ (fun i h => Or.inl h), Or.inr ⟨by rfl, r, _, hmet, hbf h5⟩⟩
           ·
            have h5 : b = true := by simpa using h5
            refine zq (zf (zh (zj (mvx rfl (mvx rfl (za rfl (zmk rfl rfl (xd (by omega)) (za rfl (kp rfl rfl (show _ = ((xw &&& (xw - 1) : Nat) : Int) from by rw [show ((xw : Nat) : Int) - 1 = ((xw - 1 : Nat) : Int) by omega]; exact ot hxw (by omega)) (avx rfl (yc ?_)))))))))))
            exact yt (xw &&& (xw - 1)) (hless) ⟨rfl, rfl, rfl, rfl, rfl, rfl, rfl, rfl, rfl, rfl, rfl, rfl, rfl, rfl, rfl, rfl, rfl, rfl, rfl, rfl, rfl, rfl, trivial⟩ (⟨(hEx.step e6 (fun _ h => h.elim)).step hEQ (fun i h => Or.inl h), hxw2, hsub2, _, hbt h5, fun u o h => h.elim (hC9 u o) (fun h => by obtain ⟨rfl, rfl⟩ := h; exact hmet), zfv hC10 (fun _ _ h => Or.inl h) (fun _ => Or.inr ⟨rfl, rfl⟩) hlo⟩)
         ·
          have h3 : k ≠ 0 := by have h := h3; simp at h; omega
          have hpo : PO f k x t r (64 * q + tz xw) := ⟨hlivo, h1, by exact fun h => h3 h.2.1⟩;have hmet := yck hx hway (List.mem_of_getElem? hy) hpo
          refine za rfl (zc rfl (za rfl (zc rfl (za rfl (zc rfl (za rfl (zc rfl (onx rfl (yd rfl rfl (za rfl (yd rfl rfl (rnx (qp rfl (zq (zh (srx (mvx rfl (mvx rfl (mvx rfl (za rfl (ydx rfl hown rfl ((hE.call D5 _ r (64 * q + tz xw) hJ6 hEx3 hrR hoR).mono ?_))))))))))))))))))))));rintro e wQ ⟨b, rfl, hEQ, hbt, hbf⟩
          refine ⟨_, rfl, (za rfl (jg rfl (rnx (zr rfl (fun h5 => ?_) (fun h5 => ?_)))))⟩
          ·
           have h5 : b = false := by simpa using h5
           refine srx (anx rfl (zv (zi (ze (ze (zi (zi (ze (ze (zi (zi (ze (ze (zi (zi (ze (ze (zi (zi (ze (ze (zi (ze (zu (rs := [.tmp 6]) (vs := [_]) rfl ⟨rfl, trivial⟩ ?_))))))))))))))))))))))))
           exact ⟨hEx3.step hEQ (fun i h => Or.inl h), Or.inr ⟨by rfl, r, _, hmet, hbf h5⟩⟩
          ·
           have h5 : b = true := by simpa using h5
           refine zq (zf (zh (zj (mvx rfl (mvx rfl (za rfl (zmk rfl rfl (xd (by omega)) (za rfl (kp rfl rfl (show _ = ((xw &&& (xw - 1) : Nat) : Int) from by rw [show ((xw : Nat) : Int) - 1 = ((xw - 1 : Nat) : Int) by omega]; exact ot hxw (by omega)) (avx rfl (yc ?_)))))))))))
           exact yt (xw &&& (xw - 1)) (hless) ⟨rfl, rfl, rfl, rfl, rfl, rfl, rfl, rfl, rfl, rfl, rfl, rfl, rfl, rfl, rfl, rfl, rfl, rfl, rfl, rfl, rfl, rfl, trivial⟩ (⟨(hEx.step e6 (fun _ h => h.elim)).step hEQ (fun i h => Or.inl h), hxw2, hsub2, _, hbt h5, fun u o h => h.elim (hC9 u o) (fun h => by obtain ⟨rfl, rfl⟩ := h; exact hmet), zfv hC10 (fun _ _ h => Or.inl h) (fun _ => Or.inr ⟨rfl, rfl⟩) hlo⟩)
        ·
         have h2 : x.op ≠ 4 := by simpa using h2
         have hpo : PO f k x t r (64 * q + tz xw) := ⟨hlivo, h1, by exact fun h => h2 h.1⟩;have hmet := yck hx hway (List.mem_of_getElem? hy) hpo
         refine za rfl (zc rfl (za rfl (zc rfl (onx rfl (yd rfl rfl (onx rfl (zl rfl (za rfl (zc rfl (za rfl (zc rfl (za rfl (zc rfl (za rfl (zc rfl (onx rfl (yd rfl rfl (za rfl (yd rfl rfl (rnx (qp rfl (zq (zh (srx (mvx rfl (mvx rfl (mvx rfl (za rfl (ydx rfl hown rfl ((hE.call D5 _ r (64 * q + tz xw) hJ6 hEx3 hrR hoR).mono ?_))))))))))))))))))))))))))))))
         rintro e wQ ⟨b, rfl, hEQ, hbt, hbf⟩;refine ⟨_, rfl, (za rfl (jg rfl (rnx (zr rfl (fun h5 => ?_) (fun h5 => ?_)))))⟩
         ·
          have h5 : b = false := by simpa using h5
          refine srx (anx rfl (zv (zi (ze (ze (zi (zi (ze (ze (zi (zi (ze (ze (zi (zi (ze (ze (zi (zi (ze (ze (zi (ze (zu (rs := [.tmp 6]) (vs := [_]) rfl ⟨rfl, trivial⟩ ?_))))))))))))))))))))))))
          exact ⟨hEx3.step hEQ (fun i h => Or.inl h), Or.inr ⟨by rfl, r, _, hmet, hbf h5⟩⟩
         ·
          have h5 : b = true := by simpa using h5
          refine zq (zf (zh (zj (mvx rfl (mvx rfl (za rfl (zmk rfl rfl (xd (by omega)) (za rfl (kp rfl rfl (show _ = ((xw &&& (xw - 1) : Nat) : Int) from by rw [show ((xw : Nat) : Int) - 1 = ((xw - 1 : Nat) : Int) by omega]; exact ot hxw (by omega)) (avx rfl (yc ?_)))))))))))
          exact yt (xw &&& (xw - 1)) (hless) ⟨rfl, rfl, rfl, rfl, rfl, rfl, rfl, rfl, rfl, rfl, rfl, rfl, rfl, rfl, rfl, rfl, rfl, rfl, rfl, rfl, rfl, rfl, trivial⟩ (⟨(hEx.step e6 (fun _ h => h.elim)).step hEQ (fun i h => Or.inl h), hxw2, hsub2, _, hbt h5, fun u o h => h.elim (hC9 u o) (fun h => by obtain ⟨rfl, rfl⟩ := h; exact hmet), zfv hC10 (fun _ _ h => Or.inl h) (fun _ => Or.inr ⟨rfl, rfl⟩) hlo⟩)
      ·
       have hz : xw = 0 := by have h := hz; simp at h; omega
       rw [hz] at hC10;have hEqx : Ext X wN w21 := by rw [hwP] at hEx; exact hEq.step hEx (fun i h => Or.inl h)
       refine qe (zm (zm (ya (zf (zh (zj (za rfl (qc rfl rfl (yg (by omega)) (mvx rfl (yc ?_))))))))))
       exact yt (q + 1) (by show row.length - (q + 1) < row.length - q; omega) ⟨rfl, rfl, rfl, rfl, rfl, rfl, rfl, rfl, rfl, rfl, rfl, rfl, rfl, rfl, rfl, rfl, rfl, rfl, rfl, rfl, trivial⟩ (⟨hEqx, hqr, D5, hJ5, hC9, fun u o h => hC10 u o (pairW_done (n := 0) hrow hx0 (fun o h => (hL t o).2 h) h)⟩)
     ·
      have hq := of_decide_eq_false hq;have hqe : q = row.length := by omega
      have hjE : Ext X wM w19 := by rw [hwN] at hEq; exact hEj.step hEq (fun i h => Or.inl h)
      refine qe (zm (zm (ya (zf (zh (zj (za rfl (qc rfl rfl (yg (by omega)) (mvx rfl (yc ?_))))))))))
      exact yt (j + 1) (by show ws.length - (j + 1) < ws.length - j; omega) ⟨rfl, rfl, rfl, rfl, rfl, rfl, rfl, rfl, rfl, rfl, rfl, rfl, rfl, rfl, rfl, rfl, trivial⟩ (⟨hjE, hjw, D4, hJ4, hC7, fun u o h => hC8 u o (pairS_next hy (fun o ho => by have h1 := (hL t o).2 ho; have h2 := bitW_row hrow hr64 h1; rw [hqe, hr64.1]; omega) h)⟩)
    ·
     have hj := of_decide_eq_false hj;have hje : j = ws.length := by omega
     have hkE : Ext X wD w17 := by rw [hwM] at hEj; exact (hEk.step (by rw [hwM] at hEm; exact hEm) (fun i h => Or.inl h)).step hEj (fun i h => Or.inl h)
     refine qe (zm (zm (ya (zf (zh (zj (za rfl (qc rfl rfl (yg (by omega)) (mvx rfl (yc ?_))))))))))
     exact yt (k + 1) (by show (zbk f a x).length - (k + 1) < (zbk f a x).length - k; omega) ⟨rfl, rfl, rfl, rfl, rfl, rfl, rfl, rfl, rfl, rfl, rfl, trivial⟩ (⟨hkE, hkn, D3, hJ3, hC5, fun u o h => hC6 u o (by rw [hje]; exact pairS_done hway h)⟩)
  ·
   have hk := of_decide_eq_false hk;have hke : k = (zbk f a x).length := by omega
   refine qe (zm (zm (ya (zf (zh (zj (za rfl (qc rfl rfl (yg (by omega)) (mvx rfl (yc ?_))))))))))
   exact yt (a + 1) (by show f.ins.length - (a + 1) < f.ins.length - a; omega) ⟨rfl, rfl, rfl, rfl, rfl, rfl, trivial⟩ (⟨hE9.step hEk (fun i h => Or.inl h), han, D2, hJ2, hC3, fun r o h => by obtain ⟨b, hb1, hb2⟩ := h; exact hC4 r o (met_next hx (by omega) hb1 hb2)⟩)
 ·
  have ha := of_decide_eq_false ha;have hae : a = f.ins.length := by omega
  refine qe (zm (zm (ya (zh (srx (anx rfl (zv (zu (rs := [.tmp 6]) (vs := [_]) rfl ⟨rfl, trivial⟩ ?_))))))));exact ⟨hEA.step hEa (fun i h => Or.inl h), Or.inl ⟨rfl, D, fun r o => ⟨hC1 r o, fun h => hC2 r o (by rw [hae]; exact met_iff.1 h)⟩, hJ⟩⟩
end
end Go.Proofs.YtppdgjlmeahimaaDoor

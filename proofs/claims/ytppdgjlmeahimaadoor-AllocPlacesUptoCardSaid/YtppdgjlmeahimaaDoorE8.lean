/- Texts of this claim. -/
import Derived.Test.YtppdgjlmeahimaaDoorE7
import Derived.Test.YtppdgjlmeahimaaDoorProg
import Derived.Lib.ConvBytes
import Derived.Lib.SmallJoins
namespace Go.Proofs.YtppdgjlmeahimaaDoor
open Go.RowKit
set_option maxRecDepth 100000
def LoopW (P : Program) (c : Code) (Q : Exit → Act → World → Prop) (a : Act) (w : World) : Prop := ∀ b k cs, ∃ e a' w', Q e a' w' ∧ Arrives P (lone (b.at a (.inLoop c :: k)) cs w) b k cs e a' w'
theorem loopW_of {P : Program} {c : Code} {Q : Exit → Act → World → Prop} {a : Act} {w : World} (h : c.wp P (Exit.then (LoopW P c Q) Q) a w) (b : Frame) (k : List Item) (cs : List Frame) :
 ∃ e a' w', Q e a' w' ∧ Arrives P (lone (b.at a (.code c :: .inLoop c :: k)) cs w) b k cs e a' w' := by
 obtain ⟨e, a₁, w₁, hq, harr⟩ := h b (.inLoop c :: k) cs;cases e with
 | normal =>
  obtain ⟨e₂, a₂, w₂, hq₂, harr₂⟩ := hq b k cs;exact ⟨e₂, a₂, w₂, hq₂, .of_steps harr harr₂⟩
 | exit id => exact ⟨_, a₁, w₁, hq, .pass (x := .inLoop c) rfl (fun _ _ => .inl (by simp)) harr⟩
 | goto l => exact ⟨_, a₁, w₁, hq, .pass (x := .inLoop c) rfl (fun _ _ => .inl (by simp)) harr⟩
 | ret => exact ⟨_, a₁, w₁, hq, .pass (x := .inLoop c) rfl (fun _ _ => .inl (by simp)) harr⟩
 | panic ch => exact ⟨_, a₁, w₁, hq, .pass (x := .inLoop c) rfl (fun _ _ => .inl (by simp)) harr⟩
 | outgrown => exact ⟨_, a₁, w₁, hq, .pass (x := .inLoop c) rfl (fun _ _ => .inl (by simp)) harr⟩
section
variable {P : Program} {N : Nat} {ops : Array Oper} {Q : Exit → Act → World → Prop} {σ : Env} {w : World} {ty : TypeId} {pos : String} {af : Array Edge} {dst : Option Nat} {Post : Value → World → Prop}
theorem yeq {c : Code} (h : CW P N c (Exit.then (LoopW P c Q) Q) σ w) : CW P N (.loop c) Q σ w := fun a ha b k cs => by
 obtain ⟨e, a', w', hq, harr⟩ := loopW_of (h a ha) b k cs;exact ⟨e, a', w', hq, .of_steps (.one step_loop) harr⟩
theorem zlq {c : Code} (h : CW P N c (Exit.then (LoopW P c Q) Q) σ w) : EW N (Exit.then (LoopW P c Q) Q) .normal σ w := fun a ha b k cs => by
 obtain ⟨e, a', w', hq, harr⟩ := loopW_of (h a ha) b k cs;exact ⟨e, a', w', hq, .of_steps (.one step_inLoop) harr⟩
/-! ### floating-point numbers -/
/-! ### functions that the model gives itself -/
def fround (way : Ieee.Toward) (b : Nat) : Nat := FloatKind.f64.encode ((FloatKind.f64.decode b).integral way)
/-! ### strings that are written out -/
theorem ow_indexAddrG {x i : Operand} {T e : TypeId} {g o n s : Nat} {q : IntKind} {m : Int} {j : Nat} (hd : P.underlying T = some (.array n e)) (hs : vc P e s) (hx : ev σ x = some (.pointer (some ⟨g, o, none⟩))) (hi : ev σ i = some (.int q m)) (hm : m = (j : Int)) (hj : j < n)
 (k : Post (.pointer (some ⟨g, o + j * s, none⟩)) w) : OW P N ops Q ⟨dst, .indexAddr T x i, ty, pos, af, none⟩ σ w Post :=
 ve (fun ρ ha => by
  subst hm;have h1 : ¬ n ≤ j := by omega
  simp [execOp, ha hx, ha hi, Instr.indexAt, Instr.sureAddr, asIntOf, run_underlying hd, ka hs, h1, hj, Addr.add_eq, go_sem]) k
/-! ### an error that is none -/
def RowL (w : World) (g : Nat) (xs : List Value) : Prop := ∀ j v, xs[j]? = some v → w.cell? ⟨g, j, none⟩ = some v
end
abbrev Gives (f : FuncId) (args : Array Value) (v : Value) : Prop := ∀ w, Calls Tryd.prog f args w fun e w' => e = .returned v ∧ Below w.heap.size w w'
section
variable {P : Program} {N : Nat} {Q : Exit → Act → World → Prop} {σ : Env} {w : World} {l : List Oper}
def trL (k n : Nat) : Array Bool := (List.replicate k true ++ List.replicate (n - k) false).toArray
def AK (P : Program) (N k : Nat) (l : List Oper) (Q : Exit → Act → World → Prop) (σ : Env) (w : World) : Prop := ∀ a, At N σ a → wpAny P .any l.toArray Q (l.length - k) (trL k l.length) a w
theorem kr {id : Nat} (hm : P.follows .mixedOrders = true) (h : AK P N 0 l Q σ w.drew) : CW P N (.region id l.toArray true) Q σ w := fun a ha => by
 refine wp_region_any hm ?_;have := h a ha;unfold trL at this;simpa using this
theorem trL_get {k n j : Nat} {d : Bool} (hj : j < n) (hk : k ≤ n) : (trL k n).getD j d = decide (j < k) := by
 unfold trL;by_cases h : j < k
 · simp [Array.getD_eq_getD_getElem?, List.getElem?_append, h]
 · have h2 : j - k < n - k := by omega
   simp [Array.getD_eq_getD_getElem?, List.getElem?_append, h, List.getElem?_replicate, h2]
theorem trL_set {k n : Nat} (h : k < n) : (trL k n).setIfInBounds k true = trL (k + 1) n := by
 unfold trL;apply Array.toList_inj.1
 rw [Array.toList_setIfInBounds];have e : n - k = (n - (k + 1)) + 1 := by omega
 rw [e, List.replicate_succ, List.replicate_succ', List.append_assoc];simp
def quiet (o : Oper) : Bool := match o.guard with
 | some _ => false
 | none => match o.op with
  | .move _ => true
  | .assign _ => true
  | .extract _ _ => true
  | _ => false
theorem quiet_yields {ops : Array Oper} {o : Oper} {a : Act} {w : World} {K : Act → World → Prop} (hq : quiet o = true) (h : o.wp P a w K Q ∨ (o.asks P a w ∧ LetsOut Q)) : ∃ v, Yields P ops o v a ∧ K (a.put o.dst v) w := by
 obtain ⟨dst, op, type, pos, after, guard⟩ := o;cases guard with
 | some g => simp [quiet] at hq
 | none =>
  cases op <;> first | (simp [quiet] at hq; done) | skip
  case move x =>
   refine ⟨a.eval x, .inl ⟨by simp [Region.wanted], fun w => by simp [execOp, go_sem]⟩, ?_⟩;rcases h with h | ⟨h, _⟩
   · simpa [Oper.wp, execOp, go_sem, Oper.upon] using h
   · exact absurd h (by simp [Oper.asks, execOp, Sem.runT, Sem.events, pure, bind])
  case assign x =>
   refine ⟨a.eval x, .inl ⟨by simp [Region.wanted], fun w => by simp [execOp, go_sem]⟩, ?_⟩;rcases h with h | ⟨h, _⟩
   · simpa [Oper.wp, execOp, go_sem, Oper.upon] using h
   · exact absurd h (by simp [Oper.asks, execOp, Sem.runT, Sem.events, pure, bind])
  case extract x i =>
   rcases h with h | ⟨h, _⟩
   · unfold Oper.wp at h;simp only [execOp, Instr.extract] at h
     split at h
     · rename_i vs hx
       split at h
       · rename_i v hv
         refine ⟨v, .inl ⟨by simp [Region.wanted], fun w => by simp only [execOp, hx, Instr.extract, hv]; rfl⟩, ?_⟩;simpa [go_sem, Oper.upon] using h
       · simp [go_sem, Oper.upon, stuck] at h
     · simp [go_sem, Oper.upon, stuck] at h
   · exfalso
     unfold Oper.asks at h;simp only [execOp, Instr.extract] at h
     split at h
     · split at h
       · simp [Sem.runT, Sem.events, Sem.bind, pure, bind] at h
       · simp [Sem.runT, Sem.events, Sem.bind, pure, bind, stuck] at h
     · simp [Sem.runT, Sem.events, Sem.bind, pure, bind, stuck] at h
def yhz (l : List Oper) : Nat → Nat → Bool
 | _, 0 => true
 | k, m + 1 => (match Region.ready .any l.toArray (trL k l.length) with
  | [] => false
  | [j] => Nat.beq j k
  | r => memN k r && (match l.toArray[k]? with
   | some o => quiet o
   | none => false) && Region.free .any l.toArray (trL k l.length) k) && yhz l (k + 1) m
theorem any_of_list (hn : Region.noSelect l.toArray = true) (hQ : ∀ c (a : Act) d v w, Q (.panic c) (a.put d v) w → Q (.panic c) a w) :
 ∀ (m k : Nat), k + m = l.length → yhz l k m = true → ∀ a w, wpList P l.toArray Q (l.drop k) a w → wpAny P .any l.toArray Q m (trL k l.length) a w := by
 intro m;induction m with
 | zero =>
  intro k hk _ a w h;have hk : k = l.length := by omega
  subst hk;rw [List.drop_length] at h;refine ⟨List.eq_nil_iff_forall_not_mem.2 fun j hj => ?_, h⟩;obtain ⟨h0, o, ho, _⟩ := mem_ready.1 hj;have hlt : j < l.length := by simpa using (Array.getElem?_eq_some_iff.1 ho).1
  rw [trL_get hlt (Nat.le_refl _)] at h0;simp [hlt] at h0
 | succ m ih =>
  intro k hk hs a w h;have hkl : k < l.length := by omega
  simp only [yhz, Bool.and_eq_true] at hs
  rw [List.drop_eq_getElem_cons hkl] at h;have hok : l.toArray[k]? = some l[k] := by simp [hkl]
  have hnext := fun a w h => ih (k + 1) (by omega) hs.2 a w h;rw [← trL_set hkl] at hnext;have hone : wpOp P l.toArray Q k (wpAny P .any l.toArray Q m ((trL k l.length).setIfInBounds k true)) a w := by
   unfold wpOp;rw [hok];simp only []
   unfold wpList at h;split
   · rename_i hw
     rw [if_pos hw] at h;exact h.imp (Oper.wp_mono hnext) id
   · rename_i hw
     rw [if_neg hw] at h;exact hnext _ _ h
  have h1 := hs.1;split at h1
  · cases h1
  · rename_i j hr
    have hj : j = k := Nat.eq_of_beq_eq_true h1;subst hj;exact wpAny_all hr (by simp) fun i hi => by rw [List.mem_singleton.1 hi]; exact hone
  · rename_i hr hr1
    rw [hok] at h1;simp only [Bool.and_eq_true] at h1
    have hq := h1.1.2;unfold wpList at h;have hg : Region.wanted l[k] (yielded l.toArray a.tmps) = true := by
     unfold quiet at hq;split at hq
     · cases hq
     · rename_i hg; simp [Region.wanted, hg]
    rw [if_pos hg] at h;obtain ⟨v, hy, hv⟩ := quiet_yields (ops := l.toArray) hq h;exact wpAny_take hok hn h1.2 (by simpa using gk.1 h1.1.1) (fun c a w h => hQ c a _ _ w h) hy (hnext _ _ hv)
theorem ji {k : Nat} (hs : (yhz l k (l.length - k) && Region.noSelect l.toArray && Nat.ble k l.length) = true) (hQ : ∀ c (a : Act) d v w, Q (.panic c) (a.put d v) w → Q (.panic c) a w)
 (h : RS P N l.toArray Q (l.drop k) σ w) : AK P N k l Q σ w := fun a ha => by
 simp only [Bool.and_eq_true] at hs
 have := Nat.le_of_ble_eq_true hs.2;exact any_of_list hs.1.2 hQ _ k (by omega) hs.1.1 a w (h a ha)
def covers (ops : Array Oper) : Nat → List Nat → Bool
 | 0, _ => true
 | j + 1, S => memN j S && covers ops j (S ++ vf ops j)
def zrk (l : List Oper) (m : Nat) : Bool := Nat.ble m l.length && zdv 0 (l.take m) [] && ((l.take m).all fun o => match o.guard with
 | some (g, _) => Nat.blt g m
 | none => true) && (List.range (l.length - m)).all fun t => (vf l.toArray (m + t)).any (fun d => Nat.ble m d) || covers l.toArray m (vf l.toArray (m + t))
theorem covers_all {ops : Array Oper} {L : Nat → Prop} (hd : ∀ i, L i → ∀ j ∈ vf ops i, L j) : ∀ (m : Nat) (S : List Nat), covers ops m S = true → (∀ j ∈ S, L j) → ∀ j, j < m → L j := by
 intro m;induction m with
 | zero => intro S _ _ j hj; omega
 | succ m ih =>
  intro S hc hS j hj;simp only [covers, Bool.and_eq_true] at hc
  have hm := hS m (gk.1 hc.1);rcases Nat.lt_or_ge j m with h | h
  · refine ih _ hc.2 (fun j hj => ?_) j h;rcases List.mem_append.1 hj with h | h
    · exact hS j h
    · exact hd m hm j h
  · have : j = m := by omega
    subst this; exact hm
theorem upon_then {o : Oper} {a : Act} {K K' Z : Act → World → Prop} (h : ∀ a w, K a w → K' a w) : ∀ {r : Result Next}, o.upon P a K (Exit.then Z Q) r → o.upon P a K' Q r := by
 intro r hh;cases r with
 | ok n w' =>
  cases n <;> simp only [Oper.upon] at hh ⊢ <;>
   first
    | exact h _ _ hh
    | exact Calls.mono hh (fun e w'' he => by cases e <;> first | exact h _ _ he | exact he)
    | exact Rows.mono hh (fun _ _ he => h _ _ he)
    | exact hh
 | halt x w' => cases x <;> simp only [Oper.upon] at hh ⊢ <;> exact hh
end
section
variable {P : Program} {N : Nat} {Q : Exit → Act → World → Prop} {σ : Env} {l : List Oper}
theorem vv {w : World} (Y : Nat → Prop) (hY : ∀ k, Y k → k < w.heap.size) (bs : List Bx) (os : List Ox) (F : Nat → Fx) (hok : (zdv 0 l [] && bxOK bs && bxWF l bs bs && dstOK N l && oxOK bs os) = true) (hos : zpx Y w os) (hin : ∀ o ∈ os, l[o.st]? ≠ none)
 (hsteps : ybz P N l.toArray Q σ bs os F w 0 l)
 (hend : ∀ vs w', Ext (Mut (znx os)) w w' → AllOut σ l.toArray vs w' os → zpz Y bs F vs w' 0 l → zlv P σ l.toArray vs w w' bs → zsk vs bs → EW N Q .normal (envEnd σ l vs) w') : AK P N 0 l Q σ w := by
 simp only [Bool.and_eq_true] at hok
 obtain ⟨⟨⟨⟨hrow, hbx⟩, hwf⟩, hdl⟩, hox⟩ := hok;have hoat : ∀ {r : List Ox}, zpx Y w r → ∀ o ∈ r, Y o.g ∧ Blk w o.g o.T o.cs := by
  intro r;induction r with
  | nil => intro _ o ho; cases ho
  | cons x r ih =>
   intro h o ho;rcases List.mem_cons.1 ho with rfl | ho
   · exact ⟨h.1.1, h.1.2.1⟩
   · exact ih h.2 o ho
 have hopw : ∀ {r : List Ox}, zpx Y w r → oxOK bs r = true → ∀ a ∈ r, ∀ b ∈ r, a ≠ b → a.g ≠ b.g ∧ a.st ≠ b.st := by
  intro r;induction r with
  | nil => intro _ _ a ha; cases ha
  | cons x r ih =>
   intro h hk a ha b hb hab;simp only [oxOK, Bool.and_eq_true, List.all_eq_true, Bool.not_eq_true'] at hk
   rcases List.mem_cons.1 ha with rfl | ha'
   · rcases List.mem_cons.1 hb with rfl | hb'
     · exact absurd rfl hab
     · exact ⟨h.1.2.2 b hb', fun e => by have := hk.1.2 b hb'; rw [e] at this; simp at this⟩
   · rcases List.mem_cons.1 hb with rfl | hb'
     · exact ⟨fun e => h.1.2.2 a ha' e.symm, fun e => by have := hk.1.2 a ha'; rw [e] at this; simp at this⟩
     · exact ih h.2 hk.2 a ha' b hb' hab
 have hos1 : ∀ {r : List Ox}, oxOK bs r = true → ∀ o ∈ r, oo bs o.st = none ∧ xh bs o.st = none := by
  intro r;induction r with
  | nil => intro _ o ho; cases ho
  | cons x r ih =>
   intro hk o ho;simp only [oxOK, Bool.and_eq_true] at hk
   rcases List.mem_cons.1 ho with rfl | ho
   · exact ⟨by simpa using hk.1.1.1, by simpa using hk.1.1.2⟩
   · exact ih hk.2 o ho
 intro a ha;rw [show trL 0 l.length = Array.replicate l.toArray.size false by simp [trL]];have m0 : Mid P N Y l σ w bs os F (Array.replicate l.toArray.size false) a w (fun _ => undef) Y := by
  have hno : ∀ i, ¬ Ran (Array.replicate l.toArray.size false) i := fun i h => by
   unfold Ran at h;by_cases hi : i < l.length <;> simp [hi] at h
  exact ⟨by simp, ha.defers, ha.size, fun t v h => ha.get t v (znv h).1, fun i d h => absurd h (hno i), fun i d v _ _ h => ha.get d v h, fun i h => absurd h (hno i), Ext.refl _ _, hY, fun _ h => h, hY,
   fun i h => absurd h (hno i), fun b _ h => absurd h (hno _), fun o ho => ⟨fun _ => (hoat hos o ho).2, fun h => absurd h (hno _)⟩, fun o ho => (hoat hos o ho).1, fun b _ c _ h => absurd h (hno _)⟩
 refine wpAny_mid (l := l) hrow hbx hwf (yaz hdl) (fun o ho h => by rw [(hos1 hox o ho).1] at h; cases h) (fun o ho h => by rw [(hos1 hox o ho).2] at h; cases h) (hopw hos hox) hsteps ?_ _ _ _ _ _ _ ?_ m0
 · intro listed a w' vs X hall m;have hlen : ∀ i (o : Oper), l[i]? = some o → Ran listed i := fun i o h => hall i (List.getElem?_eq_some_iff.1 h).1;refine hend vs w' m.ext ?_ ?_ ?_ ?_ a ?_
   · have hst : ∀ o ∈ os, l[o.st]? ≠ none → Ran listed o.st := fun o _ h => hall _ (by
      rcases Nat.lt_or_ge o.st l.length with h1 | h1
      · exact h1
      · exact absurd (List.getElem?_eq_none h1) h)
     have key : ∀ r : List Ox, (∀ b ∈ r, b ∈ os) → AllOut σ l.toArray vs w' r := by
      intro r;induction r with
      | nil => intro _; trivial
      | cons b r ih =>
       intro hr;refine ⟨?_, ih fun c hc => hr c (List.mem_cons.2 (Or.inr hc))⟩;have hb := hr b (List.mem_cons.2 (Or.inl rfl));exact (m.outs b hb).2 (hst b hb (hin b hb))
     exact key os (fun _ h => h)
   · have key : ∀ (r : List Oper) (k : Nat), (∀ (i : Nat) (o : Oper), r[i]? = some o → l[k + i]? = some o) → zpz Y bs F vs w' k r := by
      intro r;induction r with
      | nil => intro k _; trivial
      | cons o r ih =>
       intro k hk;refine ⟨?_, ih (k + 1) (fun i o' h => by have := hk (i + 1) o' (by simpa using h); rwa [show k + (i + 1) = k + 1 + i by omega] at this)⟩;split
       · rename_i hb hf
         exact (m.facts k (hlen k o (by simpa using hk 0 o rfl)) hb hf).less m.outer
       · trivial
     exact key l 0 (fun i o h => by simpa using h)
   · have key : ∀ r : List Bx, (∀ b ∈ r, b ∈ bs) → zlv P σ l.toArray vs w w' r := by
      intro r;induction r with
      | nil => intro _; trivial
      | cons b r ih =>
       intro hr;refine ⟨?_, ih fun c hc => hr c (List.mem_cons.2 (Or.inr hc))⟩;have hb := hr b (List.mem_cons.2 (Or.inl rfl));obtain ⟨w1, w2⟩ := ztv hwf hb;have hst : Ran listed b.st := by
        unfold vf at w1;split at w1
        · rename_i o ho; exact hlen b.st o (by simpa using ho)
        · cases w1
       obtain ⟨g, cs, h1, h2, h20, h3, _, h5⟩ := m.boxes b hb (m.down _ hst _ w1);obtain ⟨v, y, rfl, h6, h7⟩ := h5 hst;exact ⟨g, v, y, h1, h20, h3, h6, h7⟩
     exact key bs (fun _ h => h)
   · have key : ∀ r : List Bx, (∀ b ∈ r, b ∈ bs) → bxOK r = true → zsk vs r := by
      intro r;induction r with
      | nil => intro _ _; trivial
      | cons b r ih =>
       intro hr hok;have hok' := hok;simp only [bxOK, Bool.and_eq_true, List.all_eq_true, Bool.not_eq_true'] at hok
       refine ⟨fun c hc => ?_, ih (fun c hc => hr c (List.mem_cons.2 (Or.inr hc))) hok.2⟩;have hb := hr b (List.mem_cons.2 (Or.inl rfl));have hc' := hr c (List.mem_cons.2 (Or.inr hc));have hran : ∀ b ∈ bs, Ran listed b.at_ := by
        intro b hb;obtain ⟨w1, w2⟩ := ztv hwf hb;have hst : Ran listed b.st := by
         unfold vf at w1;split at w1
         · rename_i o ho; exact hlen b.st o (by simpa using ho)
         · cases w1
        exact m.down _ hst _ w1
       refine m.apart b hb c hc' (hran b hb) (hran c hc') (fun e => ?_);have := (hok.1 c hc).1;rw [e] at this;simp at this
     exact key bs (fun _ h => h) hbx
   · refine ⟨m.defers, m.tmps, fun t v h => ?_⟩;rcases oe h with h | h
     · obtain ⟨j, _, hjd, rfl⟩ := znk h;obtain ⟨o, ho, _⟩ := zqv hjd;exact m.ran j t (hlen j o ho) hjd
     · exact m.kept t v h
 · simp
end
section
variable {P : Program} {N : Nat} {Q : Exit → Act → World → Prop} {σ : Env} {w : World} {l : List Oper}
theorem any_prefix {m : Nat} (hg : zrk l m = true) : ∀ (f : Nat) (ls : List Bool) (a : Act) (w : World), ls.length = m → ls.count false = f →
 (∀ i, Ran ls.toArray i → ∀ j ∈ vf l.toArray i, Ran ls.toArray j) →
 wpAny P .any (l.take m).toArray (Exit.then (fun a w => wpAny P .any l.toArray Q (l.length - m) (trL m l.length) a w) Q) f ls.toArray a w →
 wpAny P .any l.toArray Q (f + (l.length - m)) (ls ++ List.replicate (l.length - m) false).toArray a w := by
 unfold zrk at hg;simp only [Bool.and_eq_true] at hg
 obtain ⟨⟨⟨hml, hrow⟩, hgd⟩, hcov⟩ := hg;have hml := Nat.le_of_ble_eq_true hml;have htk : ∀ i, i < m → (l.take m).toArray[i]? = l.toArray[i]? := fun i hi => by simp [List.getElem?_take, hi]
 have hget : ∀ (ls : List Bool) (i : Nat) (d : Bool), ls.length = m → i < m → (ls ++ List.replicate (l.length - m) false).toArray.getD i d = ls.toArray.getD i d := by
  intro ls i d hl hi;simp [Array.getD_eq_getD_getElem?, List.getElem?_append, hl, hi]
 have hget2 : ∀ (ls : List Bool) (i : Nat), ls.length = m → m ≤ i → (ls ++ List.replicate (l.length - m) false).toArray.getD i false = false := by
  intro ls i hl hi;have hni : ¬ i < m := by omega
  simp only [Array.getD_eq_getD_getElem?, List.getElem?_toArray, List.getElem?_append, hl, hni, if_false, List.getElem?_replicate]
  split <;> rfl
 have hfull : ∀ ls : List Bool, ls.length = m → (∀ i, i < m → Ran ls.toArray i) → ls.count false = 0 := by
  intro ls hl h;refine List.count_eq_zero.2 fun hf => ?_;obtain ⟨i, hi, he⟩ := List.getElem_of_mem hf;have := h i (by omega);unfold Ran at this;simp [hi, he] at this
 intro f;induction f with
 | zero =>
  intro ls a w hl hc hd h;have hall : ls = List.replicate m true := by
   refine List.eq_replicate_iff.2 ⟨hl, fun b hb => ?_⟩;cases b with
   | true => rfl
   | false => exact absurd hb (List.count_eq_zero.1 hc)
  have h2 := h.2;rw [Nat.zero_add, hall];exact h2
 | succ f ih =>
  intro ls a w hl hc hd h;rw [Nat.succ_add];refine ⟨fun hr => ?_, fun i hi => ?_⟩
  · exfalso
    have hall : ∀ i, i < m → Ran ls.toArray i := by
     intro i;induction i using Nat.strongRecOn with
     | _ i ihi =>
      intro him;rcases Classical.em (Ran ls.toArray i) with h' | h'
      · exact h'
      · exfalso
        have : i ∈ Region.ready .any l.toArray (ls ++ List.replicate (l.length - m) false).toArray := by
         have hil : i < l.length := by omega
         refine mem_ready.2 ⟨?_, l[i], by simp [hil], fun e he hb => ?_⟩
         · rw [hget ls i true hl him];unfold Ran at h';have : i < ls.length := by omega
           simp [this] at h' ⊢
           exact h'
         · have hlt := (kw hrow (i := i) (o := l[i]) (by simp [List.getElem?_take, him, hil])).1 e.on (kh (by simpa using he) hb);have hei : e.on < i := by omega
           rw [hget ls e.on false hl (by omega)];exact ihi e.on hei (by omega)
        rw [hr] at this;cases this
    have := hfull ls hl hall;omega
  · obtain ⟨h0, o, ho, hdep⟩ := mem_ready.1 hi;rcases Nat.lt_or_ge i m with him | him
    · have hdl : ∀ j ∈ vf l.toArray i, Ran ls.toArray j := by
       intro j hj;have ho' : l[i]? = some o := by simpa using ho
       unfold vf at hj;rw [ho] at hj;obtain ⟨e, he, hb, rfl⟩ := kq hj;have hlt := (kw hrow (i := i) (o := o) (by simp [List.getElem?_take, him, ho'])).1 e.on (kh he hb);have := hdep e (by simpa using he) hb;rwa [hget ls e.on false hl (by omega)] at this
      rw [hget ls i true hl him] at h0;have hi1 : i ∈ Region.ready .any (l.take m).toArray ls.toArray := by
       refine mem_ready.2 ⟨h0, o, by rw [htk i him]; exact ho, fun e he hb => ?_⟩;refine hdl e.on ?_;unfold vf;rw [ho];exact kh (by simpa using he) hb
      have h1 := h.2 i hi1;have hset : ((ls ++ List.replicate (l.length - m) false).toArray.setIfInBounds i true) = (ls.set i true ++ List.replicate (l.length - m) false).toArray := by
       apply Array.toList_inj.1
       rw [Array.toList_setIfInBounds];simp [List.set_append, hl, him]
      have hset1 : ls.toArray.setIfInBounds i true = (ls.set i true).toArray := by
       apply Array.toList_inj.1
       rw [Array.toList_setIfInBounds]
      rw [hset1] at h1;rw [hset];have hlsi : ls[i]? = some false := by
       have hil : i < ls.length := by omega
       have e : ls[i] = false := by simpa [hil] using h0
       simp [hil, e]
      have hK : ∀ a w, wpAny P .any (l.take m).toArray (Exit.then (fun a w => wpAny P .any l.toArray Q (l.length - m) (trL m l.length) a w) Q) f (ls.set i true).toArray a w →
       wpAny P .any l.toArray Q (f + (l.length - m)) (ls.set i true ++ List.replicate (l.length - m) false).toArray a w := by
       intro a w h;refine ih (ls.set i true) a w (by simpa using hl) (by have := zev ls i hlsi; omega) ?_ h;have hup : ∀ j, Ran ls.toArray j → Ran (ls.set i true).toArray j := by
        intro j hj;unfold Ran at hj ⊢;rw [← hset1];exact getD_set_true hj
       intro j hj k hk;rcases Classical.em (j = i) with rfl | hji
       · exact hup k (hdl k hk)
       · refine hup k (hd j ?_ k hk);unfold Ran at hj ⊢;rw [← hset1, getD_set_ne false (Ne.symm hji)] at hj;exact hj
      unfold wpOp at h1 ⊢;rw [htk i him, ho] at h1;rw [ho];simp only [] at h1 ⊢
      have hy : Region.wanted o (yielded (l.take m).toArray a.tmps) = Region.wanted o (yielded l.toArray a.tmps) := by
       unfold Region.wanted;cases hgo : o.guard with
       | none => rfl
       | some gw =>
        obtain ⟨g, want⟩ := gw;have hmem : o ∈ l.take m := by
         have ho' : l[i]? = some o := by simpa using ho
         exact List.mem_of_getElem? (i := i) (by simp [List.getElem?_take, him, ho'])
        have := (List.all_eq_true.1 hgd) o hmem;rw [hgo] at this;have hgm : g < m := Nat.le_of_ble_eq_true this;simp only [yielded, htk g hgm]
      rw [← hy];split
      · rename_i hw
        rw [if_pos hw] at h1;rcases h1 with h1 | ⟨h1, h2⟩
        · exact .inl (upon_then hK h1)
        · exact .inr ⟨h1, h2⟩
      · rename_i hw
        rw [if_neg hw] at h1;exact hK _ _ h1
    · exfalso
      have hil : i < l.length := by simpa using (Array.getElem?_eq_some_iff.1 ho).1
      have hdl : ∀ j ∈ vf l.toArray i, (ls ++ List.replicate (l.length - m) false).toArray.getD j false = true := by
       intro j hj;unfold vf at hj;rw [ho] at hj;obtain ⟨e, he, hb, rfl⟩ := kq hj;exact hdep e (by simpa using he) hb
      have hc2 := (List.all_eq_true.1 hcov) (i - m) (List.mem_range.2 (by omega));rw [show m + (i - m) = i by omega, Bool.or_eq_true] at hc2;rcases hc2 with hc2 | hc2
      · obtain ⟨j, hj, hmj⟩ := List.any_eq_true.1 hc2;have := hdl j hj;rw [hget2 ls j hl (Nat.le_of_ble_eq_true hmj)] at this;cases this
      · have hall := covers_all (L := fun j => (Ran ls.toArray j)) hd m _ hc2 (fun j hj => by
         have := hdl j hj;rcases Nat.lt_or_ge j m with h' | h'
         · rwa [hget ls j false hl h'] at this
         · rw [hget2 ls j hl h'] at this; cases this)
        have := hfull ls hl hall;omega
theorem kt (m : Nat) (hg : zrk l m = true) (h : AK P N 0 (l.take m) (Exit.then (fun a w => wpAny P .any l.toArray Q (l.length - m) (trL m l.length) a w) Q) σ w) : AK P N 0 l Q σ w := fun a ha => by
 have hml : m ≤ l.length := by
  unfold zrk at hg;simp only [Bool.and_eq_true] at hg
  exact Nat.le_of_ble_eq_true hg.1.1.1
 have hlen : (l.take m).length = m := by simp [hml]
 have h1 := h a ha;have := any_prefix hg m (List.replicate m false) a w (by simp) (by simp) (fun i hi => by
  unfold Ran at hi;by_cases h' : i < m <;> simp [h'] at hi) (by
   unfold trL at h1;rw [hlen] at h1;simpa [trL] using h1)
 rw [List.replicate_append_replicate] at this;have e : m + (l.length - m) = l.length := by omega
 rw [e] at this;unfold trL;simpa using this
theorem ol {m : Nat} (h : AK P N m l Q σ w) : EW N (Exit.then (fun a w => wpAny P .any l.toArray Q (l.length - m) (trL m l.length) a w) Q) .normal σ w := fun a ha => h a ha
end
section
variable {P : Program} {N : Nat} {ops : Array Oper} {Q : Exit → Act → World → Prop} {σ : Env} {w : World} {ty : TypeId} {pos : String} {af : Array Edge} {dst : Option Nat} {Post : Value → World → Prop}
theorem ow_sliceH {T e : TypeId} {x y : Operand} {g n c s h : Nat} {q : IntKind} {m : Int} (hd : P.underlying T = some (.slice e)) (hs : vc P e s) (hx : ev σ x = some (.slice (some ⟨g, 0, none⟩) n c)) (hy : ev σ y = some (.int q m)) (hm : m = (h : Int)) (hc : h ≤ c)
 (k : Post (.slice (some ⟨g, 0, none⟩) h c) w) : OW P N ops Q ⟨dst, .slice T x none (some y) none, ty, pos, af, none⟩ σ w Post :=
 ow_slice (l := 0) (h := h) hd hs hx rfl ⟨q, by rw [hy, hm]⟩ (Nat.zero_le _) hc (by
  rw [Nat.sub_zero, Nat.sub_zero, Nat.zero_mul];split
  · exact k
  · exact k)
end
section
variable {P : Program} {N : Nat} {ops : Array Oper} {Q : Exit → Act → World → Prop} {σ : Env} {w : World} {ty : TypeId} {pos : String} {af : Array Edge} {dst : Option Nat} {Post : Value → World → Prop}
structure NRes (r : Nat) (w w' : World) : Prop where
 isn : isN r = true
 ext : Ext No w w'
 lt : r < 18446744073709551616
end
section
variable {P : Program} {N : Nat} {ops : Array Oper} {Q : Exit → Act → World → Prop} {σ : Env} {w : World} {ty : TypeId} {pos : String} {af : Array Edge} {dst : Option Nat} {Post : Value → World → Prop}
end
/-! ### loops -/
inductive Ends {α : Type} (done : α → Bool) (step : α → α) : α → α → Prop
 | stop {s : α} : done s = true → Ends done step s s
 | next {s t : α} : done s = false → Ends done step (step s) t → Ends done step s t
noncomputable def until_ {α : Type} (done : α → Bool) (step : α → α) (s : α) : α := @Classical.epsilon α ⟨s⟩ (Ends done step s)
section
variable {P : Program} {Q : Exit → Act → World → Prop} {a : Act} {w : World} {body : Code}
theorem step_scope {b : Frame} {k : List Item} {cs : List Frame} : step P (lone (b.at a (.code (.scope body) :: k)) cs w) = .next (lone (b.at a (.code body :: .inScope body :: k)) cs w) :=
 step_lone_go (by simp [stepG, stepG.exec, Frame.at])
theorem zxz {b : Frame} {k : List Item} {cs : List Frame} : step P (lone (b.at a (.inScope body :: k)) cs w) = .next (lone (b.at a k) cs w) :=
 step_lone_go (by simp [stepG, stepG.exec, Frame.at])
def ybq (P : Program) (body : Code) (Q : Exit → Act → World → Prop) : Nat → Exit → Act → World → Prop
 | 0, .goto l, a, w => findLabel body l = none ∧ Q (.goto l) a w
 | n + 1, .goto l, a, w => (findLabel body l = none ∧ Q (.goto l) a w) ∨ ∃ rest, findLabel body l = some rest ∧ rest.wp P (ybq P body Q n) a w
 | _, e, a, w => Q e a w
theorem scope_key : ∀ (n : Nat) (c : Code) (a : Act) (w : World), c.wp P (ybq P body Q n) a w → ∀ b k cs, ∃ e a' w', Q e a' w' ∧ Arrives P (lone (b.at a (.code c :: .inScope body :: k)) cs w) b k cs e a' w' := by
 intro n;induction n with
 | zero =>
  intro c a w h b k cs;obtain ⟨e, a₁, w₁, hq, harr⟩ := h b (.inScope body :: k) cs;cases e with
  | normal => exact ⟨.normal, a₁, w₁, hq, Steps.trans harr (.one zxz)⟩
  | exit id => exact ⟨.exit id, a₁, w₁, hq, fun k' hk => harr k' (by simp [exitTo, hk])⟩
  | goto l => exact ⟨_, a₁, w₁, hq.2, fun k' hk => harr k' (by simp [gotoIn, hq.1, hk])⟩
  | ret => exact ⟨_, a₁, w₁, hq, harr⟩
  | panic ch => exact ⟨_, a₁, w₁, hq, harr⟩
  | outgrown => exact ⟨_, a₁, w₁, hq, harr⟩
 | succ n ih =>
  intro c a w h b k cs;obtain ⟨e, a₁, w₁, hq, harr⟩ := h b (.inScope body :: k) cs;cases e with
  | normal => exact ⟨.normal, a₁, w₁, hq, Steps.trans harr (.one zxz)⟩
  | exit id => exact ⟨.exit id, a₁, w₁, hq, fun k' hk => harr k' (by simp [exitTo, hk])⟩
  | goto l =>
   rcases hq with ⟨h1, hq⟩ | ⟨rest, h1, h2⟩
   · exact ⟨_, a₁, w₁, hq, fun k' hk => harr k' (by simp [gotoIn, h1, hk])⟩
   · obtain ⟨e2, a2, w2, hq2, harr2⟩ := ih rest a₁ w₁ h2 b k cs;exact ⟨e2, a2, w2, hq2, .of_steps (harr _ (by simp [gotoIn, h1])) harr2⟩
  | ret => exact ⟨_, a₁, w₁, hq, harr⟩
  | panic ch => exact ⟨_, a₁, w₁, hq, harr⟩
  | outgrown => exact ⟨_, a₁, w₁, hq, harr⟩
theorem wp_scope (n : Nat) (h : body.wp P (ybq P body Q n) a w) : (Code.scope body).wp P Q a w := fun b k cs =>
 let ⟨e, a', w', q, r⟩ := scope_key n body a w h b k cs
 ⟨e, a', w', q, .of_steps (.one step_scope) r⟩
end
section
variable {P : Program} {N : Nat} {Q : Exit → Act → World → Prop} {σ : Env} {w : World} {body : Code} {n : Nat}
theorem cw_scope (n : Nat) (h : CW P N body (ybq P body Q n) σ w) : CW P N (.scope body) Q σ w := fun a ha => wp_scope n (h a ha)
theorem ew_scope_ret (h : EW N Q .ret σ w) : EW N (ybq P body Q n) .ret σ w := by cases n <;> exact h
theorem cw_label {l : Nat} (h : EW N Q .normal σ w) : CW P N (.label l) Q σ w := fun a ha => wp_label (h a ha)
end
section
variable {P : Program} {N : Nat} {ops : Array Oper} {Q : Exit → Act → World → Prop} {σ : Env} {w : World} {ty : TypeId} {pos : String} {af : Array Edge} {dst : Option Nat} {Post : Value → World → Prop}
theorem qi {T T' : TypeId} {x y : Operand} {g o : Nat} {cs cs' : Array Value} {v : Value} (hs : vc P T 1) (hx : ev σ x = some (.pointer (some ⟨g, o, none⟩))) (hy : ev σ y = some v) (hb : Blk w g T' cs) (hv : v.cells = #[v]) (h1 : xf [v] = true) (hle : o < cs.size) (he : cs.setIfInBounds o v = cs')
 (k : ∀ w', Blk w' g T' cs' → Ext (Mut [some g]) w w' → Post undef w') : OW P N ops Q ⟨dst, .store T x y, ty, pos, af, none⟩ σ w Post := by
 refine zn hs hx hy hb (by rw [hv]; rfl) (by rw [hv]; exact h1) (by omega) (fun w' hb' he' => k w' ?_ he');rw [hv] at hb';rw [← he];exact hb'
end
section
variable {P : Program} {N : Nat} {ops : Array Oper} {Q : Exit → Act → World → Prop} {σ : Env} {w : World} {ty : TypeId} {pos : String} {af : Array Edge} {dst : Option Nat} {Post : Value → World → Prop}
theorem zuk {x i : Operand} {T e : TypeId} {g n : Nat} {q : IntKind} {m : Int} {j : Nat} (hd : P.underlying T = some (.array n e)) (hs : vc P e 1) (hx : ev σ x = some (.pointer (some ⟨g, 0, none⟩))) (hi : ev σ i = some (.int q m)) (hm : m = (j : Int)) (hj : j < n)
 (k : Post (.pointer (some ⟨g, j, none⟩)) w) : OW P N ops Q ⟨dst, .indexAddr T x i, ty, pos, af, none⟩ σ w Post :=
 ow_indexAddrG hd hs hx hi hm hj (by rw [Nat.mul_one, Nat.zero_add]; exact k)
end
section
variable {P : Program} {N : Nat} {ops : Array Oper} {Q : Exit → Act → World → Prop} {σ : Env} {w : World} {ty : TypeId} {pos : String} {af : Array Edge} {dst : Option Nat} {Post : Value → World → Prop}
theorem ow_buildA {T e : TypeId} {n s : Nat} {z : Value} {ps : List (Nat × Operand)} {vs : List (Nat × Value)} {cs : Array Value} (hd : P.underlying T = some (.array n e)) (hs : vc P e s) (hz : jz P T z) (hv : evp σ ps = some vs) (hf : Instr.fill (fun i => some (i * s, s)) z.cells vs = some cs)
 (k : Post (.agg cs) w) : OW P N ops Q ⟨dst, .build T ps.toArray, ty, pos, af, none⟩ σ w Post :=
 ve (fun ρ ha => by
  have h2 := yiq ha hv;have h3 : (ps.toArray.map fun (i, x) => (i, ρ x)) = vs.toArray := by rw [List.map_toArray, h2]
  simp only [execOp, Instr.build, h3, Sem.run_bind, zyq hz, Result.andThen_ok, run_underlying hd, ka hs, hf, Sem.run_pure]) k
end
theorem not_t {b : Bool} (h : (!b) = true) : b = false := by cases b <;> simp_all
theorem not_f {b : Bool} (h : (!b) = false) : b = true := by cases b <;> simp_all
section
variable {P : Program} {N : Nat} {ops : Array Oper} {Q : Exit → Act → World → Prop} {σ : Env} {w : World} {ty : TypeId} {pos : String} {af : Array Edge} {dst : Option Nat} {Post : Value → World → Prop}
theorem evs_rho {ρ : Operand → Value} (ha : ∀ {x v}, ev σ x = some v → ρ x = v) : ∀ {l : List Operand} {vs : List Value}, evs σ l = some vs → l.map ρ = vs
 | [], vs, h => by simp [evs] at h; simp [h]
 | x :: l, vs, h => by
  simp only [evs] at h
  split at h
  · rename_i v hv
    split at h
    · rename_i us hl
      injection h with h
      subst h;rw [List.map_cons, ha hv, evs_rho ha hl]
    · cases h
  · cases h
theorem zqk {f : FuncId} {xs : List Operand} {vs : List Value} (h : evs σ xs = some vs) (k : Post (.func (.func f) #[] vs.toArray) w) : OW P N ops Q ⟨dst, .makeFunc (.func f) #[] xs.toArray, ty, pos, af, none⟩ σ w Post :=
 ve (fun ρ ha => by
  have e : xs.toArray.map ρ = vs.toArray := by rw [List.map_toArray, evs_rho ha h]
  simp only [execOp, Instr.makeFunc, e, Array.map_empty]
  simp [go_sem]) k
theorem ydx {x : Operand} {xs : List Operand} {ts : Array TypeId} {f : FuncId} {args : List Value} {caps : Array Value} (hx : ev σ x = some (.func (.func f) #[] caps)) (hf : gp P f) (ha : evs σ xs = some args)
 (k : Calls P f (args.toArray ++ caps) w (fun e w' => ∃ v, e = .returned v ∧ Post v w')) : OW P N ops Q ⟨dst, .call ⟨.value x, xs.toArray, ts⟩, ty, pos, af, none⟩ σ w Post := by
 intro a hat;rw [if_pos (by simp [Region.wanted])];unfold Oper.wp;have hargs : xs.toArray.map a.eval = args.toArray := by
  apply Array.toList_inj.1
  rw [Array.toList_map];exact yiz hat ha
 have hrun : (execOp a.eval ⟨dst, .call ⟨.value x, xs.toArray, ts⟩, ty, pos, af, none⟩).run P w = .ok (.enter f (args.toArray ++ caps)) w := by
  simp only [execOp, resolve, hargs, hat.ev hx, Deferred.ofValue, invoke, callFunc, Sem.run_bind, Sem.run_pure, Result.andThen_ok]
  obtain ⟨fn, hf, hb, hr⟩ := hf;simp only [program, Sem.run, Result.andThen_ok, Array.empty_append, hf, hb]
  have hr' : ¬ fn.name = "runtime.NumGoroutine" := fun e => by simp [e] at hr
  simp [hf, hr', hb, go_sem]
 rw [hrun, Oper.upon_enter];exact k.mono fun e w' ⟨v, he, hp⟩ => by subst he; exact ⟨v, rfl, hp⟩
theorem zmq : ∀ (l : List Value) (cs : Array Value) (o j : Nat), (jv cs o l)[j]? = if o ≤ j ∧ j < o + l.length ∧ j < cs.size then l[j - o]? else cs[j]?
 | [], cs, o, j => by
  simp only [jv, List.length_nil, Nat.add_zero]
  rw [if_neg (by omega)]
 | v :: l, cs, o, j => by
  rw [jv, zmq l];simp only [Array.size_setIfInBounds, List.length_cons]
  by_cases h1 : j = o
  · subst h1;rw [if_neg (by omega)];by_cases h2 : j < cs.size
    · rw [if_pos ⟨Nat.le_refl _, by omega, h2⟩, Nat.sub_self];simp [h2]
    · rw [if_neg (by omega)];simp [h2]
  · by_cases h2 : o + 1 ≤ j ∧ j < o + 1 + l.length ∧ j < cs.size
    · rw [if_pos h2, if_pos (by omega), show j - o = (j - (o + 1)) + 1 by omega];simp
    · rw [if_neg h2, if_neg (by omega), Array.getElem?_setIfInBounds_ne (by omega)]
theorem putCells_full (cs : Array Value) (l : List Value) (h : l.length = cs.size) : jv cs 0 l = l.toArray := by
 apply Array.ext_getElem?
 intro j;rw [zmq];by_cases hj : j < cs.size
 · rw [if_pos ⟨Nat.zero_le _, by omega, hj⟩]; simp
 · rw [if_neg (by omega), Array.getElem?_eq_none (by omega), List.getElem?_toArray, List.getElem?_eq_none (by omega)]
theorem qz {T T' : TypeId} {x y : Operand} {g : Nat} {cs : Array Value} {v : Value} {n : Nat} (hs : vc P T n) (hx : ev σ x = some (.pointer (some ⟨g, 0, none⟩))) (hy : ev σ y = some v) (hb : Blk w g T' cs) (hn : v.cells.size = n) (h1 : xf v.cells.toList = true) (hle : n = cs.size)
 (k : ∀ w', Blk w' g T' v.cells → Ext (Mut [some g]) w w' → Post undef w') : OW P N ops Q ⟨dst, .store T x y, ty, pos, af, none⟩ σ w Post :=
 zn hs hx hy hb hn h1 (by omega) (fun w' hb' he => k w' (by
  rw [putCells_full _ _ (by rw [Array.length_toList]; omega)] at hb';simpa using hb') he)
theorem jb {T : TypeId} {d : TypeDesc} {x : Operand} {g o : Nat} {cs : Array Value} {n : Nat} (hd : P.underlying T = some d) (hp : TypeDesc.plain d = false) (hs : vc P T n) (hx : ev σ x = some (.pointer (some ⟨g, o, none⟩))) (hn : cs.size = n)
 (hc : ∀ j v, cs[j]? = some v → w.cell? ⟨g, o + j, none⟩ = some v) (k : Post (.agg cs) w) : OW P N ops Q ⟨dst, .load T x, ty, pos, af, none⟩ σ w Post :=
 ow_loadN hd hp hs hx hn (fun j v hj => by rw [Addr.add_eq]; exact hc j v hj) k
end
def zbx (w : World) (g o : Nat) (cs : List Value) : Prop := ∀ j v, cs[j]? = some v → w.cell? ⟨g, o + j, none⟩ = some v
def RowS {α : Type} (n : Nat) (w : World) (s : Nat) (R : World → Nat → Nat → α → Prop) (A : Option Addr) (xs : List α) : Prop :=
 xs ≠ [] → ∃ g o, A = some ⟨g, o, none⟩ ∧ g < n ∧ ∀ j x, xs[j]? = some x → R w g (o + j * s) x
def Low (n : Nat) (X : Nat → Prop) (w w' : World) : Prop := Ext X w w' ∧ ∀ k, X k → n ≤ k
theorem Low.cell {n : Nat} {X : Nat → Prop} {w w' : World} (h : Low n X w w') {g o : Nat} {v : Value} (hg : g < n) (hc : w.cell? ⟨g, o, none⟩ = some v) : w'.cell? ⟨g, o, none⟩ = some v :=
 (h.1.cell (World.block_lt_of_cell? w _ hc) (fun hx => by have h1 : n ≤ g := h.2 _ hx; omega)).trans hc
theorem Low.cells {n : Nat} {X : Nat → Prop} {w w' : World} (h : Low n X w w') {g o : Nat} {cs : List Value} (hg : g < n) (hc : zbx w g o cs) : zbx w' g o cs := fun j v hj => h.cell hg (hc j v hj)
theorem RowS.low {α : Type} {n s : Nat} {w w' : World} {R : World → Nat → Nat → α → Prop} {A : Option Addr} {xs : List α} (h : RowS n w s R A xs) (hR : ∀ g o x, g < n → R w g o x → R w' g o x) : RowS n w' s R A xs := fun h0 => by
 obtain ⟨g, o, e, hg, hc⟩ := h h0;exact ⟨g, o, e, hg, fun j x hj => hR _ _ _ hg (hc j x hj)⟩
theorem RowS.at {α : Type} {n s : Nat} {w : World} {R : World → Nat → Nat → α → Prop} {A : Option Addr} {xs : List α} (h : RowS n w s R A xs) {j : Nat} {x : α} (hj : xs[j]? = some x) : ∃ g o, A = some ⟨g, o, none⟩ ∧ g < n ∧ R w g (o + j * s) x := by
 obtain ⟨g, o, e, hg, hc⟩ := h (fun e => by rw [e] at hj; simp at hj);exact ⟨g, o, e, hg, hc j x hj⟩
def I64 (x : Int) : Prop := -9223372036854775808 ≤ x ∧ x ≤ 9223372036854775807
structure IntsA (n : Nat) (w : World) (A : Option Addr) (xs : List Int) : Prop where
 len : 8 * xs.length ≤ 140737488355000
 in_ : ∀ x ∈ xs, I64 x
 row : RowS n w 1 (fun w g o x => w.cell? ⟨g, o, none⟩ = some (.int .i64 x)) A xs
def jr (x : LIns) (B : Option Addr) (c : Nat) : List Value := [.int .i64 x.op, .int .i64 x.d, .int .i64 x.a, .int .i64 x.b, .int .i64 x.t, .int .i64 x.k, .slice B x.l.length c]
structure InsI (x : LIns) : Prop where
 op : I64 x.op
 d : I64 x.d
 a : I64 x.a
 b : I64 x.b
 t : I64 x.t
 k : I64 x.k
structure InsAt (n : Nat) (w : World) (g o : Nat) (x : LIns) : Prop where
 i64 : InsI x
 cells : ∃ B c, 8 * x.l.length ≤ 140737488351232 ∧ IntsA n w B x.l ∧ zbx w g o (jr x B c)
structure InsA (n : Nat) (w : World) (A : Option Addr) (xs : List LIns) : Prop where
 len : 72 * xs.length ≤ 140737488351232
 row : RowS n w 7 (InsAt n) A xs
structure RegI (r : LReg) : Prop where
 fr : I64 r.fr
 to : I64 r.to
 tg : I64 r.tg
 d : I64 r.d
def zqz (r : LReg) : List Value := [.int .i64 r.fr, .int .i64 r.to, .int .i64 r.tg, .int .i64 r.d]
structure RegsA (n : Nat) (w : World) (A : Option Addr) (xs : List LReg) : Prop where
 len : 32 * xs.length ≤ 140737488351232
 in_ : ∀ x ∈ xs, RegI x
 row : RowS n w 4 (fun w g o x => zbx w g o (zqz x)) A xs
structure StrsA (n : Nat) (w : World) (A : Option Addr) (xs : List ByteArray) : Prop where
 len : 16 * xs.length ≤ 140737488351232
 in_ : ∀ x ∈ xs, x.size ≤ maxLen
 row : RowS n w 1 (fun w g o x => w.cell? ⟨g, o, none⟩ = some (.string x)) A xs
structure ConsA (n : Nat) (w : World) (A : Option Addr) (xs : List (Int × ByteArray)) : Prop where
 len : 24 * xs.length ≤ 140737488351232
 in_ : ∀ x ∈ xs, I64 x.1 ∧ x.2.size ≤ maxLen
 row : RowS n w 2 (fun w g o x => zbx w g o [.int .i64 x.1, .string x.2]) A xs
structure Pl where
 an : Option Addr
 cn : Nat
 ac : Option Addr
 cc : Nat
 ai : Option Addr
 ci : Nat
 ar : Option Addr
 cr : Nat
structure FnA (n : Nat) (w : World) (p : Pl) (f : LFn) : Prop where
 params : I64 f.params
 regs : I64 f.regs
 frees : I64 f.frees
 bound : I64 f.bound
 name : f.name.size ≤ maxLen
 names : StrsA n w p.an f.names
 consts : ConsA n w p.ac f.consts
 ins : InsA n w p.ai f.ins
 rgs : RegsA n w p.ar f.rgs
 size : n ≤ w.heap.size
section
variable {n : Nat} {X : Nat → Prop} {w w' : World} {A : Option Addr}
theorem IntsA.low {xs : List Int} (h : IntsA n w A xs) (k : Low n X w w') : IntsA n w' A xs := ⟨h.len, h.in_, h.row.low fun _ _ _ hg hc => k.cell hg hc⟩
theorem InsAt.low {g o : Nat} {x : LIns} (h : InsAt n w g o x) (hg : g < n) (k : Low n X w w') : InsAt n w' g o x := by
 obtain ⟨h1, B, c, h2, h3, h4⟩ := h;exact ⟨h1, B, c, h2, h3.low k, k.cells hg h4⟩
theorem InsA.low {xs : List LIns} (h : InsA n w A xs) (k : Low n X w w') : InsA n w' A xs := ⟨h.len, h.row.low fun _ _ _ hg hc => hc.low hg k⟩
theorem RegsA.low {xs : List LReg} (h : RegsA n w A xs) (k : Low n X w w') : RegsA n w' A xs := ⟨h.len, h.in_, h.row.low fun _ _ _ hg hc => k.cells hg hc⟩
theorem StrsA.low {xs : List ByteArray} (h : StrsA n w A xs) (k : Low n X w w') : StrsA n w' A xs := ⟨h.len, h.in_, h.row.low fun _ _ _ hg hc => k.cell hg hc⟩
theorem ConsA.low {xs : List (Int × ByteArray)} (h : ConsA n w A xs) (k : Low n X w w') : ConsA n w' A xs := ⟨h.len, h.in_, h.row.low fun _ _ _ hg hc => k.cells hg hc⟩
theorem FnA.low {p : Pl} {f : LFn} (h : FnA n w p f) (k : Low n X w w') : FnA n w' p f :=
 ⟨h.params, h.regs, h.frees, h.bound, h.name, h.names.low k, h.consts.low k, h.ins.low k, h.rgs.low k, Nat.le_trans h.size k.1.size⟩
theorem Per.ints {xs : List Int} (h : IntsA n w A xs) (hX : ∀ k, X k → n ≤ k) : Per X w (fun z => IntsA n z A xs) := fun _ hb => h.low ⟨hb, hX⟩
theorem Per.regs {xs : List LReg} (h : RegsA n w A xs) (hX : ∀ k, X k → n ≤ k) : Per X w (fun z => RegsA n z A xs) := fun _ hb => h.low ⟨hb, hX⟩
theorem Per.fnA {p : Pl} {f : LFn} (h : FnA n w p f) (hX : ∀ k, X k → n ≤ k) : Per X w (fun z => FnA n z p f) := fun _ hb => h.low ⟨hb, hX⟩
theorem RowS.up {α : Type} {s m : Nat} {R R' : World → Nat → Nat → α → Prop} {xs : List α} (h : RowS n w s R A xs) (hm : n ≤ m) (hR : ∀ g o x, R w g o x → R' w g o x) : RowS m w s R' A xs := fun h0 => by
 obtain ⟨g, o, e, hg, hc⟩ := h h0;exact ⟨g, o, e, by omega, fun j x hj => hR _ _ _ (hc j x hj)⟩
theorem IntsA.up {m : Nat} {xs : List Int} (h : IntsA n w A xs) (hm : n ≤ m) : IntsA m w A xs := ⟨h.len, h.in_, h.row.up hm fun _ _ _ hc => hc⟩
theorem InsAt.up {m g o : Nat} {x : LIns} (h : InsAt n w g o x) (hm : n ≤ m) : InsAt m w g o x := by
 obtain ⟨h1, B, c, h2, h3, h4⟩ := h;exact ⟨h1, B, c, h2, h3.up hm, h4⟩
theorem InsA.up {m : Nat} {xs : List LIns} (h : InsA n w A xs) (hm : n ≤ m) : InsA m w A xs := ⟨h.len, h.row.up hm fun _ _ _ hc => hc.up hm⟩
theorem RegsA.up {m : Nat} {xs : List LReg} (h : RegsA n w A xs) (hm : n ≤ m) : RegsA m w A xs := ⟨h.len, h.in_, h.row.up hm fun _ _ _ hc => hc⟩
theorem StrsA.up {m : Nat} {xs : List ByteArray} (h : StrsA n w A xs) (hm : n ≤ m) : StrsA m w A xs := ⟨h.len, h.in_, h.row.up hm fun _ _ _ hc => hc⟩
theorem ConsA.up {m : Nat} {xs : List (Int × ByteArray)} (h : ConsA n w A xs) (hm : n ≤ m) : ConsA m w A xs := ⟨h.len, h.in_, h.row.up hm fun _ _ _ hc => hc⟩
theorem FnA.up {m : Nat} {p : Pl} {f : LFn} (h : FnA n w p f) (hm : n ≤ m) (hs : m ≤ w.heap.size) : FnA m w p f :=
 ⟨h.params, h.regs, h.frees, h.bound, h.name, h.names.up hm, h.consts.up hm, h.ins.up hm, h.rgs.up hm, hs⟩
theorem IntsA.cell {xs : List Int} (h : IntsA n w A xs) {j : Nat} {x : Int} (hj : xs[j]? = some x) : ∃ g o, A = some ⟨g, o, none⟩ ∧ g < n ∧ w.cell? ⟨g, o + j, none⟩ = some (.int .i64 x) := by
 obtain ⟨g, o, e, hg, hc⟩ := h.row.at hj;exact ⟨g, o, e, hg, by rwa [Nat.mul_one] at hc⟩
theorem IntsA.reads {xs : List Int} (h : IntsA n w A xs) {B : Nat} (hB : n ≤ B) : Reads w B 1 A xs.length (xs.map fun x => .int .i64 x) := by
 refine ⟨by simp, fun h0 => ?_⟩;obtain ⟨g, o, e, hg, hc⟩ := h.row (fun e => by rw [e] at h0; simp at h0);refine ⟨_, e, by show g < B; omega, fun j u hj => ?_⟩;rw [Lib.add_plain];rw [List.getElem?_map] at hj;cases hx : xs[j]? with
 | none => rw [hx] at hj; cases hj
 | some x =>
  rw [hx] at hj;obtain rfl := Option.some.inj hj;have := hc j x hx;rwa [Nat.mul_one] at this
end
def fnV (p : Pl) (f : LFn) : Value := .agg #[.string f.name, .int .i64 f.params, .int .i64 f.regs, .int .i64 f.frees, .bool f.gen, .int .i64 f.bound, .slice p.an f.names.length p.cn, .slice p.ac f.consts.length p.cc, .slice p.ai f.ins.length p.ci, .slice p.ar f.rgs.length p.cr]
end Go.Proofs.YtppdgjlmeahimaaDoor
namespace Go.Proofs.YtppdgjlmeahimaaDoor
open Go.RowKit
set_option maxRecDepth 100000
attribute [local irreducible] OW RS
def flC : Array Value := #[.int .i64 0, .int .i64 1024, .int .i64 32770, .int .i64 2050, .int .i64 6, .int .i64 2, .int .i64 4098, .int .i64 4100, .int .i64 4096, .int .i64 2, .int .i64 6, .int .i64 12, .int .i64 4, .int .i64 8194, .int .i64 32782, .int .i64 32774, .int .i64 32782, .int .i64 6, .int .i64 16, .int .i64 20, .int .i64 20, .int .i64 38, .int .i64 4102, .int .i64 4108, .int .i64 14, .int .i64 140, .int .i64 12, .int .i64 262, .int .i64 34, .int .i64 34, .int .i64 34, .int .i64 66, .int .i64 12, .int .i64 12, .int .i64 4100, .int .i64 36, .int .i64 16898, .int .i64 4130, .int .i64 6, .int .i64 22, .int .i64 6, .int .i64 4, .int .i64 4, .int .i64 14, .int .i64 32770]
theorem flC_eq : flC = (flT.map (fun z => Value.int .i64 ((z : Nat) : Int))).toArray := rfl
theorem flC_at {j : Nat} (h : j < 45) : flC[j]? = some (.int .i64 ((flT.getD j 0 : Nat) : Int)) := by
 have key : ∀ i : Fin 45, flT[i.val]? = some (flT.getD i.val 0) := by decide +kernel
 rw [flC_eq, List.getElem?_toArray, List.getElem?_map, key ⟨j, h⟩];rfl
theorem fl_or {j : Nat} (h : j < 45) : IntKind.i64.wrap (BitVec.ofInt IntKind.i64.bits ((flT.getD j 0 : Nat) : Int) ||| BitVec.ofInt IntKind.i64.bits 1).toNat = ((flT.getD j 0 ||| 1 : Nat) : Int) := by
 have key : ∀ i : Fin 45, IntKind.i64.wrap (BitVec.ofInt IntKind.i64.bits ((flT.getD i.val 0 : Nat) : Int) ||| BitVec.ofInt IntKind.i64.bits 1).toNat = ((flT.getD i.val 0 ||| 1 : Nat) : Int) := by decide +kernel
 exact key ⟨j, h⟩
section
variable (w : World)
theorem ydv (op : Int) : Calls Tryd.prog 44 #[.int .i64 op] w fun e w' => e = .returned (.int .i64 ((flN op : Nat) : Int)) ∧ Below w.heap.size w w' := by
 refine qs Tryd.func44 rfl Tryd.ntmps44 rfl ?_;have LW := erx (No) w;have XLW := grx (No) w;have E := erx (No) w;refine srx (anx rfl (zp (srx (mvx rfl (za rfl (yy rfl rfl (mvx rfl (yx 6 rfl (fun h1 => ?_) (fun h1 => ?_)))))))))
 ·
  have h1 := of_decide_eq_true h1;have e : flN op = 0 := by unfold flN; rw [if_pos (.inl h1)]
  refine za rfl (zc rfl (za rfl (zc rfl (za rfl (zx rfl rfl (rnx (yr rfl (srx (anx rfl (zv (ze (zu (rs := [.tmp 2]) (vs := [_]) rfl ⟨rfl, trivial⟩ ?_))))))))))));exact ⟨by rw [e]; rfl, (LW.step E XLW).toBelow⟩
 ·
  have h1 := of_decide_eq_false h1;refine onx rfl (zl rfl (onx rfl (xb rfl rfl (za rfl (yd rfl rfl (rnx (zr rfl (fun h2 => ?_) (fun h2 => ?_))))))))
  ·
   have h2 := of_decide_eq_true h2;have e : flN op = 0 := by unfold flN; rw [if_pos (.inr h2)]
   refine srx (anx rfl (zv (ze (zu (rs := [.tmp 2]) (vs := [_]) rfl ⟨rfl, trivial⟩ ?_))));exact ⟨by rw [e]; rfl, (LW.step E XLW).toBelow⟩
  ·
   have h2 := of_decide_eq_false h2;have e : flN op = flT.getD op.toNat 0 ||| 1 := by unfold flN; rw [if_neg (by omega)]
   refine zq (zh (srx (za rfl (ow_buildA (cs := flC) Tryd.underlying89 sz3 zr89 rfl (by kernel_rfl) (za rfl (qb zr89 ?_))))));intro gb1 w2 Bb1 Eb1 Gb1;have Gb1 : _ ≤ gb1 := Nat.le_trans E.size Gb1;have GLb1 := Nat.le_trans LW.size Gb1;replace E := E.trans Eb1.no;replace E := E.cons (some gb1)
   replace XLW := Mut.grow XLW (fun k e => Or.inr (Nat.le_trans LW.size ((zz Gb1) k e)));refine zw (zn sz89 rfl rfl Bb1 rfl rfl (Nat.le_of_ble_eq_true rfl) ?_);intro w3 Bx Eb1;replace Bb1 := Bx;replace E := E.step1 Eb1 Mut.head
   refine rnx (srx (mvx rfl (za rfl (zuk (j := op.toNat) Tryd.underlying89 sz3 rfl rfl (by omega) (by omega) (za rfl (zg (cs := flC) Tryd.underlying3 rfl rfl Bb1 (flC_at (by omega)) (za rfl (ow_or rfl rfl (fl_or (by omega)) (anx rfl (zv (zu (rs := [.tmp 2]) (vs := [_]) rfl ⟨rfl, trivial⟩ ?_)))))))))));exact ⟨by rw [e]; rfl, (LW.step E XLW).toBelow⟩
end
end Go.Proofs.YtppdgjlmeahimaaDoor
namespace Go.Proofs.YtppdgjlmeahimaaDoor
open Go.RowKit
set_option maxRecDepth 100000
attribute [local irreducible] OW RS
def rL (op : Int) : Int := if (flN op).testBit 5 = true then -2 else if (flN op).testBit 6 = true then -3 else if (flN op).testBit 7 = true then 1 else if (flN op).testBit 8 = true then 2 else if (flN op).testBit 9 = true then -4 else -1
def rK (op : Int) : Int := if (flN op).testBit 10 = true then 1 else if (flN op).testBit 11 = true then 2 else if (flN op).testBit 12 = true then 3 else if (flN op).testBit 13 = true then 4 else if (flN op).testBit 14 = true then 5 else if (flN op).testBit 15 = true then 10 else 0
def rLo (op : Int) : Int := if op = 14 ∨ op = 15 ∨ op = 16 then 1 else 0
def rHi (op : Int) : Int := if op = 2 then 2 else if op = 14 then 7 else if op = 15 then 2 else if op = 16 then 10 else if op = 44 then 34 else 0
def rowV (op : Int) : Value := .agg #[.bool (flN op != 0), .bool (uD op), .bool (uA op), .bool (uB op), .bool (uT op), .int .i64 (rL op), .int .i64 (rK op), .int .i64 (rLo op), .int .i64 (rHi op)]
theorem qg {op : Int} (h : op < 0 ∨ 44 < op) : rowV op = .agg #[.bool false, .bool false, .bool false, .bool false, .bool false, .int .i64 (-1), .int .i64 0, .int .i64 0, .int .i64 0] := by
 have e : flN op = 0 := by unfold flN; rw [if_pos h]
 have e1 : rLo op = 0 := by unfold rLo; rw [if_neg (by omega)]
 have e2 : rHi op = 0 := by unfold rHi; rw [if_neg (by omega), if_neg (by omega), if_neg (by omega), if_neg (by omega), if_neg (by omega)]
 unfold rowV uD uA uB uT rL rK;rw [e, e1, e2];rfl
section
variable (w : World)
theorem ztx (op : Int) : Calls Tryd.prog 33 #[.int .i64 op] w fun e w' => e = .returned (rowV op) ∧ Below w.heap.size w w' := by
 refine qs Tryd.func33 rfl Tryd.ntmps33 rfl ?_;have HF : Per (No) w (fun _ => True) := Per.true_;have LW := erx (No) w;have XLW := grx (No) w;have E := erx (No) w;refine srx (za rfl (qb zpv ?_));intro gb1 w2 Bb1 Eb1 Gb1;have Gb1 : _ ≤ gb1 := Nat.le_trans E.size Gb1;have GLb1 := Nat.le_trans LW.size Gb1;replace E := E.trans Eb1.no;replace HF := HF.cons (zz Gb1)
 replace E := E.cons (some gb1);replace XLW := Mut.grow XLW (fun k e => Or.inr (Nat.le_trans LW.size ((zz Gb1) k e)));refine rnx (srx (za rfl (vo (cs := #[.bool true, .bool false, .bool false, .bool false, .bool false, .int .i64 (-1), .int .i64 0, .int .i64 0, .int .i64 0]) pl68 zpv rfl rfl (za rfl (qb zpv ?_)))));intro gb3 w4 Bb3 Eb3 Gb3
 have Db3_b1 : Apart (some gb3) (some gb1) := Apart.of_lt (vd Bb1.lt) Gb3;have Db1_b3 := Db3_b1.symm;have Gb3 : _ ≤ gb3 := Nat.le_trans E.size Gb3;have GLb3 := Nat.le_trans LW.size Gb3;replace Bb1 := Bb1.extN Eb3 NotIn.nil;replace E := E.trans Eb3.no;replace HF := HF.cons (zz Gb3);replace E := E.cons (some gb3)
 replace XLW := Mut.grow XLW (fun k e => Or.inr (Nat.le_trans LW.size ((zz Gb3) k e)));refine zw (zn yk rfl rfl Bb3 rfl rfl (Nat.le_of_ble_eq_true rfl) ?_);intro w5 Bx Eb3;replace Bb3 := Bx;replace Bb1 := Bb1.extN Eb3 (NotIn.cons Db1_b3 NotIn.nil);replace E := E.step1 Eb3 Mut.head;replace HF := HF.on E;replace LW := LW.step E XLW
 have SB : ∀ q9, Mut [(some gb1)] q9 → Mut [(some gb3), (some gb1)] q9 := (Mut.skip (Mut.keep Mut.nil_));replace HF := HF.less SB;replace XLW := fun k h => XLW k (SB k h);clear SB;replace E := erx (Mut [(some gb1)]) w5;replace HF := HF.and (Per.blkN Bb3 (NotIn.cons Db3_b1 NotIn.nil))
 refine rnx (srx (za rfl (vo (cs := #[.bool true, .bool true, .bool false, .bool false, .bool false, .int .i64 (-1), .int .i64 0, .int .i64 0, .int .i64 0]) pl68 zpv rfl rfl (za rfl (qb zpv ?_)))));intro gb6 w7 Bb6 Eb6 Gb6;have Db6_b1 : Apart (some gb6) (some gb1) := Apart.of_lt (vd Bb1.lt) Gb6;have Db1_b6 := Db6_b1.symm;have Gb6 : _ ≤ gb6 := Nat.le_trans E.size Gb6
 have GLb6 := Nat.le_trans LW.size Gb6;replace Bb1 := Bb1.extN Eb6 NotIn.nil;replace E := E.trans Eb6.no;replace HF := HF.cons (zz Gb6);replace E := E.cons (some gb6);replace XLW := Mut.grow XLW (fun k e => Or.inr (Nat.le_trans LW.size ((zz Gb6) k e)));refine zw (zn yk rfl rfl Bb6 rfl rfl (Nat.le_of_ble_eq_true rfl) ?_);intro w8 Bx Eb6;replace Bb6 := Bx
 replace Bb1 := Bb1.extN Eb6 (NotIn.cons Db1_b6 NotIn.nil);replace E := E.step1 Eb6 Mut.head;replace HF := HF.on E;replace LW := LW.step E XLW;have SB : ∀ q9, Mut [(some gb1)] q9 → Mut [(some gb6), (some gb1)] q9 := (Mut.skip (Mut.keep Mut.nil_));replace HF := HF.less SB;replace XLW := fun k h => XLW k (SB k h);clear SB;replace E := erx (Mut [(some gb1)]) w8
 replace HF := HF.and (Per.blkN Bb6 (NotIn.cons Db6_b1 NotIn.nil));refine rnx (srx (za rfl (vo (cs := #[.bool true, .bool true, .bool true, .bool false, .bool false, .int .i64 (-1), .int .i64 0, .int .i64 0, .int .i64 0]) pl68 zpv rfl rfl (za rfl (qb zpv ?_)))));intro gb9 w10 Bb9 Eb9 Gb9;have Db9_b1 : Apart (some gb9) (some gb1) := Apart.of_lt (vd Bb1.lt) Gb9
 have Db1_b9 := Db9_b1.symm;have Gb9 : _ ≤ gb9 := Nat.le_trans E.size Gb9;have GLb9 := Nat.le_trans LW.size Gb9;replace Bb1 := Bb1.extN Eb9 NotIn.nil;replace E := E.trans Eb9.no;replace HF := HF.cons (zz Gb9);replace E := E.cons (some gb9);replace XLW := Mut.grow XLW (fun k e => Or.inr (Nat.le_trans LW.size ((zz Gb9) k e)))
 refine zw (zn yk rfl rfl Bb9 rfl rfl (Nat.le_of_ble_eq_true rfl) ?_);intro w11 Bx Eb9;replace Bb9 := Bx;replace Bb1 := Bb1.extN Eb9 (NotIn.cons Db1_b9 NotIn.nil);replace E := E.step1 Eb9 Mut.head;replace HF := HF.on E;replace LW := LW.step E XLW;have SB : ∀ q9, Mut [(some gb1)] q9 → Mut [(some gb9), (some gb1)] q9 := (Mut.skip (Mut.keep Mut.nil_));replace HF := HF.less SB
 replace XLW := fun k h => XLW k (SB k h);clear SB;replace E := erx (Mut [(some gb1)]) w11;replace HF := HF.and (Per.blkN Bb9 (NotIn.cons Db9_b1 NotIn.nil));refine rnx (srx (za rfl (vo (cs := #[.bool true, .bool true, .bool true, .bool true, .bool false, .int .i64 (-1), .int .i64 0, .int .i64 0, .int .i64 0]) pl68 zpv rfl rfl (za rfl (qb zpv ?_)))))
 intro gb12 w13 Bb12 Eb12 Gb12;have Db12_b1 : Apart (some gb12) (some gb1) := Apart.of_lt (vd Bb1.lt) Gb12;have Db1_b12 := Db12_b1.symm;have Gb12 : _ ≤ gb12 := Nat.le_trans E.size Gb12;have GLb12 := Nat.le_trans LW.size Gb12;replace Bb1 := Bb1.extN Eb12 NotIn.nil;replace E := E.trans Eb12.no;replace HF := HF.cons (zz Gb12);replace E := E.cons (some gb12)
 replace XLW := Mut.grow XLW (fun k e => Or.inr (Nat.le_trans LW.size ((zz Gb12) k e)));refine zw (zn yk rfl rfl Bb12 rfl rfl (Nat.le_of_ble_eq_true rfl) ?_);intro w14 Bx Eb12;replace Bb12 := Bx;replace Bb1 := Bb1.extN Eb12 (NotIn.cons Db1_b12 NotIn.nil);replace E := E.step1 Eb12 Mut.head;replace HF := HF.on E;replace LW := LW.step E XLW
 have SB : ∀ q9, Mut [(some gb1)] q9 → Mut [(some gb12), (some gb1)] q9 := (Mut.skip (Mut.keep Mut.nil_));replace HF := HF.less SB;replace XLW := fun k h => XLW k (SB k h);clear SB;replace E := erx (Mut [(some gb1)]) w14;replace HF := HF.and (Per.blkN Bb12 (NotIn.cons Db12_b1 NotIn.nil))
 refine rnx (srx (za rfl (vo (cs := #[.bool true, .bool false, .bool true, .bool false, .bool false, .int .i64 (-1), .int .i64 0, .int .i64 0, .int .i64 0]) pl68 zpv rfl rfl (za rfl (qb zpv ?_)))));intro gb15 w16 Bb15 Eb15 Gb15;have Db15_b1 : Apart (some gb15) (some gb1) := Apart.of_lt (vd Bb1.lt) Gb15;have Db1_b15 := Db15_b1.symm
 have Gb15 : _ ≤ gb15 := Nat.le_trans E.size Gb15;have GLb15 := Nat.le_trans LW.size Gb15;replace Bb1 := Bb1.extN Eb15 NotIn.nil;replace E := E.trans Eb15.no;replace HF := HF.cons (zz Gb15);replace E := E.cons (some gb15);replace XLW := Mut.grow XLW (fun k e => Or.inr (Nat.le_trans LW.size ((zz Gb15) k e)))
 refine zw (zn yk rfl rfl Bb15 rfl rfl (Nat.le_of_ble_eq_true rfl) ?_);intro w17 Bx Eb15;replace Bb15 := Bx;replace Bb1 := Bb1.extN Eb15 (NotIn.cons Db1_b15 NotIn.nil);replace E := E.step1 Eb15 Mut.head;replace HF := HF.on E;replace LW := LW.step E XLW;have SB : ∀ q9, Mut [(some gb1)] q9 → Mut [(some gb15), (some gb1)] q9 := (Mut.skip (Mut.keep Mut.nil_));replace HF := HF.less SB
 replace XLW := fun k h => XLW k (SB k h);clear SB;replace E := erx (Mut [(some gb1)]) w17;replace HF := HF.and (Per.blkN Bb15 (NotIn.cons Db15_b1 NotIn.nil));refine rnx (srx (za rfl (vo (cs := #[.bool true, .bool false, .bool true, .bool true, .bool false, .int .i64 (-1), .int .i64 0, .int .i64 0, .int .i64 0]) pl68 zpv rfl rfl (za rfl (qb zpv ?_)))))
 intro gb18 w19 Bb18 Eb18 Gb18;have Db18_b1 : Apart (some gb18) (some gb1) := Apart.of_lt (vd Bb1.lt) Gb18;have Db1_b18 := Db18_b1.symm;have Gb18 : _ ≤ gb18 := Nat.le_trans E.size Gb18;have GLb18 := Nat.le_trans LW.size Gb18;replace Bb1 := Bb1.extN Eb18 NotIn.nil;replace E := E.trans Eb18.no;replace HF := HF.cons (zz Gb18);replace E := E.cons (some gb18)
 replace XLW := Mut.grow XLW (fun k e => Or.inr (Nat.le_trans LW.size ((zz Gb18) k e)));refine zw (zn yk rfl rfl Bb18 rfl rfl (Nat.le_of_ble_eq_true rfl) ?_);intro w20 Bx Eb18;replace Bb18 := Bx;replace Bb1 := Bb1.extN Eb18 (NotIn.cons Db1_b18 NotIn.nil);replace E := E.step1 Eb18 Mut.head;replace HF := HF.on E;replace LW := LW.step E XLW
 have SB : ∀ q9, Mut [(some gb1)] q9 → Mut [(some gb18), (some gb1)] q9 := (Mut.skip (Mut.keep Mut.nil_));replace HF := HF.less SB;replace XLW := fun k h => XLW k (SB k h);clear SB;replace E := erx (Mut [(some gb1)]) w20;replace HF := HF.and (Per.blkN Bb18 (NotIn.cons Db18_b1 NotIn.nil))
 refine rnx (srx (za rfl (vo (cs := #[.bool false, .bool false, .bool false, .bool false, .bool false, .int .i64 (-1), .int .i64 0, .int .i64 0, .int .i64 0]) pl68 zpv rfl rfl (za rfl (qb zpv ?_)))));intro gb21 w22 Bb21 Eb21 Gb21;have Db21_b1 : Apart (some gb21) (some gb1) := Apart.of_lt (vd Bb1.lt) Gb21;have Db1_b21 := Db21_b1.symm
 have Gb21 : _ ≤ gb21 := Nat.le_trans E.size Gb21;have GLb21 := Nat.le_trans LW.size Gb21;replace Bb1 := Bb1.extN Eb21 NotIn.nil;replace E := E.trans Eb21.no;replace HF := HF.cons (zz Gb21);replace E := E.cons (some gb21);replace XLW := Mut.grow XLW (fun k e => Or.inr (Nat.le_trans LW.size ((zz Gb21) k e)))
 refine zw (zn yk rfl rfl Bb21 rfl rfl (Nat.le_of_ble_eq_true rfl) ?_);intro w23 Bx Eb21;replace Bb21 := Bx;replace Bb1 := Bb1.extN Eb21 (NotIn.cons Db1_b21 NotIn.nil);replace E := E.step1 Eb21 Mut.head;refine rnx (zp (srx (mvx rfl (rnx (yb (srx (za rfl (yn rfl rfl (anx rfl (zr rfl (fun h1 => ?_) (fun h1 => ?_)))))))))))
 ·
  refine zy 18 (.bool true) rfl (congrArg Value.bool h1) ?_;replace h1 := eq_of_beq h1;subst h1;refine zj (za rfl (zo Tryd.underlying68 rfl yk rfl (HF.on E).here.1.1.1.1.1.2 rfl (zw (zn yk rfl rfl Bb21 rfl rfl (Nat.le_of_ble_eq_true rfl) ?_))));intro w24 Bx Eb21;replace Bb21 := Bx;replace Bb1 := Bb1.extN Eb21 (NotIn.cons Db1_b21 NotIn.nil)
  replace E := E.step1 Eb21 Mut.head;replace HF := HF.on E;replace LW := LW.step E XLW;have SB : ∀ q9, Mut [(some gb1)] q9 → Mut [(some gb21), (some gb1)] q9 := (Mut.skip (Mut.keep Mut.nil_));replace HF := HF.less SB;replace XLW := fun k h => XLW k (SB k h);clear SB;replace E := erx (Mut [(some gb1)]) w24;replace HF := HF.and (Per.blkN Bb21 (NotIn.cons Db21_b1 NotIn.nil))
  refine yc (zf (zh (srx (za rfl (zo Tryd.underlying68 rfl yk rfl (HF.on E).here.2 rfl (zw (zn yk rfl rfl Bb1 rfl rfl (Nat.le_of_ble_eq_true rfl) ?_)))))));intro w25 Bx Eb1;replace Bb1 := Bx;replace E := E.step1 Eb1 Mut.head;replace HF := HF.on E;replace LW := LW.step E XLW;have SB : ∀ q9, No q9 → Mut [(some gb1)] q9 := (Mut.skip Mut.nil_)
  replace HF := HF.less SB;replace XLW := fun k h => XLW k (SB k h);clear SB;replace E := erx (No) w25;replace HF := HF.and (Per.blkN Bb1 NotIn.nil);refine rnx (zv (zu (rs := [.cell 2 68]) (vs := [_]) rfl ⟨⟨_, rfl, qj Tryd.underlying68 rfl yk (HF.on E).here.2 rfl⟩, trivial⟩ ?_))
  first | exact ⟨rfl, (LW.step E XLW).toBelow⟩ | exact ⟨by rw [qg (by omega)]; rfl, (LW.step E XLW).toBelow⟩
 ·
  refine zy 18 (.bool false) rfl (congrArg Value.bool h1) ?_;replace h1 := beq_eq_false_iff_ne.1 h1;refine srx (za rfl (yn rfl rfl (anx rfl (zr rfl (fun h2 => ?_) (fun h2 => ?_)))))
  ·
   refine zy 21 (.bool true) rfl (congrArg Value.bool h2) ?_;replace h2 := eq_of_beq h2;subst h2;refine srx (za rfl (zo Tryd.underlying68 rfl yk rfl (HF.on E).here.1.1.1.1.1.2 rfl (zw (zn yk rfl rfl Bb21 rfl rfl (Nat.le_of_ble_eq_true rfl) ?_))));intro w26 Bx Eb21;replace Bb21 := Bx;replace Bb1 := Bb1.extN Eb21 (NotIn.cons Db1_b21 NotIn.nil)
   replace E := E.step1 Eb21 Mut.head;refine rnx (zj (za rfl (zb Tryd.underlying68 rfl sz3 (by decide) rfl (zw (zn sz3 rfl rfl Bb21 rfl rfl (Nat.le_of_ble_eq_true rfl) ?_)))));intro w27 Bx Eb21;replace Bb21 := Bx;replace Bb1 := Bb1.extN Eb21 (NotIn.cons Db1_b21 NotIn.nil);replace E := E.step1 Eb21 Mut.head;replace HF := HF.on E;replace LW := LW.step E XLW
   have SB : ∀ q9, Mut [(some gb1)] q9 → Mut [(some gb21), (some gb1)] q9 := (Mut.skip (Mut.keep Mut.nil_));replace HF := HF.less SB;replace XLW := fun k h => XLW k (SB k h);clear SB;replace E := erx (Mut [(some gb1)]) w27;replace HF := HF.and (Per.blkN Bb21 (NotIn.cons Db21_b1 NotIn.nil))
   refine yc (zf (zh (srx (za rfl (zo Tryd.underlying68 rfl yk rfl (HF.on E).here.2 rfl (zw (zn yk rfl rfl Bb1 rfl rfl (Nat.le_of_ble_eq_true rfl) ?_)))))));intro w28 Bx Eb1;replace Bb1 := Bx;replace E := E.step1 Eb1 Mut.head;replace HF := HF.on E;replace LW := LW.step E XLW;have SB : ∀ q9, No q9 → Mut [(some gb1)] q9 := (Mut.skip Mut.nil_)
   replace HF := HF.less SB;replace XLW := fun k h => XLW k (SB k h);clear SB;replace E := erx (No) w28;replace HF := HF.and (Per.blkN Bb1 NotIn.nil);refine rnx (zv (zu (rs := [.cell 2 68]) (vs := [_]) rfl ⟨⟨_, rfl, qj Tryd.underlying68 rfl yk (HF.on E).here.2 rfl⟩, trivial⟩ ?_))
   first | exact ⟨rfl, (LW.step E XLW).toBelow⟩ | exact ⟨by rw [qg (by omega)]; rfl, (LW.step E XLW).toBelow⟩
  ·
   refine zy 21 (.bool false) rfl (congrArg Value.bool h2) ?_;replace h2 := beq_eq_false_iff_ne.1 h2;refine srx (za rfl (yn rfl rfl (anx rfl (zr rfl (fun h3 => ?_) (fun h3 => ?_)))))
   ·
    refine zy 25 (.bool true) rfl (congrArg Value.bool h3) ?_;replace h3 := eq_of_beq h3;subst h3;refine srx (za rfl (zo Tryd.underlying68 rfl yk rfl (HF.on E).here.1.1.1.1.2 rfl (zw (zn yk rfl rfl Bb21 rfl rfl (Nat.le_of_ble_eq_true rfl) ?_))));intro w29 Bx Eb21;replace Bb21 := Bx;replace Bb1 := Bb1.extN Eb21 (NotIn.cons Db1_b21 NotIn.nil)
    replace E := E.step1 Eb21 Mut.head;refine rnx (zj (za rfl (zb Tryd.underlying68 rfl sz3 (by decide) rfl (zw (zn sz3 rfl rfl Bb21 rfl rfl (Nat.le_of_ble_eq_true rfl) ?_)))));intro w30 Bx Eb21;replace Bb21 := Bx;replace Bb1 := Bb1.extN Eb21 (NotIn.cons Db1_b21 NotIn.nil);replace E := E.step1 Eb21 Mut.head
    refine za rfl (zb Tryd.underlying68 rfl sz3 (by decide) rfl (zw (zn sz3 rfl rfl Bb21 rfl rfl (Nat.le_of_ble_eq_true rfl) ?_)));intro w31 Bx Eb21;replace Bb21 := Bx;replace Bb1 := Bb1.extN Eb21 (NotIn.cons Db1_b21 NotIn.nil);replace E := E.step1 Eb21 Mut.head
    refine za rfl (zb Tryd.underlying68 rfl sz3 (by decide) rfl (zw (zn sz3 rfl rfl Bb21 rfl rfl (Nat.le_of_ble_eq_true rfl) ?_)));intro w32 Bx Eb21;replace Bb21 := Bx;replace Bb1 := Bb1.extN Eb21 (NotIn.cons Db1_b21 NotIn.nil);replace E := E.step1 Eb21 Mut.head;replace HF := HF.on E;replace LW := LW.step E XLW
    have SB : ∀ q9, Mut [(some gb1)] q9 → Mut [(some gb21), (some gb1)] q9 := (Mut.skip (Mut.keep Mut.nil_));replace HF := HF.less SB;replace XLW := fun k h => XLW k (SB k h);clear SB;replace E := erx (Mut [(some gb1)]) w32;replace HF := HF.and (Per.blkN Bb21 (NotIn.cons Db21_b1 NotIn.nil))
    refine yc (zf (zh (srx (za rfl (zo Tryd.underlying68 rfl yk rfl (HF.on E).here.2 rfl (zw (zn yk rfl rfl Bb1 rfl rfl (Nat.le_of_ble_eq_true rfl) ?_)))))));intro w33 Bx Eb1;replace Bb1 := Bx;replace E := E.step1 Eb1 Mut.head;replace HF := HF.on E;replace LW := LW.step E XLW;have SB : ∀ q9, No q9 → Mut [(some gb1)] q9 := (Mut.skip Mut.nil_)
    replace HF := HF.less SB;replace XLW := fun k h => XLW k (SB k h);clear SB;replace E := erx (No) w33;replace HF := HF.and (Per.blkN Bb1 NotIn.nil);refine rnx (zv (zu (rs := [.cell 2 68]) (vs := [_]) rfl ⟨⟨_, rfl, qj Tryd.underlying68 rfl yk (HF.on E).here.2 rfl⟩, trivial⟩ ?_))
    first | exact ⟨rfl, (LW.step E XLW).toBelow⟩ | exact ⟨by rw [qg (by omega)]; rfl, (LW.step E XLW).toBelow⟩
   ·
    refine zy 25 (.bool false) rfl (congrArg Value.bool h3) ?_;replace h3 := beq_eq_false_iff_ne.1 h3;refine srx (za rfl (yn rfl rfl (anx rfl (zr rfl (fun h4 => ?_) (fun h4 => ?_)))))
    ·
     refine zy 31 (.bool true) rfl (congrArg Value.bool h4) ?_;replace h4 := eq_of_beq h4;subst h4;refine srx (za rfl (zo Tryd.underlying68 rfl yk rfl (HF.on E).here.1.1.1.1.2 rfl (zw (zn yk rfl rfl Bb21 rfl rfl (Nat.le_of_ble_eq_true rfl) ?_))));intro w34 Bx Eb21;replace Bb21 := Bx;replace Bb1 := Bb1.extN Eb21 (NotIn.cons Db1_b21 NotIn.nil)
     replace E := E.step1 Eb21 Mut.head;refine rnx (zj (za rfl (zb Tryd.underlying68 rfl sz3 (by decide) rfl (zw (zn sz3 rfl rfl Bb21 rfl rfl (Nat.le_of_ble_eq_true rfl) ?_)))));intro w35 Bx Eb21;replace Bb21 := Bx;replace Bb1 := Bb1.extN Eb21 (NotIn.cons Db1_b21 NotIn.nil);replace E := E.step1 Eb21 Mut.head;replace HF := HF.on E;replace LW := LW.step E XLW
     have SB : ∀ q9, Mut [(some gb1)] q9 → Mut [(some gb21), (some gb1)] q9 := (Mut.skip (Mut.keep Mut.nil_));replace HF := HF.less SB;replace XLW := fun k h => XLW k (SB k h);clear SB;replace E := erx (Mut [(some gb1)]) w35;replace HF := HF.and (Per.blkN Bb21 (NotIn.cons Db21_b1 NotIn.nil))
     refine yc (zf (zh (srx (za rfl (zo Tryd.underlying68 rfl yk rfl (HF.on E).here.2 rfl (zw (zn yk rfl rfl Bb1 rfl rfl (Nat.le_of_ble_eq_true rfl) ?_)))))));intro w36 Bx Eb1;replace Bb1 := Bx;replace E := E.step1 Eb1 Mut.head;replace HF := HF.on E;replace LW := LW.step E XLW;have SB : ∀ q9, No q9 → Mut [(some gb1)] q9 := (Mut.skip Mut.nil_)
     replace HF := HF.less SB;replace XLW := fun k h => XLW k (SB k h);clear SB;replace E := erx (No) w36;replace HF := HF.and (Per.blkN Bb1 NotIn.nil);refine rnx (zv (zu (rs := [.cell 2 68]) (vs := [_]) rfl ⟨⟨_, rfl, qj Tryd.underlying68 rfl yk (HF.on E).here.2 rfl⟩, trivial⟩ ?_))
     first | exact ⟨rfl, (LW.step E XLW).toBelow⟩ | exact ⟨by rw [qg (by omega)]; rfl, (LW.step E XLW).toBelow⟩
    ·
     refine zy 31 (.bool false) rfl (congrArg Value.bool h4) ?_;replace h4 := beq_eq_false_iff_ne.1 h4;refine zp (srx (za rfl (yn rfl rfl (anx rfl (zr rfl (fun h5 => ?_) (fun h5 => ?_))))))
     ·
      refine zy 35 (.bool true) rfl (congrArg Value.bool h5) ?_;replace h5 := eq_of_beq h5;subst h5;refine zq (zh (yr rfl (zj (za rfl (zo Tryd.underlying68 rfl yk rfl (HF.on E).here.1.1.1.2 rfl (zw (zn yk rfl rfl Bb21 rfl rfl (Nat.le_of_ble_eq_true rfl) ?_)))))));intro w37 Bx Eb21;replace Bb21 := Bx
      replace Bb1 := Bb1.extN Eb21 (NotIn.cons Db1_b21 NotIn.nil);replace E := E.step1 Eb21 Mut.head;replace HF := HF.on E;replace LW := LW.step E XLW;have SB : ∀ q9, Mut [(some gb1)] q9 → Mut [(some gb21), (some gb1)] q9 := (Mut.skip (Mut.keep Mut.nil_));replace HF := HF.less SB;replace XLW := fun k h => XLW k (SB k h);clear SB;replace E := erx (Mut [(some gb1)]) w37
      replace HF := HF.and (Per.blkN Bb21 (NotIn.cons Db21_b1 NotIn.nil));refine yc (zf (zh (srx (za rfl (zo Tryd.underlying68 rfl yk rfl (HF.on E).here.2 rfl (zw (zn yk rfl rfl Bb1 rfl rfl (Nat.le_of_ble_eq_true rfl) ?_)))))));intro w38 Bx Eb1;replace Bb1 := Bx;replace E := E.step1 Eb1 Mut.head;replace HF := HF.on E;replace LW := LW.step E XLW
      have SB : ∀ q9, No q9 → Mut [(some gb1)] q9 := (Mut.skip Mut.nil_);replace HF := HF.less SB;replace XLW := fun k h => XLW k (SB k h);clear SB;replace E := erx (No) w38;replace HF := HF.and (Per.blkN Bb1 NotIn.nil);refine rnx (zv (zu (rs := [.cell 2 68]) (vs := [_]) rfl ⟨⟨_, rfl, qj Tryd.underlying68 rfl yk (HF.on E).here.2 rfl⟩, trivial⟩ ?_))
      first | exact ⟨rfl, (LW.step E XLW).toBelow⟩ | exact ⟨by rw [qg (by omega)]; rfl, (LW.step E XLW).toBelow⟩
     ·
      refine zy 35 (.bool false) rfl (congrArg Value.bool h5) ?_;replace h5 := beq_eq_false_iff_ne.1 h5;refine srx (za rfl (yn rfl rfl (anx rfl (zr rfl (fun h6 => ?_) (fun h6 => ?_)))))
      ·
       refine zy 35 (.bool true) rfl (congrArg Value.bool h6) ?_;replace h6 := eq_of_beq h6;subst h6;refine zq (zh (yr rfl (zj (za rfl (zo Tryd.underlying68 rfl yk rfl (HF.on E).here.1.1.1.2 rfl (zw (zn yk rfl rfl Bb21 rfl rfl (Nat.le_of_ble_eq_true rfl) ?_)))))));intro w39 Bx Eb21;replace Bb21 := Bx
       replace Bb1 := Bb1.extN Eb21 (NotIn.cons Db1_b21 NotIn.nil);replace E := E.step1 Eb21 Mut.head;replace HF := HF.on E;replace LW := LW.step E XLW;have SB : ∀ q9, Mut [(some gb1)] q9 → Mut [(some gb21), (some gb1)] q9 := (Mut.skip (Mut.keep Mut.nil_));replace HF := HF.less SB;replace XLW := fun k h => XLW k (SB k h);clear SB;replace E := erx (Mut [(some gb1)]) w39
       replace HF := HF.and (Per.blkN Bb21 (NotIn.cons Db21_b1 NotIn.nil));refine yc (zf (zh (srx (za rfl (zo Tryd.underlying68 rfl yk rfl (HF.on E).here.2 rfl (zw (zn yk rfl rfl Bb1 rfl rfl (Nat.le_of_ble_eq_true rfl) ?_)))))));intro w40 Bx Eb1;replace Bb1 := Bx;replace E := E.step1 Eb1 Mut.head;replace HF := HF.on E;replace LW := LW.step E XLW
       have SB : ∀ q9, No q9 → Mut [(some gb1)] q9 := (Mut.skip Mut.nil_);replace HF := HF.less SB;replace XLW := fun k h => XLW k (SB k h);clear SB;replace E := erx (No) w40;replace HF := HF.and (Per.blkN Bb1 NotIn.nil);refine rnx (zv (zu (rs := [.cell 2 68]) (vs := [_]) rfl ⟨⟨_, rfl, qj Tryd.underlying68 rfl yk (HF.on E).here.2 rfl⟩, trivial⟩ ?_))
       first | exact ⟨rfl, (LW.step E XLW).toBelow⟩ | exact ⟨by rw [qg (by omega)]; rfl, (LW.step E XLW).toBelow⟩
      ·
       refine zy 35 (.bool false) rfl (congrArg Value.bool h6) ?_;replace h6 := beq_eq_false_iff_ne.1 h6;refine srx (za rfl (yn rfl rfl (anx rfl (zr rfl (fun h7 => ?_) (fun h7 => ?_)))))
       ·
        refine zy 35 (.bool true) rfl (congrArg Value.bool h7) ?_;replace h7 := eq_of_beq h7;subst h7;refine zq (zh (yr rfl (zj (za rfl (zo Tryd.underlying68 rfl yk rfl (HF.on E).here.1.1.1.2 rfl (zw (zn yk rfl rfl Bb21 rfl rfl (Nat.le_of_ble_eq_true rfl) ?_)))))));intro w41 Bx Eb21;replace Bb21 := Bx
        replace Bb1 := Bb1.extN Eb21 (NotIn.cons Db1_b21 NotIn.nil);replace E := E.step1 Eb21 Mut.head;replace HF := HF.on E;replace LW := LW.step E XLW;have SB : ∀ q9, Mut [(some gb1)] q9 → Mut [(some gb21), (some gb1)] q9 := (Mut.skip (Mut.keep Mut.nil_));replace HF := HF.less SB;replace XLW := fun k h => XLW k (SB k h);clear SB;replace E := erx (Mut [(some gb1)]) w41
        replace HF := HF.and (Per.blkN Bb21 (NotIn.cons Db21_b1 NotIn.nil));refine yc (zf (zh (srx (za rfl (zo Tryd.underlying68 rfl yk rfl (HF.on E).here.2 rfl (zw (zn yk rfl rfl Bb1 rfl rfl (Nat.le_of_ble_eq_true rfl) ?_)))))));intro w42 Bx Eb1;replace Bb1 := Bx;replace E := E.step1 Eb1 Mut.head;replace HF := HF.on E
        replace LW := LW.step E XLW;have SB : ∀ q9, No q9 → Mut [(some gb1)] q9 := (Mut.skip Mut.nil_);replace HF := HF.less SB;replace XLW := fun k h => XLW k (SB k h);clear SB;replace E := erx (No) w42;replace HF := HF.and (Per.blkN Bb1 NotIn.nil)
        refine rnx (zv (zu (rs := [.cell 2 68]) (vs := [_]) rfl ⟨⟨_, rfl, qj Tryd.underlying68 rfl yk (HF.on E).here.2 rfl⟩, trivial⟩ ?_));first | exact ⟨rfl, (LW.step E XLW).toBelow⟩ | exact ⟨by rw [qg (by omega)]; rfl, (LW.step E XLW).toBelow⟩
       ·
        refine zy 35 (.bool false) rfl (congrArg Value.bool h7) ?_;replace h7 := beq_eq_false_iff_ne.1 h7;refine srx (za rfl (yn rfl rfl (anx rfl (zr rfl (fun h8 => ?_) (fun h8 => ?_)))))
        ·
         refine zy 35 (.bool true) rfl (congrArg Value.bool h8) ?_;replace h8 := eq_of_beq h8;subst h8;refine zq (zh (yr rfl (zj (za rfl (zo Tryd.underlying68 rfl yk rfl (HF.on E).here.1.1.1.2 rfl (zw (zn yk rfl rfl Bb21 rfl rfl (Nat.le_of_ble_eq_true rfl) ?_)))))));intro w43 Bx Eb21;replace Bb21 := Bx
         replace Bb1 := Bb1.extN Eb21 (NotIn.cons Db1_b21 NotIn.nil);replace E := E.step1 Eb21 Mut.head;replace HF := HF.on E;replace LW := LW.step E XLW;have SB : ∀ q9, Mut [(some gb1)] q9 → Mut [(some gb21), (some gb1)] q9 := (Mut.skip (Mut.keep Mut.nil_));replace HF := HF.less SB;replace XLW := fun k h => XLW k (SB k h);clear SB;replace E := erx (Mut [(some gb1)]) w43
         replace HF := HF.and (Per.blkN Bb21 (NotIn.cons Db21_b1 NotIn.nil));refine yc (zf (zh (srx (za rfl (zo Tryd.underlying68 rfl yk rfl (HF.on E).here.2 rfl (zw (zn yk rfl rfl Bb1 rfl rfl (Nat.le_of_ble_eq_true rfl) ?_)))))));intro w44 Bx Eb1;replace Bb1 := Bx;replace E := E.step1 Eb1 Mut.head;replace HF := HF.on E
         replace LW := LW.step E XLW;have SB : ∀ q9, No q9 → Mut [(some gb1)] q9 := (Mut.skip Mut.nil_);replace HF := HF.less SB;replace XLW := fun k h => XLW k (SB k h);clear SB;replace E := erx (No) w44;replace HF := HF.and (Per.blkN Bb1 NotIn.nil)
         refine rnx (zv (zu (rs := [.cell 2 68]) (vs := [_]) rfl ⟨⟨_, rfl, qj Tryd.underlying68 rfl yk (HF.on E).here.2 rfl⟩, trivial⟩ ?_));first | exact ⟨rfl, (LW.step E XLW).toBelow⟩ | exact ⟨by rw [qg (by omega)]; rfl, (LW.step E XLW).toBelow⟩
        ·
         refine zy 35 (.bool false) rfl (congrArg Value.bool h8) ?_;replace h8 := beq_eq_false_iff_ne.1 h8;refine zj (za rfl (yn rfl rfl (anx rfl (zr rfl (fun h9 => ?_) (fun h9 => ?_)))))
         ·
          refine zy 35 (.bool true) rfl (congrArg Value.bool h9) ?_;replace h9 := eq_of_beq h9;subst h9;refine zj (za rfl (zo Tryd.underlying68 rfl yk rfl (HF.on E).here.1.1.1.2 rfl (zw (zn yk rfl rfl Bb21 rfl rfl (Nat.le_of_ble_eq_true rfl) ?_))));intro w45 Bx Eb21;replace Bb21 := Bx;replace Bb1 := Bb1.extN Eb21 (NotIn.cons Db1_b21 NotIn.nil)
          replace E := E.step1 Eb21 Mut.head;replace HF := HF.on E;replace LW := LW.step E XLW;have SB : ∀ q9, Mut [(some gb1)] q9 → Mut [(some gb21), (some gb1)] q9 := (Mut.skip (Mut.keep Mut.nil_));replace HF := HF.less SB;replace XLW := fun k h => XLW k (SB k h);clear SB;replace E := erx (Mut [(some gb1)]) w45;replace HF := HF.and (Per.blkN Bb21 (NotIn.cons Db21_b1 NotIn.nil))
          refine yc (zf (zh (srx (za rfl (zo Tryd.underlying68 rfl yk rfl (HF.on E).here.2 rfl (zw (zn yk rfl rfl Bb1 rfl rfl (Nat.le_of_ble_eq_true rfl) ?_)))))));intro w46 Bx Eb1;replace Bb1 := Bx;replace E := E.step1 Eb1 Mut.head;replace HF := HF.on E;replace LW := LW.step E XLW
          have SB : ∀ q9, No q9 → Mut [(some gb1)] q9 := (Mut.skip Mut.nil_);replace HF := HF.less SB;replace XLW := fun k h => XLW k (SB k h);clear SB;replace E := erx (No) w46;replace HF := HF.and (Per.blkN Bb1 NotIn.nil);refine rnx (zv (zu (rs := [.cell 2 68]) (vs := [_]) rfl ⟨⟨_, rfl, qj Tryd.underlying68 rfl yk (HF.on E).here.2 rfl⟩, trivial⟩ ?_))
          first | exact ⟨rfl, (LW.step E XLW).toBelow⟩ | exact ⟨by rw [qg (by omega)]; rfl, (LW.step E XLW).toBelow⟩
         ·
          refine zy 35 (.bool false) rfl (congrArg Value.bool h9) ?_;replace h9 := beq_eq_false_iff_ne.1 h9;refine zp (srx (za rfl (yn rfl rfl (anx rfl (zr rfl (fun h10 => ?_) (fun h10 => ?_))))))
          ·
           refine zy 42 (.bool true) rfl (congrArg Value.bool h10) ?_;replace h10 := eq_of_beq h10;subst h10;refine zq (zh (yr rfl (zj (za rfl (zo Tryd.underlying68 rfl yk rfl (HF.on E).here.1.1.1.1.2 rfl (zw (zn yk rfl rfl Bb21 rfl rfl (Nat.le_of_ble_eq_true rfl) ?_)))))));intro w47 Bx Eb21;replace Bb21 := Bx
           replace Bb1 := Bb1.extN Eb21 (NotIn.cons Db1_b21 NotIn.nil);replace E := E.step1 Eb21 Mut.head;replace HF := HF.on E;replace LW := LW.step E XLW;have SB : ∀ q9, Mut [(some gb1)] q9 → Mut [(some gb21), (some gb1)] q9 := (Mut.skip (Mut.keep Mut.nil_));replace HF := HF.less SB;replace XLW := fun k h => XLW k (SB k h);clear SB;replace E := erx (Mut [(some gb1)]) w47
           replace HF := HF.and (Per.blkN Bb21 (NotIn.cons Db21_b1 NotIn.nil));refine yc (zf (zh (srx (za rfl (zo Tryd.underlying68 rfl yk rfl (HF.on E).here.2 rfl (zw (zn yk rfl rfl Bb1 rfl rfl (Nat.le_of_ble_eq_true rfl) ?_)))))));intro w48 Bx Eb1;replace Bb1 := Bx;replace E := E.step1 Eb1 Mut.head;replace HF := HF.on E
           replace LW := LW.step E XLW;have SB : ∀ q9, No q9 → Mut [(some gb1)] q9 := (Mut.skip Mut.nil_);replace HF := HF.less SB;replace XLW := fun k h => XLW k (SB k h);clear SB;replace E := erx (No) w48;replace HF := HF.and (Per.blkN Bb1 NotIn.nil)
           refine rnx (zv (zu (rs := [.cell 2 68]) (vs := [_]) rfl ⟨⟨_, rfl, qj Tryd.underlying68 rfl yk (HF.on E).here.2 rfl⟩, trivial⟩ ?_));first | exact ⟨rfl, (LW.step E XLW).toBelow⟩ | exact ⟨by rw [qg (by omega)]; rfl, (LW.step E XLW).toBelow⟩
          ·
           refine zy 42 (.bool false) rfl (congrArg Value.bool h10) ?_;replace h10 := beq_eq_false_iff_ne.1 h10;refine zj (za rfl (yn rfl rfl (anx rfl (zr rfl (fun h11 => ?_) (fun h11 => ?_)))))
           ·
            refine zy 42 (.bool true) rfl (congrArg Value.bool h11) ?_;replace h11 := eq_of_beq h11;subst h11;refine zj (za rfl (zo Tryd.underlying68 rfl yk rfl (HF.on E).here.1.1.1.1.2 rfl (zw (zn yk rfl rfl Bb21 rfl rfl (Nat.le_of_ble_eq_true rfl) ?_))));intro w49 Bx Eb21;replace Bb21 := Bx;replace Bb1 := Bb1.extN Eb21 (NotIn.cons Db1_b21 NotIn.nil)
            replace E := E.step1 Eb21 Mut.head;replace HF := HF.on E;replace LW := LW.step E XLW;have SB : ∀ q9, Mut [(some gb1)] q9 → Mut [(some gb21), (some gb1)] q9 := (Mut.skip (Mut.keep Mut.nil_));replace HF := HF.less SB;replace XLW := fun k h => XLW k (SB k h);clear SB;replace E := erx (Mut [(some gb1)]) w49;replace HF := HF.and (Per.blkN Bb21 (NotIn.cons Db21_b1 NotIn.nil))
            refine yc (zf (zh (srx (za rfl (zo Tryd.underlying68 rfl yk rfl (HF.on E).here.2 rfl (zw (zn yk rfl rfl Bb1 rfl rfl (Nat.le_of_ble_eq_true rfl) ?_)))))));intro w50 Bx Eb1;replace Bb1 := Bx;replace E := E.step1 Eb1 Mut.head;replace HF := HF.on E;replace LW := LW.step E XLW
            have SB : ∀ q9, No q9 → Mut [(some gb1)] q9 := (Mut.skip Mut.nil_);replace HF := HF.less SB;replace XLW := fun k h => XLW k (SB k h);clear SB;replace E := erx (No) w50;replace HF := HF.and (Per.blkN Bb1 NotIn.nil);refine rnx (zv (zu (rs := [.cell 2 68]) (vs := [_]) rfl ⟨⟨_, rfl, qj Tryd.underlying68 rfl yk (HF.on E).here.2 rfl⟩, trivial⟩ ?_))
            first | exact ⟨rfl, (LW.step E XLW).toBelow⟩ | exact ⟨by rw [qg (by omega)]; rfl, (LW.step E XLW).toBelow⟩
           ·
            refine zy 42 (.bool false) rfl (congrArg Value.bool h11) ?_;replace h11 := beq_eq_false_iff_ne.1 h11;refine srx (za rfl (yn rfl rfl (anx rfl (zr rfl (fun h12 => ?_) (fun h12 => ?_)))))
            ·
             refine zy 46 (.bool true) rfl (congrArg Value.bool h12) ?_;replace h12 := eq_of_beq h12;subst h12;refine srx (za rfl (zo Tryd.underlying68 rfl yk rfl (HF.on E).here.1.1.1.1.2 rfl (zw (zn yk rfl rfl Bb21 rfl rfl (Nat.le_of_ble_eq_true rfl) ?_))));intro w51 Bx Eb21;replace Bb21 := Bx;replace Bb1 := Bb1.extN Eb21 (NotIn.cons Db1_b21 NotIn.nil)
             replace E := E.step1 Eb21 Mut.head;refine rnx (zj (za rfl (zb Tryd.underlying68 rfl sz3 (by decide) rfl (zw (zn sz3 rfl rfl Bb21 rfl rfl (Nat.le_of_ble_eq_true rfl) ?_)))));intro w52 Bx Eb21;replace Bb21 := Bx;replace Bb1 := Bb1.extN Eb21 (NotIn.cons Db1_b21 NotIn.nil);replace E := E.step1 Eb21 Mut.head;replace HF := HF.on E
             replace LW := LW.step E XLW;have SB : ∀ q9, Mut [(some gb1)] q9 → Mut [(some gb21), (some gb1)] q9 := (Mut.skip (Mut.keep Mut.nil_));replace HF := HF.less SB;replace XLW := fun k h => XLW k (SB k h);clear SB;replace E := erx (Mut [(some gb1)]) w52;replace HF := HF.and (Per.blkN Bb21 (NotIn.cons Db21_b1 NotIn.nil))
             refine yc (zf (zh (srx (za rfl (zo Tryd.underlying68 rfl yk rfl (HF.on E).here.2 rfl (zw (zn yk rfl rfl Bb1 rfl rfl (Nat.le_of_ble_eq_true rfl) ?_)))))));intro w53 Bx Eb1;replace Bb1 := Bx;replace E := E.step1 Eb1 Mut.head;replace HF := HF.on E;replace LW := LW.step E XLW
             have SB : ∀ q9, No q9 → Mut [(some gb1)] q9 := (Mut.skip Mut.nil_);replace HF := HF.less SB;replace XLW := fun k h => XLW k (SB k h);clear SB;replace E := erx (No) w53;replace HF := HF.and (Per.blkN Bb1 NotIn.nil);refine rnx (zv (zu (rs := [.cell 2 68]) (vs := [_]) rfl ⟨⟨_, rfl, qj Tryd.underlying68 rfl yk (HF.on E).here.2 rfl⟩, trivial⟩ ?_))
             first | exact ⟨rfl, (LW.step E XLW).toBelow⟩ | exact ⟨by rw [qg (by omega)]; rfl, (LW.step E XLW).toBelow⟩
            ·
             refine zy 46 (.bool false) rfl (congrArg Value.bool h12) ?_;replace h12 := beq_eq_false_iff_ne.1 h12;refine zp (srx (za rfl (yn rfl rfl (anx rfl (zr rfl (fun h13 => ?_) (fun h13 => ?_))))))
             ·
              refine zy 50 (.bool true) rfl (congrArg Value.bool h13) ?_;replace h13 := eq_of_beq h13;subst h13;refine zq (zh (yr rfl (srx (za rfl (zo Tryd.underlying68 rfl yk rfl (HF.on E).here.1.2 rfl (zw (zn yk rfl rfl Bb21 rfl rfl (Nat.le_of_ble_eq_true rfl) ?_)))))));intro w54 Bx Eb21;replace Bb21 := Bx
              replace Bb1 := Bb1.extN Eb21 (NotIn.cons Db1_b21 NotIn.nil);replace E := E.step1 Eb21 Mut.head;refine rnx (zj (za rfl (zb Tryd.underlying68 rfl sz3 (by decide) rfl (zw (zn sz3 rfl rfl Bb21 rfl rfl (Nat.le_of_ble_eq_true rfl) ?_)))));intro w55 Bx Eb21;replace Bb21 := Bx;replace Bb1 := Bb1.extN Eb21 (NotIn.cons Db1_b21 NotIn.nil)
              replace E := E.step1 Eb21 Mut.head;replace HF := HF.on E;replace LW := LW.step E XLW;have SB : ∀ q9, Mut [(some gb1)] q9 → Mut [(some gb21), (some gb1)] q9 := (Mut.skip (Mut.keep Mut.nil_));replace HF := HF.less SB;replace XLW := fun k h => XLW k (SB k h);clear SB;replace E := erx (Mut [(some gb1)]) w55;replace HF := HF.and (Per.blkN Bb21 (NotIn.cons Db21_b1 NotIn.nil))
              refine yc (zf (zh (srx (za rfl (zo Tryd.underlying68 rfl yk rfl (HF.on E).here.2 rfl (zw (zn yk rfl rfl Bb1 rfl rfl (Nat.le_of_ble_eq_true rfl) ?_)))))));intro w56 Bx Eb1;replace Bb1 := Bx;replace E := E.step1 Eb1 Mut.head;replace HF := HF.on E;replace LW := LW.step E XLW
              have SB : ∀ q9, No q9 → Mut [(some gb1)] q9 := (Mut.skip Mut.nil_);replace HF := HF.less SB;replace XLW := fun k h => XLW k (SB k h);clear SB;replace E := erx (No) w56;replace HF := HF.and (Per.blkN Bb1 NotIn.nil);refine rnx (zv (zu (rs := [.cell 2 68]) (vs := [_]) rfl ⟨⟨_, rfl, qj Tryd.underlying68 rfl yk (HF.on E).here.2 rfl⟩, trivial⟩ ?_))
              first | exact ⟨rfl, (LW.step E XLW).toBelow⟩ | exact ⟨by rw [qg (by omega)]; rfl, (LW.step E XLW).toBelow⟩
             ·
              refine zy 50 (.bool false) rfl (congrArg Value.bool h13) ?_;replace h13 := beq_eq_false_iff_ne.1 h13;refine zj (za rfl (yn rfl rfl (anx rfl (zr rfl (fun h14 => ?_) (fun h14 => ?_)))))
              ·
               refine zy 50 (.bool true) rfl (congrArg Value.bool h14) ?_;replace h14 := eq_of_beq h14;subst h14;refine srx (za rfl (zo Tryd.underlying68 rfl yk rfl (HF.on E).here.1.2 rfl (zw (zn yk rfl rfl Bb21 rfl rfl (Nat.le_of_ble_eq_true rfl) ?_))));intro w57 Bx Eb21;replace Bb21 := Bx;replace Bb1 := Bb1.extN Eb21 (NotIn.cons Db1_b21 NotIn.nil)
               replace E := E.step1 Eb21 Mut.head;refine rnx (zj (za rfl (zb Tryd.underlying68 rfl sz3 (by decide) rfl (zw (zn sz3 rfl rfl Bb21 rfl rfl (Nat.le_of_ble_eq_true rfl) ?_)))));intro w58 Bx Eb21;replace Bb21 := Bx;replace Bb1 := Bb1.extN Eb21 (NotIn.cons Db1_b21 NotIn.nil);replace E := E.step1 Eb21 Mut.head;replace HF := HF.on E
               replace LW := LW.step E XLW;have SB : ∀ q9, Mut [(some gb1)] q9 → Mut [(some gb21), (some gb1)] q9 := (Mut.skip (Mut.keep Mut.nil_));replace HF := HF.less SB;replace XLW := fun k h => XLW k (SB k h);clear SB;replace E := erx (Mut [(some gb1)]) w58;replace HF := HF.and (Per.blkN Bb21 (NotIn.cons Db21_b1 NotIn.nil))
               refine yc (zf (zh (srx (za rfl (zo Tryd.underlying68 rfl yk rfl (HF.on E).here.2 rfl (zw (zn yk rfl rfl Bb1 rfl rfl (Nat.le_of_ble_eq_true rfl) ?_)))))));intro w59 Bx Eb1;replace Bb1 := Bx;replace E := E.step1 Eb1 Mut.head;replace HF := HF.on E;replace LW := LW.step E XLW
               have SB : ∀ q9, No q9 → Mut [(some gb1)] q9 := (Mut.skip Mut.nil_);replace HF := HF.less SB;replace XLW := fun k h => XLW k (SB k h);clear SB;replace E := erx (No) w59;replace HF := HF.and (Per.blkN Bb1 NotIn.nil);refine rnx (zv (zu (rs := [.cell 2 68]) (vs := [_]) rfl ⟨⟨_, rfl, qj Tryd.underlying68 rfl yk (HF.on E).here.2 rfl⟩, trivial⟩ ?_))
               first | exact ⟨rfl, (LW.step E XLW).toBelow⟩ | exact ⟨by rw [qg (by omega)]; rfl, (LW.step E XLW).toBelow⟩
              ·
               refine zy 50 (.bool false) rfl (congrArg Value.bool h14) ?_;replace h14 := beq_eq_false_iff_ne.1 h14;refine srx (za rfl (yn rfl rfl (anx rfl (zr rfl (fun h15 => ?_) (fun h15 => ?_)))))
               ·
                refine zy 55 (.bool true) rfl (congrArg Value.bool h15) ?_;replace h15 := eq_of_beq h15;subst h15;refine srx (za rfl (zo Tryd.underlying68 rfl yk rfl (HF.on E).here.1.1.1.1.1.2 rfl (zw (zn yk rfl rfl Bb21 rfl rfl (Nat.le_of_ble_eq_true rfl) ?_))));intro w60 Bx Eb21;replace Bb21 := Bx
                replace Bb1 := Bb1.extN Eb21 (NotIn.cons Db1_b21 NotIn.nil);replace E := E.step1 Eb21 Mut.head;refine rnx (zj (za rfl (zb Tryd.underlying68 rfl sz3 (by decide) rfl (zw (zn sz3 rfl rfl Bb21 rfl rfl (Nat.le_of_ble_eq_true rfl) ?_)))));intro w61 Bx Eb21;replace Bb21 := Bx;replace Bb1 := Bb1.extN Eb21 (NotIn.cons Db1_b21 NotIn.nil)
                replace E := E.step1 Eb21 Mut.head;replace HF := HF.on E;replace LW := LW.step E XLW;have SB : ∀ q9, Mut [(some gb1)] q9 → Mut [(some gb21), (some gb1)] q9 := (Mut.skip (Mut.keep Mut.nil_));replace HF := HF.less SB;replace XLW := fun k h => XLW k (SB k h);clear SB;replace E := erx (Mut [(some gb1)]) w61
                replace HF := HF.and (Per.blkN Bb21 (NotIn.cons Db21_b1 NotIn.nil));refine yc (zf (zh (srx (za rfl (zo Tryd.underlying68 rfl yk rfl (HF.on E).here.2 rfl (zw (zn yk rfl rfl Bb1 rfl rfl (Nat.le_of_ble_eq_true rfl) ?_)))))));intro w62 Bx Eb1;replace Bb1 := Bx;replace E := E.step1 Eb1 Mut.head;replace HF := HF.on E
                replace LW := LW.step E XLW;have SB : ∀ q9, No q9 → Mut [(some gb1)] q9 := (Mut.skip Mut.nil_);replace HF := HF.less SB;replace XLW := fun k h => XLW k (SB k h);clear SB;replace E := erx (No) w62;replace HF := HF.and (Per.blkN Bb1 NotIn.nil)
                refine rnx (zv (zu (rs := [.cell 2 68]) (vs := [_]) rfl ⟨⟨_, rfl, qj Tryd.underlying68 rfl yk (HF.on E).here.2 rfl⟩, trivial⟩ ?_));first | exact ⟨rfl, (LW.step E XLW).toBelow⟩ | exact ⟨by rw [qg (by omega)]; rfl, (LW.step E XLW).toBelow⟩
               ·
                refine zy 55 (.bool false) rfl (congrArg Value.bool h15) ?_;replace h15 := beq_eq_false_iff_ne.1 h15;refine zp (srx (za rfl (yn rfl rfl (anx rfl (zr rfl (fun h16 => ?_) (fun h16 => ?_))))))
                ·
                 refine zy 59 (.bool true) rfl (congrArg Value.bool h16) ?_;replace h16 := eq_of_beq h16;subst h16;refine zq (zh (yr rfl (zj (za rfl (zo Tryd.underlying68 rfl yk rfl (HF.on E).here.2 rfl (zw (zn yk rfl rfl Bb21 rfl rfl (Nat.le_of_ble_eq_true rfl) ?_)))))));intro w63 Bx Eb21;replace Bb21 := Bx
                 replace Bb1 := Bb1.extN Eb21 (NotIn.cons Db1_b21 NotIn.nil);replace E := E.step1 Eb21 Mut.head;replace HF := HF.on E;replace LW := LW.step E XLW;have SB : ∀ q9, Mut [(some gb1)] q9 → Mut [(some gb21), (some gb1)] q9 := (Mut.skip (Mut.keep Mut.nil_));replace HF := HF.less SB;replace XLW := fun k h => XLW k (SB k h);clear SB;replace E := erx (Mut [(some gb1)]) w63
                 replace HF := HF.and (Per.blkN Bb21 (NotIn.cons Db21_b1 NotIn.nil));refine yc (zf (zh (srx (za rfl (zo Tryd.underlying68 rfl yk rfl (HF.on E).here.2 rfl (zw (zn yk rfl rfl Bb1 rfl rfl (Nat.le_of_ble_eq_true rfl) ?_)))))));intro w64 Bx Eb1;replace Bb1 := Bx;replace E := E.step1 Eb1 Mut.head;replace HF := HF.on E
                 replace LW := LW.step E XLW;have SB : ∀ q9, No q9 → Mut [(some gb1)] q9 := (Mut.skip Mut.nil_);replace HF := HF.less SB;replace XLW := fun k h => XLW k (SB k h);clear SB;replace E := erx (No) w64;replace HF := HF.and (Per.blkN Bb1 NotIn.nil)
                 refine rnx (zv (zu (rs := [.cell 2 68]) (vs := [_]) rfl ⟨⟨_, rfl, qj Tryd.underlying68 rfl yk (HF.on E).here.2 rfl⟩, trivial⟩ ?_));first | exact ⟨rfl, (LW.step E XLW).toBelow⟩ | exact ⟨by rw [qg (by omega)]; rfl, (LW.step E XLW).toBelow⟩
                ·
                 refine zy 59 (.bool false) rfl (congrArg Value.bool h16) ?_;replace h16 := beq_eq_false_iff_ne.1 h16;refine srx (za rfl (yn rfl rfl (anx rfl (zr rfl (fun h17 => ?_) (fun h17 => ?_)))))
                 ·
                  refine zy 59 (.bool true) rfl (congrArg Value.bool h17) ?_;replace h17 := eq_of_beq h17;subst h17;refine zq (zh (yr rfl (zj (za rfl (zo Tryd.underlying68 rfl yk rfl (HF.on E).here.2 rfl (zw (zn yk rfl rfl Bb21 rfl rfl (Nat.le_of_ble_eq_true rfl) ?_)))))));intro w65 Bx Eb21;replace Bb21 := Bx
                  replace Bb1 := Bb1.extN Eb21 (NotIn.cons Db1_b21 NotIn.nil);replace E := E.step1 Eb21 Mut.head;replace HF := HF.on E;replace LW := LW.step E XLW;have SB : ∀ q9, Mut [(some gb1)] q9 → Mut [(some gb21), (some gb1)] q9 := (Mut.skip (Mut.keep Mut.nil_));replace HF := HF.less SB;replace XLW := fun k h => XLW k (SB k h);clear SB;replace E := erx (Mut [(some gb1)]) w65
                  replace HF := HF.and (Per.blkN Bb21 (NotIn.cons Db21_b1 NotIn.nil));refine yc (zf (zh (srx (za rfl (zo Tryd.underlying68 rfl yk rfl (HF.on E).here.2 rfl (zw (zn yk rfl rfl Bb1 rfl rfl (Nat.le_of_ble_eq_true rfl) ?_)))))));intro w66 Bx Eb1;replace Bb1 := Bx;replace E := E.step1 Eb1 Mut.head;replace HF := HF.on E
                  replace LW := LW.step E XLW;have SB : ∀ q9, No q9 → Mut [(some gb1)] q9 := (Mut.skip Mut.nil_);replace HF := HF.less SB;replace XLW := fun k h => XLW k (SB k h);clear SB;replace E := erx (No) w66;replace HF := HF.and (Per.blkN Bb1 NotIn.nil)
                  refine rnx (zv (zu (rs := [.cell 2 68]) (vs := [_]) rfl ⟨⟨_, rfl, qj Tryd.underlying68 rfl yk (HF.on E).here.2 rfl⟩, trivial⟩ ?_));first | exact ⟨rfl, (LW.step E XLW).toBelow⟩ | exact ⟨by rw [qg (by omega)]; rfl, (LW.step E XLW).toBelow⟩
                 ·
                  refine zy 59 (.bool false) rfl (congrArg Value.bool h17) ?_;replace h17 := beq_eq_false_iff_ne.1 h17;refine srx (za rfl (yn rfl rfl (anx rfl (zr rfl (fun h18 => ?_) (fun h18 => ?_)))))
                  ·
                   refine zy 59 (.bool true) rfl (congrArg Value.bool h18) ?_;replace h18 := eq_of_beq h18;subst h18;refine zq (zh (yr rfl (zj (za rfl (zo Tryd.underlying68 rfl yk rfl (HF.on E).here.2 rfl (zw (zn yk rfl rfl Bb21 rfl rfl (Nat.le_of_ble_eq_true rfl) ?_)))))));intro w67 Bx Eb21;replace Bb21 := Bx
                   replace Bb1 := Bb1.extN Eb21 (NotIn.cons Db1_b21 NotIn.nil);replace E := E.step1 Eb21 Mut.head;replace HF := HF.on E;replace LW := LW.step E XLW;have SB : ∀ q9, Mut [(some gb1)] q9 → Mut [(some gb21), (some gb1)] q9 := (Mut.skip (Mut.keep Mut.nil_));replace HF := HF.less SB;replace XLW := fun k h => XLW k (SB k h);clear SB
                   replace E := erx (Mut [(some gb1)]) w67;replace HF := HF.and (Per.blkN Bb21 (NotIn.cons Db21_b1 NotIn.nil));refine yc (zf (zh (srx (za rfl (zo Tryd.underlying68 rfl yk rfl (HF.on E).here.2 rfl (zw (zn yk rfl rfl Bb1 rfl rfl (Nat.le_of_ble_eq_true rfl) ?_)))))));intro w68 Bx Eb1;replace Bb1 := Bx
                   replace E := E.step1 Eb1 Mut.head;replace HF := HF.on E;replace LW := LW.step E XLW;have SB : ∀ q9, No q9 → Mut [(some gb1)] q9 := (Mut.skip Mut.nil_);replace HF := HF.less SB;replace XLW := fun k h => XLW k (SB k h);clear SB;replace E := erx (No) w68;replace HF := HF.and (Per.blkN Bb1 NotIn.nil)
                   refine rnx (zv (zu (rs := [.cell 2 68]) (vs := [_]) rfl ⟨⟨_, rfl, qj Tryd.underlying68 rfl yk (HF.on E).here.2 rfl⟩, trivial⟩ ?_));first | exact ⟨rfl, (LW.step E XLW).toBelow⟩ | exact ⟨by rw [qg (by omega)]; rfl, (LW.step E XLW).toBelow⟩
                  ·
                   refine zy 59 (.bool false) rfl (congrArg Value.bool h18) ?_;replace h18 := beq_eq_false_iff_ne.1 h18;refine zj (za rfl (yn rfl rfl (anx rfl (zr rfl (fun h19 => ?_) (fun h19 => ?_)))))
                   ·
                    refine zy 59 (.bool true) rfl (congrArg Value.bool h19) ?_;replace h19 := eq_of_beq h19;subst h19;refine zj (za rfl (zo Tryd.underlying68 rfl yk rfl (HF.on E).here.2 rfl (zw (zn yk rfl rfl Bb21 rfl rfl (Nat.le_of_ble_eq_true rfl) ?_))));intro w69 Bx Eb21;replace Bb21 := Bx
                    replace Bb1 := Bb1.extN Eb21 (NotIn.cons Db1_b21 NotIn.nil);replace E := E.step1 Eb21 Mut.head;replace HF := HF.on E;replace LW := LW.step E XLW;have SB : ∀ q9, Mut [(some gb1)] q9 → Mut [(some gb21), (some gb1)] q9 := (Mut.skip (Mut.keep Mut.nil_));replace HF := HF.less SB;replace XLW := fun k h => XLW k (SB k h);clear SB
                    replace E := erx (Mut [(some gb1)]) w69;replace HF := HF.and (Per.blkN Bb21 (NotIn.cons Db21_b1 NotIn.nil));refine yc (zf (zh (srx (za rfl (zo Tryd.underlying68 rfl yk rfl (HF.on E).here.2 rfl (zw (zn yk rfl rfl Bb1 rfl rfl (Nat.le_of_ble_eq_true rfl) ?_)))))));intro w70 Bx Eb1;replace Bb1 := Bx
                    replace E := E.step1 Eb1 Mut.head;replace HF := HF.on E;replace LW := LW.step E XLW;have SB : ∀ q9, No q9 → Mut [(some gb1)] q9 := (Mut.skip Mut.nil_);replace HF := HF.less SB;replace XLW := fun k h => XLW k (SB k h);clear SB;replace E := erx (No) w70;replace HF := HF.and (Per.blkN Bb1 NotIn.nil)
                    refine rnx (zv (zu (rs := [.cell 2 68]) (vs := [_]) rfl ⟨⟨_, rfl, qj Tryd.underlying68 rfl yk (HF.on E).here.2 rfl⟩, trivial⟩ ?_));first | exact ⟨rfl, (LW.step E XLW).toBelow⟩ | exact ⟨by rw [qg (by omega)]; rfl, (LW.step E XLW).toBelow⟩
                   ·
                    refine zy 59 (.bool false) rfl (congrArg Value.bool h19) ?_;replace h19 := beq_eq_false_iff_ne.1 h19;refine zp (srx (za rfl (yn rfl rfl (anx rfl (zr rfl (fun h20 => ?_) (fun h20 => ?_))))))
                    ·
                     refine zy 65 (.bool true) rfl (congrArg Value.bool h20) ?_;replace h20 := eq_of_beq h20;subst h20;refine zq (zh (yr rfl (zj (za rfl (zo Tryd.underlying68 rfl yk rfl (HF.on E).here.1.2 rfl (zw (zn yk rfl rfl Bb21 rfl rfl (Nat.le_of_ble_eq_true rfl) ?_)))))));intro w71 Bx Eb21;replace Bb21 := Bx
                     replace Bb1 := Bb1.extN Eb21 (NotIn.cons Db1_b21 NotIn.nil);replace E := E.step1 Eb21 Mut.head;replace HF := HF.on E;replace LW := LW.step E XLW;have SB : ∀ q9, Mut [(some gb1)] q9 → Mut [(some gb21), (some gb1)] q9 := (Mut.skip (Mut.keep Mut.nil_));replace HF := HF.less SB;replace XLW := fun k h => XLW k (SB k h);clear SB
                     replace E := erx (Mut [(some gb1)]) w71;replace HF := HF.and (Per.blkN Bb21 (NotIn.cons Db21_b1 NotIn.nil));refine yc (zf (zh (srx (za rfl (zo Tryd.underlying68 rfl yk rfl (HF.on E).here.2 rfl (zw (zn yk rfl rfl Bb1 rfl rfl (Nat.le_of_ble_eq_true rfl) ?_)))))));intro w72 Bx Eb1;replace Bb1 := Bx
                     replace E := E.step1 Eb1 Mut.head;replace HF := HF.on E;replace LW := LW.step E XLW;have SB : ∀ q9, No q9 → Mut [(some gb1)] q9 := (Mut.skip Mut.nil_);replace HF := HF.less SB;replace XLW := fun k h => XLW k (SB k h);clear SB;replace E := erx (No) w72;replace HF := HF.and (Per.blkN Bb1 NotIn.nil)
                     refine rnx (zv (zu (rs := [.cell 2 68]) (vs := [_]) rfl ⟨⟨_, rfl, qj Tryd.underlying68 rfl yk (HF.on E).here.2 rfl⟩, trivial⟩ ?_));first | exact ⟨rfl, (LW.step E XLW).toBelow⟩ | exact ⟨by rw [qg (by omega)]; rfl, (LW.step E XLW).toBelow⟩
                    ·
                     refine zy 65 (.bool false) rfl (congrArg Value.bool h20) ?_;replace h20 := beq_eq_false_iff_ne.1 h20;refine srx (za rfl (yn rfl rfl (anx rfl (zr rfl (fun h21 => ?_) (fun h21 => ?_)))))
                     ·
                      refine zy 65 (.bool true) rfl (congrArg Value.bool h21) ?_;replace h21 := eq_of_beq h21;subst h21;refine zq (zh (yr rfl (zj (za rfl (zo Tryd.underlying68 rfl yk rfl (HF.on E).here.1.2 rfl (zw (zn yk rfl rfl Bb21 rfl rfl (Nat.le_of_ble_eq_true rfl) ?_)))))));intro w73 Bx Eb21;replace Bb21 := Bx
                      replace Bb1 := Bb1.extN Eb21 (NotIn.cons Db1_b21 NotIn.nil);replace E := E.step1 Eb21 Mut.head;replace HF := HF.on E;replace LW := LW.step E XLW;have SB : ∀ q9, Mut [(some gb1)] q9 → Mut [(some gb21), (some gb1)] q9 := (Mut.skip (Mut.keep Mut.nil_));replace HF := HF.less SB;replace XLW := fun k h => XLW k (SB k h);clear SB
                      replace E := erx (Mut [(some gb1)]) w73;replace HF := HF.and (Per.blkN Bb21 (NotIn.cons Db21_b1 NotIn.nil));refine yc (zf (zh (srx (za rfl (zo Tryd.underlying68 rfl yk rfl (HF.on E).here.2 rfl (zw (zn yk rfl rfl Bb1 rfl rfl (Nat.le_of_ble_eq_true rfl) ?_)))))));intro w74 Bx Eb1;replace Bb1 := Bx
                      replace E := E.step1 Eb1 Mut.head;replace HF := HF.on E;replace LW := LW.step E XLW;have SB : ∀ q9, No q9 → Mut [(some gb1)] q9 := (Mut.skip Mut.nil_);replace HF := HF.less SB;replace XLW := fun k h => XLW k (SB k h);clear SB;replace E := erx (No) w74;replace HF := HF.and (Per.blkN Bb1 NotIn.nil)
                      refine rnx (zv (zu (rs := [.cell 2 68]) (vs := [_]) rfl ⟨⟨_, rfl, qj Tryd.underlying68 rfl yk (HF.on E).here.2 rfl⟩, trivial⟩ ?_));first | exact ⟨rfl, (LW.step E XLW).toBelow⟩ | exact ⟨by rw [qg (by omega)]; rfl, (LW.step E XLW).toBelow⟩
                     ·
                      refine zy 65 (.bool false) rfl (congrArg Value.bool h21) ?_;replace h21 := beq_eq_false_iff_ne.1 h21;refine zj (za rfl (yn rfl rfl (anx rfl (zr rfl (fun h22 => ?_) (fun h22 => ?_)))))
                      ·
                       refine zy 65 (.bool true) rfl (congrArg Value.bool h22) ?_;replace h22 := eq_of_beq h22;subst h22;refine zj (za rfl (zo Tryd.underlying68 rfl yk rfl (HF.on E).here.1.2 rfl (zw (zn yk rfl rfl Bb21 rfl rfl (Nat.le_of_ble_eq_true rfl) ?_))));intro w75 Bx Eb21;replace Bb21 := Bx
                       replace Bb1 := Bb1.extN Eb21 (NotIn.cons Db1_b21 NotIn.nil);replace E := E.step1 Eb21 Mut.head;replace HF := HF.on E;replace LW := LW.step E XLW;have SB : ∀ q9, Mut [(some gb1)] q9 → Mut [(some gb21), (some gb1)] q9 := (Mut.skip (Mut.keep Mut.nil_));replace HF := HF.less SB;replace XLW := fun k h => XLW k (SB k h);clear SB
                       replace E := erx (Mut [(some gb1)]) w75;replace HF := HF.and (Per.blkN Bb21 (NotIn.cons Db21_b1 NotIn.nil));refine yc (zf (zh (srx (za rfl (zo Tryd.underlying68 rfl yk rfl (HF.on E).here.2 rfl (zw (zn yk rfl rfl Bb1 rfl rfl (Nat.le_of_ble_eq_true rfl) ?_)))))));intro w76 Bx Eb1;replace Bb1 := Bx
                       replace E := E.step1 Eb1 Mut.head;replace HF := HF.on E;replace LW := LW.step E XLW;have SB : ∀ q9, No q9 → Mut [(some gb1)] q9 := (Mut.skip Mut.nil_);replace HF := HF.less SB;replace XLW := fun k h => XLW k (SB k h);clear SB;replace E := erx (No) w76;replace HF := HF.and (Per.blkN Bb1 NotIn.nil)
                       refine rnx (zv (zu (rs := [.cell 2 68]) (vs := [_]) rfl ⟨⟨_, rfl, qj Tryd.underlying68 rfl yk (HF.on E).here.2 rfl⟩, trivial⟩ ?_));first | exact ⟨rfl, (LW.step E XLW).toBelow⟩ | exact ⟨by rw [qg (by omega)]; rfl, (LW.step E XLW).toBelow⟩
                      ·
                       refine zy 65 (.bool false) rfl (congrArg Value.bool h22) ?_;replace h22 := beq_eq_false_iff_ne.1 h22;refine srx (za rfl (yn rfl rfl (anx rfl (zr rfl (fun h23 => ?_) (fun h23 => ?_)))))
                       ·
                        refine zy 70 (.bool true) rfl (congrArg Value.bool h23) ?_;replace h23 := eq_of_beq h23;subst h23;refine srx (za rfl (zo Tryd.underlying68 rfl yk rfl (HF.on E).here.1.1.1.1.2 rfl (zw (zn yk rfl rfl Bb21 rfl rfl (Nat.le_of_ble_eq_true rfl) ?_))));intro w77 Bx Eb21;replace Bb21 := Bx
                        replace Bb1 := Bb1.extN Eb21 (NotIn.cons Db1_b21 NotIn.nil);replace E := E.step1 Eb21 Mut.head;refine rnx (zj (za rfl (zb Tryd.underlying68 rfl sz3 (by decide) rfl (zw (zn sz3 rfl rfl Bb21 rfl rfl (Nat.le_of_ble_eq_true rfl) ?_)))));intro w78 Bx Eb21;replace Bb21 := Bx
                        replace Bb1 := Bb1.extN Eb21 (NotIn.cons Db1_b21 NotIn.nil);replace E := E.step1 Eb21 Mut.head;replace HF := HF.on E;replace LW := LW.step E XLW;have SB : ∀ q9, Mut [(some gb1)] q9 → Mut [(some gb21), (some gb1)] q9 := (Mut.skip (Mut.keep Mut.nil_));replace HF := HF.less SB;replace XLW := fun k h => XLW k (SB k h);clear SB
                        replace E := erx (Mut [(some gb1)]) w78;replace HF := HF.and (Per.blkN Bb21 (NotIn.cons Db21_b1 NotIn.nil));refine yc (zf (zh (srx (za rfl (zo Tryd.underlying68 rfl yk rfl (HF.on E).here.2 rfl (zw (zn yk rfl rfl Bb1 rfl rfl (Nat.le_of_ble_eq_true rfl) ?_)))))));intro w79 Bx Eb1;replace Bb1 := Bx
                        replace E := E.step1 Eb1 Mut.head;replace HF := HF.on E;replace LW := LW.step E XLW;have SB : ∀ q9, No q9 → Mut [(some gb1)] q9 := (Mut.skip Mut.nil_);replace HF := HF.less SB;replace XLW := fun k h => XLW k (SB k h);clear SB;replace E := erx (No) w79;replace HF := HF.and (Per.blkN Bb1 NotIn.nil)
                        refine rnx (zv (zu (rs := [.cell 2 68]) (vs := [_]) rfl ⟨⟨_, rfl, qj Tryd.underlying68 rfl yk (HF.on E).here.2 rfl⟩, trivial⟩ ?_));first | exact ⟨rfl, (LW.step E XLW).toBelow⟩ | exact ⟨by rw [qg (by omega)]; rfl, (LW.step E XLW).toBelow⟩
                       ·
                        refine zy 70 (.bool false) rfl (congrArg Value.bool h23) ?_;replace h23 := beq_eq_false_iff_ne.1 h23;refine srx (za rfl (yn rfl rfl (anx rfl (zr rfl (fun h24 => ?_) (fun h24 => ?_)))))
                        ·
                         refine zy 74 (.bool true) rfl (congrArg Value.bool h24) ?_;replace h24 := eq_of_beq h24;subst h24;refine srx (za rfl (zo Tryd.underlying68 rfl yk rfl (HF.on E).here.1.1.2 rfl (zw (zn yk rfl rfl Bb21 rfl rfl (Nat.le_of_ble_eq_true rfl) ?_))));intro w80 Bx Eb21;replace Bb21 := Bx
                         replace Bb1 := Bb1.extN Eb21 (NotIn.cons Db1_b21 NotIn.nil);replace E := E.step1 Eb21 Mut.head;refine rnx (zj (za rfl (zb Tryd.underlying68 rfl sz3 (by decide) rfl (zw (zn sz3 rfl rfl Bb21 rfl rfl (Nat.le_of_ble_eq_true rfl) ?_)))));intro w81 Bx Eb21;replace Bb21 := Bx
                         replace Bb1 := Bb1.extN Eb21 (NotIn.cons Db1_b21 NotIn.nil);replace E := E.step1 Eb21 Mut.head;refine za rfl (zb Tryd.underlying68 rfl sz3 (by decide) rfl (zw (zn sz3 rfl rfl Bb21 rfl rfl (Nat.le_of_ble_eq_true rfl) ?_)));intro w82 Bx Eb21;replace Bb21 := Bx;replace Bb1 := Bb1.extN Eb21 (NotIn.cons Db1_b21 NotIn.nil)
                         replace E := E.step1 Eb21 Mut.head;refine za rfl (zb Tryd.underlying68 rfl sz3 (by decide) rfl (zw (zn sz3 rfl rfl Bb21 rfl rfl (Nat.le_of_ble_eq_true rfl) ?_)));intro w83 Bx Eb21;replace Bb21 := Bx;replace Bb1 := Bb1.extN Eb21 (NotIn.cons Db1_b21 NotIn.nil);replace E := E.step1 Eb21 Mut.head;replace HF := HF.on E
                         replace LW := LW.step E XLW;have SB : ∀ q9, Mut [(some gb1)] q9 → Mut [(some gb21), (some gb1)] q9 := (Mut.skip (Mut.keep Mut.nil_));replace HF := HF.less SB;replace XLW := fun k h => XLW k (SB k h);clear SB;replace E := erx (Mut [(some gb1)]) w83;replace HF := HF.and (Per.blkN Bb21 (NotIn.cons Db21_b1 NotIn.nil))
                         refine yc (zf (zh (srx (za rfl (zo Tryd.underlying68 rfl yk rfl (HF.on E).here.2 rfl (zw (zn yk rfl rfl Bb1 rfl rfl (Nat.le_of_ble_eq_true rfl) ?_)))))));intro w84 Bx Eb1;replace Bb1 := Bx;replace E := E.step1 Eb1 Mut.head;replace HF := HF.on E;replace LW := LW.step E XLW
                         have SB : ∀ q9, No q9 → Mut [(some gb1)] q9 := (Mut.skip Mut.nil_);replace HF := HF.less SB;replace XLW := fun k h => XLW k (SB k h);clear SB;replace E := erx (No) w84;replace HF := HF.and (Per.blkN Bb1 NotIn.nil)
                         refine rnx (zv (zu (rs := [.cell 2 68]) (vs := [_]) rfl ⟨⟨_, rfl, qj Tryd.underlying68 rfl yk (HF.on E).here.2 rfl⟩, trivial⟩ ?_));first | exact ⟨rfl, (LW.step E XLW).toBelow⟩ | exact ⟨by rw [qg (by omega)]; rfl, (LW.step E XLW).toBelow⟩
                        ·
                         refine zy 74 (.bool false) rfl (congrArg Value.bool h24) ?_;replace h24 := beq_eq_false_iff_ne.1 h24;refine srx (za rfl (yn rfl rfl (anx rfl (zr rfl (fun h25 => ?_) (fun h25 => ?_)))))
                         ·
                          refine zy 80 (.bool true) rfl (congrArg Value.bool h25) ?_;replace h25 := eq_of_beq h25;subst h25;refine srx (za rfl (zo Tryd.underlying68 rfl yk rfl (HF.on E).here.1.1.1.2 rfl (zw (zn yk rfl rfl Bb21 rfl rfl (Nat.le_of_ble_eq_true rfl) ?_))));intro w85 Bx Eb21;replace Bb21 := Bx
                          replace Bb1 := Bb1.extN Eb21 (NotIn.cons Db1_b21 NotIn.nil);replace E := E.step1 Eb21 Mut.head;refine rnx (zj (za rfl (zb Tryd.underlying68 rfl sz3 (by decide) rfl (zw (zn sz3 rfl rfl Bb21 rfl rfl (Nat.le_of_ble_eq_true rfl) ?_)))));intro w86 Bx Eb21;replace Bb21 := Bx
                          replace Bb1 := Bb1.extN Eb21 (NotIn.cons Db1_b21 NotIn.nil);replace E := E.step1 Eb21 Mut.head;refine za rfl (zb Tryd.underlying68 rfl sz3 (by decide) rfl (zw (zn sz3 rfl rfl Bb21 rfl rfl (Nat.le_of_ble_eq_true rfl) ?_)));intro w87 Bx Eb21;replace Bb21 := Bx;replace Bb1 := Bb1.extN Eb21 (NotIn.cons Db1_b21 NotIn.nil)
                          replace E := E.step1 Eb21 Mut.head;refine za rfl (zb Tryd.underlying68 rfl sz3 (by decide) rfl (zw (zn sz3 rfl rfl Bb21 rfl rfl (Nat.le_of_ble_eq_true rfl) ?_)));intro w88 Bx Eb21;replace Bb21 := Bx;replace Bb1 := Bb1.extN Eb21 (NotIn.cons Db1_b21 NotIn.nil);replace E := E.step1 Eb21 Mut.head;replace HF := HF.on E
                          replace LW := LW.step E XLW;have SB : ∀ q9, Mut [(some gb1)] q9 → Mut [(some gb21), (some gb1)] q9 := (Mut.skip (Mut.keep Mut.nil_));replace HF := HF.less SB;replace XLW := fun k h => XLW k (SB k h);clear SB;replace E := erx (Mut [(some gb1)]) w88;replace HF := HF.and (Per.blkN Bb21 (NotIn.cons Db21_b1 NotIn.nil))
                          refine yc (zf (zh (srx (za rfl (zo Tryd.underlying68 rfl yk rfl (HF.on E).here.2 rfl (zw (zn yk rfl rfl Bb1 rfl rfl (Nat.le_of_ble_eq_true rfl) ?_)))))));intro w89 Bx Eb1;replace Bb1 := Bx;replace E := E.step1 Eb1 Mut.head;replace HF := HF.on E;replace LW := LW.step E XLW
                          have SB : ∀ q9, No q9 → Mut [(some gb1)] q9 := (Mut.skip Mut.nil_);replace HF := HF.less SB;replace XLW := fun k h => XLW k (SB k h);clear SB;replace E := erx (No) w89;replace HF := HF.and (Per.blkN Bb1 NotIn.nil)
                          refine rnx (zv (zu (rs := [.cell 2 68]) (vs := [_]) rfl ⟨⟨_, rfl, qj Tryd.underlying68 rfl yk (HF.on E).here.2 rfl⟩, trivial⟩ ?_));first | exact ⟨rfl, (LW.step E XLW).toBelow⟩ | exact ⟨by rw [qg (by omega)]; rfl, (LW.step E XLW).toBelow⟩
                         ·
                          refine zy 80 (.bool false) rfl (congrArg Value.bool h25) ?_;replace h25 := beq_eq_false_iff_ne.1 h25;refine srx (za rfl (yn rfl rfl (anx rfl (zr rfl (fun h26 => ?_) (fun h26 => ?_)))))
                          ·
                           refine zy 86 (.bool true) rfl (congrArg Value.bool h26) ?_;replace h26 := eq_of_beq h26;subst h26;refine srx (za rfl (zo Tryd.underlying68 rfl yk rfl (HF.on E).here.1.1.2 rfl (zw (zn yk rfl rfl Bb21 rfl rfl (Nat.le_of_ble_eq_true rfl) ?_))));intro w90 Bx Eb21;replace Bb21 := Bx
                           replace Bb1 := Bb1.extN Eb21 (NotIn.cons Db1_b21 NotIn.nil);replace E := E.step1 Eb21 Mut.head;refine rnx (zj (za rfl (zb Tryd.underlying68 rfl sz3 (by decide) rfl (zw (zn sz3 rfl rfl Bb21 rfl rfl (Nat.le_of_ble_eq_true rfl) ?_)))));intro w91 Bx Eb21;replace Bb21 := Bx
                           replace Bb1 := Bb1.extN Eb21 (NotIn.cons Db1_b21 NotIn.nil);replace E := E.step1 Eb21 Mut.head;refine za rfl (zb Tryd.underlying68 rfl sz3 (by decide) rfl (zw (zn sz3 rfl rfl Bb21 rfl rfl (Nat.le_of_ble_eq_true rfl) ?_)));intro w92 Bx Eb21;replace Bb21 := Bx;replace Bb1 := Bb1.extN Eb21 (NotIn.cons Db1_b21 NotIn.nil)
                           replace E := E.step1 Eb21 Mut.head;refine za rfl (zb Tryd.underlying68 rfl sz3 (by decide) rfl (zw (zn sz3 rfl rfl Bb21 rfl rfl (Nat.le_of_ble_eq_true rfl) ?_)));intro w93 Bx Eb21;replace Bb21 := Bx;replace Bb1 := Bb1.extN Eb21 (NotIn.cons Db1_b21 NotIn.nil);replace E := E.step1 Eb21 Mut.head;replace HF := HF.on E
                           replace LW := LW.step E XLW;have SB : ∀ q9, Mut [(some gb1)] q9 → Mut [(some gb21), (some gb1)] q9 := (Mut.skip (Mut.keep Mut.nil_));replace HF := HF.less SB;replace XLW := fun k h => XLW k (SB k h);clear SB;replace E := erx (Mut [(some gb1)]) w93;replace HF := HF.and (Per.blkN Bb21 (NotIn.cons Db21_b1 NotIn.nil))
                           refine yc (zf (zh (srx (za rfl (zo Tryd.underlying68 rfl yk rfl (HF.on E).here.2 rfl (zw (zn yk rfl rfl Bb1 rfl rfl (Nat.le_of_ble_eq_true rfl) ?_)))))));intro w94 Bx Eb1;replace Bb1 := Bx;replace E := E.step1 Eb1 Mut.head;replace HF := HF.on E;replace LW := LW.step E XLW
                           have SB : ∀ q9, No q9 → Mut [(some gb1)] q9 := (Mut.skip Mut.nil_);replace HF := HF.less SB;replace XLW := fun k h => XLW k (SB k h);clear SB;replace E := erx (No) w94;replace HF := HF.and (Per.blkN Bb1 NotIn.nil)
                           refine rnx (zv (zu (rs := [.cell 2 68]) (vs := [_]) rfl ⟨⟨_, rfl, qj Tryd.underlying68 rfl yk (HF.on E).here.2 rfl⟩, trivial⟩ ?_));first | exact ⟨rfl, (LW.step E XLW).toBelow⟩ | exact ⟨by rw [qg (by omega)]; rfl, (LW.step E XLW).toBelow⟩
                          ·
                           refine zy 86 (.bool false) rfl (congrArg Value.bool h26) ?_;replace h26 := beq_eq_false_iff_ne.1 h26;refine srx (za rfl (yn rfl rfl (anx rfl (zr rfl (fun h27 => ?_) (fun h27 => ?_)))))
                           ·
                            refine zy 92 (.bool true) rfl (congrArg Value.bool h27) ?_;replace h27 := eq_of_beq h27;subst h27;refine srx (za rfl (zo Tryd.underlying68 rfl yk rfl (HF.on E).here.1.1.1.1.1.2 rfl (zw (zn yk rfl rfl Bb21 rfl rfl (Nat.le_of_ble_eq_true rfl) ?_))));intro w95 Bx Eb21;replace Bb21 := Bx
                            replace Bb1 := Bb1.extN Eb21 (NotIn.cons Db1_b21 NotIn.nil);replace E := E.step1 Eb21 Mut.head;refine rnx (zj (za rfl (zb Tryd.underlying68 rfl sz4 (by decide) rfl (zw (zn sz4 rfl rfl Bb21 rfl rfl (Nat.le_of_ble_eq_true rfl) ?_)))));intro w96 Bx Eb21;replace Bb21 := Bx
                            replace Bb1 := Bb1.extN Eb21 (NotIn.cons Db1_b21 NotIn.nil);replace E := E.step1 Eb21 Mut.head;replace HF := HF.on E;replace LW := LW.step E XLW;have SB : ∀ q9, Mut [(some gb1)] q9 → Mut [(some gb21), (some gb1)] q9 := (Mut.skip (Mut.keep Mut.nil_));replace HF := HF.less SB;replace XLW := fun k h => XLW k (SB k h);clear SB
                            replace E := erx (Mut [(some gb1)]) w96;replace HF := HF.and (Per.blkN Bb21 (NotIn.cons Db21_b1 NotIn.nil));refine yc (zf (zh (srx (za rfl (zo Tryd.underlying68 rfl yk rfl (HF.on E).here.2 rfl (zw (zn yk rfl rfl Bb1 rfl rfl (Nat.le_of_ble_eq_true rfl) ?_)))))));intro w97 Bx Eb1;replace Bb1 := Bx
                            replace E := E.step1 Eb1 Mut.head;replace HF := HF.on E;replace LW := LW.step E XLW;have SB : ∀ q9, No q9 → Mut [(some gb1)] q9 := (Mut.skip Mut.nil_);replace HF := HF.less SB;replace XLW := fun k h => XLW k (SB k h);clear SB;replace E := erx (No) w97;replace HF := HF.and (Per.blkN Bb1 NotIn.nil)
                            refine rnx (zv (zu (rs := [.cell 2 68]) (vs := [_]) rfl ⟨⟨_, rfl, qj Tryd.underlying68 rfl yk (HF.on E).here.2 rfl⟩, trivial⟩ ?_));first | exact ⟨rfl, (LW.step E XLW).toBelow⟩ | exact ⟨by rw [qg (by omega)]; rfl, (LW.step E XLW).toBelow⟩
                           ·
                            refine zy 92 (.bool false) rfl (congrArg Value.bool h27) ?_;replace h27 := beq_eq_false_iff_ne.1 h27;refine zp (srx (za rfl (yn rfl rfl (anx rfl (zr rfl (fun h28 => ?_) (fun h28 => ?_))))))
                            ·
                             refine zy 96 (.bool true) rfl (congrArg Value.bool h28) ?_;replace h28 := eq_of_beq h28;subst h28;refine zq (zh (yr rfl (srx (za rfl (zo Tryd.underlying68 rfl yk rfl (HF.on E).here.1.2 rfl (zw (zn yk rfl rfl Bb21 rfl rfl (Nat.le_of_ble_eq_true rfl) ?_)))))));intro w98 Bx Eb21;replace Bb21 := Bx
                             replace Bb1 := Bb1.extN Eb21 (NotIn.cons Db1_b21 NotIn.nil);replace E := E.step1 Eb21 Mut.head;refine rnx (zj (za rfl (zb Tryd.underlying68 rfl sz4 (by decide) rfl (zw (zn sz4 rfl rfl Bb21 rfl rfl (Nat.le_of_ble_eq_true rfl) ?_)))));intro w99 Bx Eb21;replace Bb21 := Bx
                             replace Bb1 := Bb1.extN Eb21 (NotIn.cons Db1_b21 NotIn.nil);replace E := E.step1 Eb21 Mut.head;replace HF := HF.on E;replace LW := LW.step E XLW;have SB : ∀ q9, Mut [(some gb1)] q9 → Mut [(some gb21), (some gb1)] q9 := (Mut.skip (Mut.keep Mut.nil_));replace HF := HF.less SB;replace XLW := fun k h => XLW k (SB k h);clear SB
                             replace E := erx (Mut [(some gb1)]) w99;replace HF := HF.and (Per.blkN Bb21 (NotIn.cons Db21_b1 NotIn.nil));refine yc (zf (zh (srx (za rfl (zo Tryd.underlying68 rfl yk rfl (HF.on E).here.2 rfl (zw (zn yk rfl rfl Bb1 rfl rfl (Nat.le_of_ble_eq_true rfl) ?_)))))));intro w100 Bx Eb1
                             replace Bb1 := Bx;replace E := E.step1 Eb1 Mut.head;replace HF := HF.on E;replace LW := LW.step E XLW;have SB : ∀ q9, No q9 → Mut [(some gb1)] q9 := (Mut.skip Mut.nil_);replace HF := HF.less SB;replace XLW := fun k h => XLW k (SB k h);clear SB;replace E := erx (No) w100;replace HF := HF.and (Per.blkN Bb1 NotIn.nil)
                             refine rnx (zv (zu (rs := [.cell 2 68]) (vs := [_]) rfl ⟨⟨_, rfl, qj Tryd.underlying68 rfl yk (HF.on E).here.2 rfl⟩, trivial⟩ ?_));first | exact ⟨rfl, (LW.step E XLW).toBelow⟩ | exact ⟨by rw [qg (by omega)]; rfl, (LW.step E XLW).toBelow⟩
                            ·
                             refine zy 96 (.bool false) rfl (congrArg Value.bool h28) ?_;replace h28 := beq_eq_false_iff_ne.1 h28;refine zj (za rfl (yn rfl rfl (anx rfl (zr rfl (fun h29 => ?_) (fun h29 => ?_)))))
                             ·
                              refine zy 96 (.bool true) rfl (congrArg Value.bool h29) ?_;replace h29 := eq_of_beq h29;subst h29;refine srx (za rfl (zo Tryd.underlying68 rfl yk rfl (HF.on E).here.1.2 rfl (zw (zn yk rfl rfl Bb21 rfl rfl (Nat.le_of_ble_eq_true rfl) ?_))));intro w101 Bx Eb21;replace Bb21 := Bx
                              replace Bb1 := Bb1.extN Eb21 (NotIn.cons Db1_b21 NotIn.nil);replace E := E.step1 Eb21 Mut.head;refine rnx (zj (za rfl (zb Tryd.underlying68 rfl sz4 (by decide) rfl (zw (zn sz4 rfl rfl Bb21 rfl rfl (Nat.le_of_ble_eq_true rfl) ?_)))));intro w102 Bx Eb21;replace Bb21 := Bx
                              replace Bb1 := Bb1.extN Eb21 (NotIn.cons Db1_b21 NotIn.nil);replace E := E.step1 Eb21 Mut.head;replace HF := HF.on E;replace LW := LW.step E XLW;have SB : ∀ q9, Mut [(some gb1)] q9 → Mut [(some gb21), (some gb1)] q9 := (Mut.skip (Mut.keep Mut.nil_));replace HF := HF.less SB;replace XLW := fun k h => XLW k (SB k h);clear SB
                              replace E := erx (Mut [(some gb1)]) w102;replace HF := HF.and (Per.blkN Bb21 (NotIn.cons Db21_b1 NotIn.nil));refine yc (zf (zh (srx (za rfl (zo Tryd.underlying68 rfl yk rfl (HF.on E).here.2 rfl (zw (zn yk rfl rfl Bb1 rfl rfl (Nat.le_of_ble_eq_true rfl) ?_)))))));intro w103 Bx Eb1
                              replace Bb1 := Bx;replace E := E.step1 Eb1 Mut.head;replace HF := HF.on E;replace LW := LW.step E XLW;have SB : ∀ q9, No q9 → Mut [(some gb1)] q9 := (Mut.skip Mut.nil_);replace HF := HF.less SB;replace XLW := fun k h => XLW k (SB k h);clear SB;replace E := erx (No) w103;replace HF := HF.and (Per.blkN Bb1 NotIn.nil)
                              refine rnx (zv (zu (rs := [.cell 2 68]) (vs := [_]) rfl ⟨⟨_, rfl, qj Tryd.underlying68 rfl yk (HF.on E).here.2 rfl⟩, trivial⟩ ?_));first | exact ⟨rfl, (LW.step E XLW).toBelow⟩ | exact ⟨by rw [qg (by omega)]; rfl, (LW.step E XLW).toBelow⟩
                             ·
                              refine zy 96 (.bool false) rfl (congrArg Value.bool h29) ?_;replace h29 := beq_eq_false_iff_ne.1 h29;refine srx (za rfl (yn rfl rfl (anx rfl (zr rfl (fun h30 => ?_) (fun h30 => ?_)))))
                              ·
                               refine zy 101 (.bool true) rfl (congrArg Value.bool h30) ?_;replace h30 := eq_of_beq h30;subst h30;refine srx (za rfl (zo Tryd.underlying68 rfl yk rfl (HF.on E).here.1.1.1.2 rfl (zw (zn yk rfl rfl Bb21 rfl rfl (Nat.le_of_ble_eq_true rfl) ?_))));intro w104 Bx Eb21;replace Bb21 := Bx
                               replace Bb1 := Bb1.extN Eb21 (NotIn.cons Db1_b21 NotIn.nil);replace E := E.step1 Eb21 Mut.head;refine rnx (zj (za rfl (zb Tryd.underlying68 rfl sz3 (by decide) rfl (zw (zn sz3 rfl rfl Bb21 rfl rfl (Nat.le_of_ble_eq_true rfl) ?_)))));intro w105 Bx Eb21;replace Bb21 := Bx
                               replace Bb1 := Bb1.extN Eb21 (NotIn.cons Db1_b21 NotIn.nil);replace E := E.step1 Eb21 Mut.head;replace HF := HF.on E;replace LW := LW.step E XLW;have SB : ∀ q9, Mut [(some gb1)] q9 → Mut [(some gb21), (some gb1)] q9 := (Mut.skip (Mut.keep Mut.nil_));replace HF := HF.less SB;replace XLW := fun k h => XLW k (SB k h);clear SB
                               replace E := erx (Mut [(some gb1)]) w105;replace HF := HF.and (Per.blkN Bb21 (NotIn.cons Db21_b1 NotIn.nil));refine yc (zf (zh (srx (za rfl (zo Tryd.underlying68 rfl yk rfl (HF.on E).here.2 rfl (zw (zn yk rfl rfl Bb1 rfl rfl (Nat.le_of_ble_eq_true rfl) ?_)))))));intro w106 Bx Eb1
                               replace Bb1 := Bx;replace E := E.step1 Eb1 Mut.head;replace HF := HF.on E;replace LW := LW.step E XLW;have SB : ∀ q9, No q9 → Mut [(some gb1)] q9 := (Mut.skip Mut.nil_);replace HF := HF.less SB;replace XLW := fun k h => XLW k (SB k h);clear SB;replace E := erx (No) w106;replace HF := HF.and (Per.blkN Bb1 NotIn.nil)
                               refine rnx (zv (zu (rs := [.cell 2 68]) (vs := [_]) rfl ⟨⟨_, rfl, qj Tryd.underlying68 rfl yk (HF.on E).here.2 rfl⟩, trivial⟩ ?_));first | exact ⟨rfl, (LW.step E XLW).toBelow⟩ | exact ⟨by rw [qg (by omega)]; rfl, (LW.step E XLW).toBelow⟩
                              ·
                               refine zy 101 (.bool false) rfl (congrArg Value.bool h30) ?_;replace h30 := beq_eq_false_iff_ne.1 h30;refine srx (za rfl (yn rfl rfl (anx rfl (zr rfl (fun h31 => ?_) (fun h31 => ?_)))))
                               ·
                                refine zy 105 (.bool true) rfl (congrArg Value.bool h31) ?_;replace h31 := eq_of_beq h31;subst h31;refine srx (za rfl (zo Tryd.underlying68 rfl yk rfl (HF.on E).here.1.1.1.2 rfl (zw (zn yk rfl rfl Bb21 rfl rfl (Nat.le_of_ble_eq_true rfl) ?_))));intro w107 Bx Eb21;replace Bb21 := Bx
                                replace Bb1 := Bb1.extN Eb21 (NotIn.cons Db1_b21 NotIn.nil);replace E := E.step1 Eb21 Mut.head;refine rnx (zj (za rfl (zb Tryd.underlying68 rfl sz3 (by decide) rfl (zw (zn sz3 rfl rfl Bb21 rfl rfl (Nat.le_of_ble_eq_true rfl) ?_)))));intro w108 Bx Eb21;replace Bb21 := Bx
                                replace Bb1 := Bb1.extN Eb21 (NotIn.cons Db1_b21 NotIn.nil);replace E := E.step1 Eb21 Mut.head;replace HF := HF.on E;replace LW := LW.step E XLW;have SB : ∀ q9, Mut [(some gb1)] q9 → Mut [(some gb21), (some gb1)] q9 := (Mut.skip (Mut.keep Mut.nil_));replace HF := HF.less SB;replace XLW := fun k h => XLW k (SB k h);clear SB
                                replace E := erx (Mut [(some gb1)]) w108;replace HF := HF.and (Per.blkN Bb21 (NotIn.cons Db21_b1 NotIn.nil));refine yc (zf (zh (srx (za rfl (zo Tryd.underlying68 rfl yk rfl (HF.on E).here.2 rfl (zw (zn yk rfl rfl Bb1 rfl rfl (Nat.le_of_ble_eq_true rfl) ?_)))))));intro w109 Bx Eb1
                                replace Bb1 := Bx;replace E := E.step1 Eb1 Mut.head;replace HF := HF.on E;replace LW := LW.step E XLW;have SB : ∀ q9, No q9 → Mut [(some gb1)] q9 := (Mut.skip Mut.nil_);replace HF := HF.less SB;replace XLW := fun k h => XLW k (SB k h);clear SB;replace E := erx (No) w109;replace HF := HF.and (Per.blkN Bb1 NotIn.nil)
                                refine rnx (zv (zu (rs := [.cell 2 68]) (vs := [_]) rfl ⟨⟨_, rfl, qj Tryd.underlying68 rfl yk (HF.on E).here.2 rfl⟩, trivial⟩ ?_));first | exact ⟨rfl, (LW.step E XLW).toBelow⟩ | exact ⟨by rw [qg (by omega)]; rfl, (LW.step E XLW).toBelow⟩
                               ·
                                refine zy 105 (.bool false) rfl (congrArg Value.bool h31) ?_;replace h31 := beq_eq_false_iff_ne.1 h31;refine srx (za rfl (yn rfl rfl (anx rfl (zr rfl (fun h32 => ?_) (fun h32 => ?_)))))
                                ·
                                 refine zy 109 (.bool true) rfl (congrArg Value.bool h32) ?_;replace h32 := eq_of_beq h32;subst h32;refine srx (za rfl (zo Tryd.underlying68 rfl yk rfl (HF.on E).here.2 rfl (zw (zn yk rfl rfl Bb21 rfl rfl (Nat.le_of_ble_eq_true rfl) ?_))));intro w110 Bx Eb21;replace Bb21 := Bx
                                 replace Bb1 := Bb1.extN Eb21 (NotIn.cons Db1_b21 NotIn.nil);replace E := E.step1 Eb21 Mut.head;refine rnx (zj (za rfl (zb Tryd.underlying68 rfl sz3 (by decide) rfl (zw (zn sz3 rfl rfl Bb21 rfl rfl (Nat.le_of_ble_eq_true rfl) ?_)))));intro w111 Bx Eb21;replace Bb21 := Bx
                                 replace Bb1 := Bb1.extN Eb21 (NotIn.cons Db1_b21 NotIn.nil);replace E := E.step1 Eb21 Mut.head;replace HF := HF.on E;replace LW := LW.step E XLW;have SB : ∀ q9, Mut [(some gb1)] q9 → Mut [(some gb21), (some gb1)] q9 := (Mut.skip (Mut.keep Mut.nil_));replace HF := HF.less SB;replace XLW := fun k h => XLW k (SB k h);clear SB
                                 replace E := erx (Mut [(some gb1)]) w111;replace HF := HF.and (Per.blkN Bb21 (NotIn.cons Db21_b1 NotIn.nil));refine yc (zf (zh (srx (za rfl (zo Tryd.underlying68 rfl yk rfl (HF.on E).here.2 rfl (zw (zn yk rfl rfl Bb1 rfl rfl (Nat.le_of_ble_eq_true rfl) ?_)))))));intro w112 Bx Eb1
                                 replace Bb1 := Bx;replace E := E.step1 Eb1 Mut.head;replace HF := HF.on E;replace LW := LW.step E XLW;have SB : ∀ q9, No q9 → Mut [(some gb1)] q9 := (Mut.skip Mut.nil_);replace HF := HF.less SB;replace XLW := fun k h => XLW k (SB k h);clear SB;replace E := erx (No) w112;replace HF := HF.and (Per.blkN Bb1 NotIn.nil)
                                 refine rnx (zv (zu (rs := [.cell 2 68]) (vs := [_]) rfl ⟨⟨_, rfl, qj Tryd.underlying68 rfl yk (HF.on E).here.2 rfl⟩, trivial⟩ ?_));first | exact ⟨rfl, (LW.step E XLW).toBelow⟩ | exact ⟨by rw [qg (by omega)]; rfl, (LW.step E XLW).toBelow⟩
                                ·
                                 refine zy 109 (.bool false) rfl (congrArg Value.bool h32) ?_;replace h32 := beq_eq_false_iff_ne.1 h32;refine zp (srx (za rfl (yn rfl rfl (anx rfl (zr rfl (fun h33 => ?_) (fun h33 => ?_))))))
                                 ·
                                  refine zy 113 (.bool true) rfl (congrArg Value.bool h33) ?_;replace h33 := eq_of_beq h33;subst h33;refine zq (zh (yr rfl (zj (za rfl (zo Tryd.underlying68 rfl yk rfl (HF.on E).here.1.1.2 rfl (zw (zn yk rfl rfl Bb21 rfl rfl (Nat.le_of_ble_eq_true rfl) ?_)))))));intro w113 Bx Eb21
                                  replace Bb21 := Bx;replace Bb1 := Bb1.extN Eb21 (NotIn.cons Db1_b21 NotIn.nil);replace E := E.step1 Eb21 Mut.head;replace HF := HF.on E;replace LW := LW.step E XLW;have SB : ∀ q9, Mut [(some gb1)] q9 → Mut [(some gb21), (some gb1)] q9 := (Mut.skip (Mut.keep Mut.nil_));replace HF := HF.less SB
                                  replace XLW := fun k h => XLW k (SB k h);clear SB;replace E := erx (Mut [(some gb1)]) w113;replace HF := HF.and (Per.blkN Bb21 (NotIn.cons Db21_b1 NotIn.nil))
                                  refine yc (zf (zh (srx (za rfl (zo Tryd.underlying68 rfl yk rfl (HF.on E).here.2 rfl (zw (zn yk rfl rfl Bb1 rfl rfl (Nat.le_of_ble_eq_true rfl) ?_)))))));intro w114 Bx Eb1;replace Bb1 := Bx;replace E := E.step1 Eb1 Mut.head;replace HF := HF.on E;replace LW := LW.step E XLW
                                  have SB : ∀ q9, No q9 → Mut [(some gb1)] q9 := (Mut.skip Mut.nil_);replace HF := HF.less SB;replace XLW := fun k h => XLW k (SB k h);clear SB;replace E := erx (No) w114;replace HF := HF.and (Per.blkN Bb1 NotIn.nil)
                                  refine rnx (zv (zu (rs := [.cell 2 68]) (vs := [_]) rfl ⟨⟨_, rfl, qj Tryd.underlying68 rfl yk (HF.on E).here.2 rfl⟩, trivial⟩ ?_));first | exact ⟨rfl, (LW.step E XLW).toBelow⟩ | exact ⟨by rw [qg (by omega)]; rfl, (LW.step E XLW).toBelow⟩
                                 ·
                                  refine zy 113 (.bool false) rfl (congrArg Value.bool h33) ?_;replace h33 := beq_eq_false_iff_ne.1 h33;refine zj (za rfl (yn rfl rfl (anx rfl (zr rfl (fun h34 => ?_) (fun h34 => ?_)))))
                                  ·
                                   refine zy 113 (.bool true) rfl (congrArg Value.bool h34) ?_;replace h34 := eq_of_beq h34;subst h34;refine zj (za rfl (zo Tryd.underlying68 rfl yk rfl (HF.on E).here.1.1.2 rfl (zw (zn yk rfl rfl Bb21 rfl rfl (Nat.le_of_ble_eq_true rfl) ?_))));intro w115 Bx Eb21;replace Bb21 := Bx
                                   replace Bb1 := Bb1.extN Eb21 (NotIn.cons Db1_b21 NotIn.nil);replace E := E.step1 Eb21 Mut.head;replace HF := HF.on E;replace LW := LW.step E XLW;have SB : ∀ q9, Mut [(some gb1)] q9 → Mut [(some gb21), (some gb1)] q9 := (Mut.skip (Mut.keep Mut.nil_));replace HF := HF.less SB;replace XLW := fun k h => XLW k (SB k h);clear SB
                                   replace E := erx (Mut [(some gb1)]) w115;replace HF := HF.and (Per.blkN Bb21 (NotIn.cons Db21_b1 NotIn.nil));refine yc (zf (zh (srx (za rfl (zo Tryd.underlying68 rfl yk rfl (HF.on E).here.2 rfl (zw (zn yk rfl rfl Bb1 rfl rfl (Nat.le_of_ble_eq_true rfl) ?_)))))));intro w116 Bx Eb1
                                   replace Bb1 := Bx;replace E := E.step1 Eb1 Mut.head;replace HF := HF.on E;replace LW := LW.step E XLW;have SB : ∀ q9, No q9 → Mut [(some gb1)] q9 := (Mut.skip Mut.nil_);replace HF := HF.less SB;replace XLW := fun k h => XLW k (SB k h);clear SB;replace E := erx (No) w116;replace HF := HF.and (Per.blkN Bb1 NotIn.nil)
                                   refine rnx (zv (zu (rs := [.cell 2 68]) (vs := [_]) rfl ⟨⟨_, rfl, qj Tryd.underlying68 rfl yk (HF.on E).here.2 rfl⟩, trivial⟩ ?_));first | exact ⟨rfl, (LW.step E XLW).toBelow⟩ | exact ⟨by rw [qg (by omega)]; rfl, (LW.step E XLW).toBelow⟩
                                  ·
                                   refine zy 113 (.bool false) rfl (congrArg Value.bool h34) ?_;replace h34 := beq_eq_false_iff_ne.1 h34;refine srx (za rfl (yn rfl rfl (anx rfl (zr rfl (fun h35 => ?_) (fun h35 => ?_)))))
                                   ·
                                    refine zy 117 (.bool true) rfl (congrArg Value.bool h35) ?_;replace h35 := eq_of_beq h35;subst h35;refine srx (za rfl (zo Tryd.underlying68 rfl yk rfl (HF.on E).here.2 rfl (zw (zn yk rfl rfl Bb21 rfl rfl (Nat.le_of_ble_eq_true rfl) ?_))));intro w117 Bx Eb21;replace Bb21 := Bx
                                    replace Bb1 := Bb1.extN Eb21 (NotIn.cons Db1_b21 NotIn.nil);replace E := E.step1 Eb21 Mut.head;refine rnx (zj (za rfl (zb Tryd.underlying68 rfl sz3 (by decide) rfl (zw (zn sz3 rfl rfl Bb21 rfl rfl (Nat.le_of_ble_eq_true rfl) ?_)))));intro w118 Bx Eb21;replace Bb21 := Bx
                                    replace Bb1 := Bb1.extN Eb21 (NotIn.cons Db1_b21 NotIn.nil);replace E := E.step1 Eb21 Mut.head;replace HF := HF.on E;replace LW := LW.step E XLW;have SB : ∀ q9, Mut [(some gb1)] q9 → Mut [(some gb21), (some gb1)] q9 := (Mut.skip (Mut.keep Mut.nil_));replace HF := HF.less SB;replace XLW := fun k h => XLW k (SB k h);clear SB
                                    replace E := erx (Mut [(some gb1)]) w118;replace HF := HF.and (Per.blkN Bb21 (NotIn.cons Db21_b1 NotIn.nil));refine yc (zf (zh (srx (za rfl (zo Tryd.underlying68 rfl yk rfl (HF.on E).here.2 rfl (zw (zn yk rfl rfl Bb1 rfl rfl (Nat.le_of_ble_eq_true rfl) ?_)))))));intro w119 Bx Eb1
                                    replace Bb1 := Bx;replace E := E.step1 Eb1 Mut.head;replace HF := HF.on E;replace LW := LW.step E XLW;have SB : ∀ q9, No q9 → Mut [(some gb1)] q9 := (Mut.skip Mut.nil_);replace HF := HF.less SB;replace XLW := fun k h => XLW k (SB k h);clear SB;replace E := erx (No) w119;replace HF := HF.and (Per.blkN Bb1 NotIn.nil)
                                    refine rnx (zv (zu (rs := [.cell 2 68]) (vs := [_]) rfl ⟨⟨_, rfl, qj Tryd.underlying68 rfl yk (HF.on E).here.2 rfl⟩, trivial⟩ ?_));first | exact ⟨rfl, (LW.step E XLW).toBelow⟩ | exact ⟨by rw [qg (by omega)]; rfl, (LW.step E XLW).toBelow⟩
                                   ·
                                    refine zy 117 (.bool false) rfl (congrArg Value.bool h35) ?_;replace h35 := beq_eq_false_iff_ne.1 h35;refine srx (za rfl (yn rfl rfl (anx rfl (zr rfl (fun h36 => ?_) (fun h36 => ?_)))))
                                    ·
                                     refine zy 121 (.bool true) rfl (congrArg Value.bool h36) ?_;replace h36 := eq_of_beq h36;subst h36;refine srx (za rfl (zo Tryd.underlying68 rfl yk rfl (HF.on E).here.1.1.1.2 rfl (zw (zn yk rfl rfl Bb21 rfl rfl (Nat.le_of_ble_eq_true rfl) ?_))));intro w120 Bx Eb21;replace Bb21 := Bx
                                     replace Bb1 := Bb1.extN Eb21 (NotIn.cons Db1_b21 NotIn.nil);replace E := E.step1 Eb21 Mut.head;refine rnx (zj (za rfl (zb Tryd.underlying68 rfl sz3 (by decide) rfl (zw (zn sz3 rfl rfl Bb21 rfl rfl (Nat.le_of_ble_eq_true rfl) ?_)))));intro w121 Bx Eb21;replace Bb21 := Bx
                                     replace Bb1 := Bb1.extN Eb21 (NotIn.cons Db1_b21 NotIn.nil);replace E := E.step1 Eb21 Mut.head;replace HF := HF.on E;replace LW := LW.step E XLW;have SB : ∀ q9, Mut [(some gb1)] q9 → Mut [(some gb21), (some gb1)] q9 := (Mut.skip (Mut.keep Mut.nil_));replace HF := HF.less SB;replace XLW := fun k h => XLW k (SB k h);clear SB
                                     replace E := erx (Mut [(some gb1)]) w121;replace HF := HF.and (Per.blkN Bb21 (NotIn.cons Db21_b1 NotIn.nil));refine yc (zf (zh (srx (za rfl (zo Tryd.underlying68 rfl yk rfl (HF.on E).here.2 rfl (zw (zn yk rfl rfl Bb1 rfl rfl (Nat.le_of_ble_eq_true rfl) ?_)))))));intro w122 Bx Eb1
                                     replace Bb1 := Bx;replace E := E.step1 Eb1 Mut.head;replace HF := HF.on E;replace LW := LW.step E XLW;have SB : ∀ q9, No q9 → Mut [(some gb1)] q9 := (Mut.skip Mut.nil_);replace HF := HF.less SB;replace XLW := fun k h => XLW k (SB k h);clear SB;replace E := erx (No) w122;replace HF := HF.and (Per.blkN Bb1 NotIn.nil)
                                     refine rnx (zv (zu (rs := [.cell 2 68]) (vs := [_]) rfl ⟨⟨_, rfl, qj Tryd.underlying68 rfl yk (HF.on E).here.2 rfl⟩, trivial⟩ ?_));first | exact ⟨rfl, (LW.step E XLW).toBelow⟩ | exact ⟨by rw [qg (by omega)]; rfl, (LW.step E XLW).toBelow⟩
                                    ·
                                     refine zy 121 (.bool false) rfl (congrArg Value.bool h36) ?_;replace h36 := beq_eq_false_iff_ne.1 h36;refine zp (srx (za rfl (yn rfl rfl (anx rfl (zr rfl (fun h37 => ?_) (fun h37 => ?_))))))
                                     ·
                                      refine zy 125 (.bool true) rfl (congrArg Value.bool h37) ?_;replace h37 := eq_of_beq h37;subst h37;refine zq (zh (yr rfl (srx (za rfl (zo Tryd.underlying68 rfl yk rfl (HF.on E).here.1.1.1.1.2 rfl (zw (zn yk rfl rfl Bb21 rfl rfl (Nat.le_of_ble_eq_true rfl) ?_)))))))
                                      intro w123 Bx Eb21;replace Bb21 := Bx;replace Bb1 := Bb1.extN Eb21 (NotIn.cons Db1_b21 NotIn.nil);replace E := E.step1 Eb21 Mut.head;refine rnx (zj (za rfl (zb Tryd.underlying68 rfl sz3 (by decide) rfl (zw (zn sz3 rfl rfl Bb21 rfl rfl (Nat.le_of_ble_eq_true rfl) ?_)))));intro w124 Bx Eb21
                                      replace Bb21 := Bx;replace Bb1 := Bb1.extN Eb21 (NotIn.cons Db1_b21 NotIn.nil);replace E := E.step1 Eb21 Mut.head;replace HF := HF.on E;replace LW := LW.step E XLW;have SB : ∀ q9, Mut [(some gb1)] q9 → Mut [(some gb21), (some gb1)] q9 := (Mut.skip (Mut.keep Mut.nil_));replace HF := HF.less SB
                                      replace XLW := fun k h => XLW k (SB k h);clear SB;replace E := erx (Mut [(some gb1)]) w124;replace HF := HF.and (Per.blkN Bb21 (NotIn.cons Db21_b1 NotIn.nil))
                                      refine yc (zf (zh (srx (za rfl (zo Tryd.underlying68 rfl yk rfl (HF.on E).here.2 rfl (zw (zn yk rfl rfl Bb1 rfl rfl (Nat.le_of_ble_eq_true rfl) ?_)))))));intro w125 Bx Eb1;replace Bb1 := Bx;replace E := E.step1 Eb1 Mut.head;replace HF := HF.on E;replace LW := LW.step E XLW
                                      have SB : ∀ q9, No q9 → Mut [(some gb1)] q9 := (Mut.skip Mut.nil_);replace HF := HF.less SB;replace XLW := fun k h => XLW k (SB k h);clear SB;replace E := erx (No) w125;replace HF := HF.and (Per.blkN Bb1 NotIn.nil)
                                      refine rnx (zv (zu (rs := [.cell 2 68]) (vs := [_]) rfl ⟨⟨_, rfl, qj Tryd.underlying68 rfl yk (HF.on E).here.2 rfl⟩, trivial⟩ ?_));first | exact ⟨rfl, (LW.step E XLW).toBelow⟩ | exact ⟨by rw [qg (by omega)]; rfl, (LW.step E XLW).toBelow⟩
                                     ·
                                      refine zy 125 (.bool false) rfl (congrArg Value.bool h37) ?_;replace h37 := beq_eq_false_iff_ne.1 h37;refine srx (za rfl (yn rfl rfl (anx rfl (zr rfl (fun h38 => ?_) (fun h38 => ?_)))))
                                      ·
                                       refine zy 125 (.bool true) rfl (congrArg Value.bool h38) ?_;replace h38 := eq_of_beq h38;subst h38;refine zq (zh (yr rfl (srx (za rfl (zo Tryd.underlying68 rfl yk rfl (HF.on E).here.1.1.1.1.2 rfl (zw (zn yk rfl rfl Bb21 rfl rfl (Nat.le_of_ble_eq_true rfl) ?_)))))))
                                       intro w126 Bx Eb21;replace Bb21 := Bx;replace Bb1 := Bb1.extN Eb21 (NotIn.cons Db1_b21 NotIn.nil);replace E := E.step1 Eb21 Mut.head;refine rnx (zj (za rfl (zb Tryd.underlying68 rfl sz3 (by decide) rfl (zw (zn sz3 rfl rfl Bb21 rfl rfl (Nat.le_of_ble_eq_true rfl) ?_)))));intro w127 Bx Eb21
                                       replace Bb21 := Bx;replace Bb1 := Bb1.extN Eb21 (NotIn.cons Db1_b21 NotIn.nil);replace E := E.step1 Eb21 Mut.head;replace HF := HF.on E;replace LW := LW.step E XLW;have SB : ∀ q9, Mut [(some gb1)] q9 → Mut [(some gb21), (some gb1)] q9 := (Mut.skip (Mut.keep Mut.nil_));replace HF := HF.less SB
                                       replace XLW := fun k h => XLW k (SB k h);clear SB;replace E := erx (Mut [(some gb1)]) w127;replace HF := HF.and (Per.blkN Bb21 (NotIn.cons Db21_b1 NotIn.nil))
                                       refine yc (zf (zh (srx (za rfl (zo Tryd.underlying68 rfl yk rfl (HF.on E).here.2 rfl (zw (zn yk rfl rfl Bb1 rfl rfl (Nat.le_of_ble_eq_true rfl) ?_)))))));intro w128 Bx Eb1;replace Bb1 := Bx;replace E := E.step1 Eb1 Mut.head;replace HF := HF.on E;replace LW := LW.step E XLW
                                       have SB : ∀ q9, No q9 → Mut [(some gb1)] q9 := (Mut.skip Mut.nil_);replace HF := HF.less SB;replace XLW := fun k h => XLW k (SB k h);clear SB;replace E := erx (No) w128;replace HF := HF.and (Per.blkN Bb1 NotIn.nil)
                                       refine rnx (zv (zu (rs := [.cell 2 68]) (vs := [_]) rfl ⟨⟨_, rfl, qj Tryd.underlying68 rfl yk (HF.on E).here.2 rfl⟩, trivial⟩ ?_));first | exact ⟨rfl, (LW.step E XLW).toBelow⟩ | exact ⟨by rw [qg (by omega)]; rfl, (LW.step E XLW).toBelow⟩
                                      ·
                                       refine zy 125 (.bool false) rfl (congrArg Value.bool h38) ?_;replace h38 := beq_eq_false_iff_ne.1 h38;refine zj (za rfl (yn rfl rfl (anx rfl (zr rfl (fun h39 => ?_) (fun h39 => ?_)))))
                                       ·
                                        refine zy 125 (.bool true) rfl (congrArg Value.bool h39) ?_;replace h39 := eq_of_beq h39;subst h39;refine srx (za rfl (zo Tryd.underlying68 rfl yk rfl (HF.on E).here.1.1.1.1.2 rfl (zw (zn yk rfl rfl Bb21 rfl rfl (Nat.le_of_ble_eq_true rfl) ?_))));intro w129 Bx Eb21;replace Bb21 := Bx
                                        replace Bb1 := Bb1.extN Eb21 (NotIn.cons Db1_b21 NotIn.nil);replace E := E.step1 Eb21 Mut.head;refine rnx (zj (za rfl (zb Tryd.underlying68 rfl sz3 (by decide) rfl (zw (zn sz3 rfl rfl Bb21 rfl rfl (Nat.le_of_ble_eq_true rfl) ?_)))));intro w130 Bx Eb21;replace Bb21 := Bx
                                        replace Bb1 := Bb1.extN Eb21 (NotIn.cons Db1_b21 NotIn.nil);replace E := E.step1 Eb21 Mut.head;replace HF := HF.on E;replace LW := LW.step E XLW;have SB : ∀ q9, Mut [(some gb1)] q9 → Mut [(some gb21), (some gb1)] q9 := (Mut.skip (Mut.keep Mut.nil_));replace HF := HF.less SB;replace XLW := fun k h => XLW k (SB k h)
                                        clear SB;replace E := erx (Mut [(some gb1)]) w130;replace HF := HF.and (Per.blkN Bb21 (NotIn.cons Db21_b1 NotIn.nil));refine yc (zf (zh (srx (za rfl (zo Tryd.underlying68 rfl yk rfl (HF.on E).here.2 rfl (zw (zn yk rfl rfl Bb1 rfl rfl (Nat.le_of_ble_eq_true rfl) ?_)))))))
                                        intro w131 Bx Eb1;replace Bb1 := Bx;replace E := E.step1 Eb1 Mut.head;replace HF := HF.on E;replace LW := LW.step E XLW;have SB : ∀ q9, No q9 → Mut [(some gb1)] q9 := (Mut.skip Mut.nil_);replace HF := HF.less SB;replace XLW := fun k h => XLW k (SB k h);clear SB;replace E := erx (No) w131
                                        replace HF := HF.and (Per.blkN Bb1 NotIn.nil);refine rnx (zv (zu (rs := [.cell 2 68]) (vs := [_]) rfl ⟨⟨_, rfl, qj Tryd.underlying68 rfl yk (HF.on E).here.2 rfl⟩, trivial⟩ ?_));first | exact ⟨rfl, (LW.step E XLW).toBelow⟩ | exact ⟨by rw [qg (by omega)]; rfl, (LW.step E XLW).toBelow⟩
                                       ·
                                        refine zy 125 (.bool false) rfl (congrArg Value.bool h39) ?_;replace h39 := beq_eq_false_iff_ne.1 h39;refine srx (za rfl (yn rfl rfl (anx rfl (zr rfl (fun h40 => ?_) (fun h40 => ?_)))))
                                        ·
                                         refine zy 131 (.bool true) rfl (congrArg Value.bool h40) ?_;replace h40 := eq_of_beq h40;subst h40;refine srx (za rfl (zo Tryd.underlying68 rfl yk rfl (HF.on E).here.1.1.1.1.2 rfl (zw (zn yk rfl rfl Bb21 rfl rfl (Nat.le_of_ble_eq_true rfl) ?_))));intro w132 Bx Eb21;replace Bb21 := Bx
                                         replace Bb1 := Bb1.extN Eb21 (NotIn.cons Db1_b21 NotIn.nil);replace E := E.step1 Eb21 Mut.head;refine rnx (zj (za rfl (zb Tryd.underlying68 rfl sz3 (by decide) rfl (zw (zn sz3 rfl rfl Bb21 rfl rfl (Nat.le_of_ble_eq_true rfl) ?_)))));intro w133 Bx Eb21;replace Bb21 := Bx
                                         replace Bb1 := Bb1.extN Eb21 (NotIn.cons Db1_b21 NotIn.nil);replace E := E.step1 Eb21 Mut.head;replace HF := HF.on E;replace LW := LW.step E XLW;have SB : ∀ q9, Mut [(some gb1)] q9 → Mut [(some gb21), (some gb1)] q9 := (Mut.skip (Mut.keep Mut.nil_));replace HF := HF.less SB;replace XLW := fun k h => XLW k (SB k h)
                                         clear SB;replace E := erx (Mut [(some gb1)]) w133;replace HF := HF.and (Per.blkN Bb21 (NotIn.cons Db21_b1 NotIn.nil));refine yc (zf (zh (srx (za rfl (zo Tryd.underlying68 rfl yk rfl (HF.on E).here.2 rfl (zw (zn yk rfl rfl Bb1 rfl rfl (Nat.le_of_ble_eq_true rfl) ?_)))))))
                                         intro w134 Bx Eb1;replace Bb1 := Bx;replace E := E.step1 Eb1 Mut.head;replace HF := HF.on E;replace LW := LW.step E XLW;have SB : ∀ q9, No q9 → Mut [(some gb1)] q9 := (Mut.skip Mut.nil_);replace HF := HF.less SB;replace XLW := fun k h => XLW k (SB k h);clear SB;replace E := erx (No) w134
                                         replace HF := HF.and (Per.blkN Bb1 NotIn.nil);refine rnx (zv (zu (rs := [.cell 2 68]) (vs := [_]) rfl ⟨⟨_, rfl, qj Tryd.underlying68 rfl yk (HF.on E).here.2 rfl⟩, trivial⟩ ?_));first | exact ⟨rfl, (LW.step E XLW).toBelow⟩ | exact ⟨by rw [qg (by omega)]; rfl, (LW.step E XLW).toBelow⟩
                                        ·
                                         refine zy 131 (.bool false) rfl (congrArg Value.bool h40) ?_;replace h40 := beq_eq_false_iff_ne.1 h40;refine srx (za rfl (yn rfl rfl (anx rfl (zr rfl (fun h41 => ?_) (fun h41 => ?_)))))
                                         ·
                                          refine zy 135 (.bool true) rfl (congrArg Value.bool h41) ?_;replace h41 := eq_of_beq h41;subst h41;refine srx (za rfl (zo Tryd.underlying68 rfl yk rfl (HF.on E).here.1.2 rfl (zw (zn yk rfl rfl Bb21 rfl rfl (Nat.le_of_ble_eq_true rfl) ?_))));intro w135 Bx Eb21;replace Bb21 := Bx
                                          replace Bb1 := Bb1.extN Eb21 (NotIn.cons Db1_b21 NotIn.nil);replace E := E.step1 Eb21 Mut.head;refine rnx (zj (za rfl (zb Tryd.underlying68 rfl sz3 (by decide) rfl (zw (zn sz3 rfl rfl Bb21 rfl rfl (Nat.le_of_ble_eq_true rfl) ?_)))));intro w136 Bx Eb21;replace Bb21 := Bx
                                          replace Bb1 := Bb1.extN Eb21 (NotIn.cons Db1_b21 NotIn.nil);replace E := E.step1 Eb21 Mut.head;replace HF := HF.on E;replace LW := LW.step E XLW;have SB : ∀ q9, Mut [(some gb1)] q9 → Mut [(some gb21), (some gb1)] q9 := (Mut.skip (Mut.keep Mut.nil_));replace HF := HF.less SB;replace XLW := fun k h => XLW k (SB k h)
                                          clear SB;replace E := erx (Mut [(some gb1)]) w136;replace HF := HF.and (Per.blkN Bb21 (NotIn.cons Db21_b1 NotIn.nil))
                                          refine yc (zf (zh (srx (za rfl (zo Tryd.underlying68 rfl yk rfl (HF.on E).here.2 rfl (zw (zn yk rfl rfl Bb1 rfl rfl (Nat.le_of_ble_eq_true rfl) ?_)))))));intro w137 Bx Eb1;replace Bb1 := Bx;replace E := E.step1 Eb1 Mut.head;replace HF := HF.on E
                                          replace LW := LW.step E XLW;have SB : ∀ q9, No q9 → Mut [(some gb1)] q9 := (Mut.skip Mut.nil_);replace HF := HF.less SB;replace XLW := fun k h => XLW k (SB k h);clear SB;replace E := erx (No) w137;replace HF := HF.and (Per.blkN Bb1 NotIn.nil)
                                          refine rnx (zv (zu (rs := [.cell 2 68]) (vs := [_]) rfl ⟨⟨_, rfl, qj Tryd.underlying68 rfl yk (HF.on E).here.2 rfl⟩, trivial⟩ ?_));first | exact ⟨rfl, (LW.step E XLW).toBelow⟩ | exact ⟨by rw [qg (by omega)]; rfl, (LW.step E XLW).toBelow⟩
                                         ·
                                          refine zy 135 (.bool false) rfl (congrArg Value.bool h41) ?_;replace h41 := beq_eq_false_iff_ne.1 h41;refine srx (za rfl (yn rfl rfl (anx rfl (zr rfl (fun h42 => ?_) (fun h42 => ?_)))))
                                          ·
                                           refine zy 139 (.bool true) rfl (congrArg Value.bool h42) ?_;replace h42 := eq_of_beq h42;subst h42;refine srx (za rfl (zo Tryd.underlying68 rfl yk rfl (HF.on E).here.1.1.1.1.2 rfl (zw (zn yk rfl rfl Bb21 rfl rfl (Nat.le_of_ble_eq_true rfl) ?_))));intro w138 Bx Eb21;replace Bb21 := Bx
                                           replace Bb1 := Bb1.extN Eb21 (NotIn.cons Db1_b21 NotIn.nil);replace E := E.step1 Eb21 Mut.head;refine rnx (zj (za rfl (zb Tryd.underlying68 rfl sz3 (by decide) rfl (zw (zn sz3 rfl rfl Bb21 rfl rfl (Nat.le_of_ble_eq_true rfl) ?_)))));intro w139 Bx Eb21;replace Bb21 := Bx
                                           replace Bb1 := Bb1.extN Eb21 (NotIn.cons Db1_b21 NotIn.nil);replace E := E.step1 Eb21 Mut.head;refine za rfl (zb Tryd.underlying68 rfl sz3 (by decide) rfl (zw (zn sz3 rfl rfl Bb21 rfl rfl (Nat.le_of_ble_eq_true rfl) ?_)));intro w140 Bx Eb21;replace Bb21 := Bx
                                           replace Bb1 := Bb1.extN Eb21 (NotIn.cons Db1_b21 NotIn.nil);replace E := E.step1 Eb21 Mut.head;replace HF := HF.on E;replace LW := LW.step E XLW;have SB : ∀ q9, Mut [(some gb1)] q9 → Mut [(some gb21), (some gb1)] q9 := (Mut.skip (Mut.keep Mut.nil_));replace HF := HF.less SB
                                           replace XLW := fun k h => XLW k (SB k h);clear SB;replace E := erx (Mut [(some gb1)]) w140;replace HF := HF.and (Per.blkN Bb21 (NotIn.cons Db21_b1 NotIn.nil))
                                           refine yc (zf (zh (srx (za rfl (zo Tryd.underlying68 rfl yk rfl (HF.on E).here.2 rfl (zw (zn yk rfl rfl Bb1 rfl rfl (Nat.le_of_ble_eq_true rfl) ?_)))))));intro w141 Bx Eb1;replace Bb1 := Bx;replace E := E.step1 Eb1 Mut.head;replace HF := HF.on E
                                           replace LW := LW.step E XLW;have SB : ∀ q9, No q9 → Mut [(some gb1)] q9 := (Mut.skip Mut.nil_);replace HF := HF.less SB;replace XLW := fun k h => XLW k (SB k h);clear SB;replace E := erx (No) w141;replace HF := HF.and (Per.blkN Bb1 NotIn.nil)
                                           refine rnx (zv (zu (rs := [.cell 2 68]) (vs := [_]) rfl ⟨⟨_, rfl, qj Tryd.underlying68 rfl yk (HF.on E).here.2 rfl⟩, trivial⟩ ?_));first | exact ⟨rfl, (LW.step E XLW).toBelow⟩ | exact ⟨by rw [qg (by omega)]; rfl, (LW.step E XLW).toBelow⟩
                                          ·
                                           refine zy 139 (.bool false) rfl (congrArg Value.bool h42) ?_;replace h42 := beq_eq_false_iff_ne.1 h42;refine srx (za rfl (yn rfl rfl (anx rfl (zr rfl (fun h43 => ?_) (fun h43 => ?_)))))
                                           ·
                                            refine zy 144 (.bool true) rfl (congrArg Value.bool h43) ?_;replace h43 := eq_of_beq h43;subst h43;refine srx (za rfl (zo Tryd.underlying68 rfl yk rfl (HF.on E).here.1.1.1.1.2 rfl (zw (zn yk rfl rfl Bb21 rfl rfl (Nat.le_of_ble_eq_true rfl) ?_))));intro w142 Bx Eb21;replace Bb21 := Bx
                                            replace Bb1 := Bb1.extN Eb21 (NotIn.cons Db1_b21 NotIn.nil);replace E := E.step1 Eb21 Mut.head;refine rnx (zj (za rfl (zb Tryd.underlying68 rfl sz3 (by decide) rfl (zw (zn sz3 rfl rfl Bb21 rfl rfl (Nat.le_of_ble_eq_true rfl) ?_)))));intro w143 Bx Eb21;replace Bb21 := Bx
                                            replace Bb1 := Bb1.extN Eb21 (NotIn.cons Db1_b21 NotIn.nil);replace E := E.step1 Eb21 Mut.head;refine za rfl (zb Tryd.underlying68 rfl sz3 (by decide) rfl (zw (zn sz3 rfl rfl Bb21 rfl rfl (Nat.le_of_ble_eq_true rfl) ?_)));intro w144 Bx Eb21;replace Bb21 := Bx
                                            replace Bb1 := Bb1.extN Eb21 (NotIn.cons Db1_b21 NotIn.nil);replace E := E.step1 Eb21 Mut.head;replace HF := HF.on E;replace LW := LW.step E XLW;have SB : ∀ q9, Mut [(some gb1)] q9 → Mut [(some gb21), (some gb1)] q9 := (Mut.skip (Mut.keep Mut.nil_));replace HF := HF.less SB
                                            replace XLW := fun k h => XLW k (SB k h);clear SB;replace E := erx (Mut [(some gb1)]) w144;replace HF := HF.and (Per.blkN Bb21 (NotIn.cons Db21_b1 NotIn.nil))
                                            refine yc (zf (zh (srx (za rfl (zo Tryd.underlying68 rfl yk rfl (HF.on E).here.2 rfl (zw (zn yk rfl rfl Bb1 rfl rfl (Nat.le_of_ble_eq_true rfl) ?_)))))));intro w145 Bx Eb1;replace Bb1 := Bx;replace E := E.step1 Eb1 Mut.head;replace HF := HF.on E
                                            replace LW := LW.step E XLW;have SB : ∀ q9, No q9 → Mut [(some gb1)] q9 := (Mut.skip Mut.nil_);replace HF := HF.less SB;replace XLW := fun k h => XLW k (SB k h);clear SB;replace E := erx (No) w145;replace HF := HF.and (Per.blkN Bb1 NotIn.nil)
                                            refine rnx (zv (zu (rs := [.cell 2 68]) (vs := [_]) rfl ⟨⟨_, rfl, qj Tryd.underlying68 rfl yk (HF.on E).here.2 rfl⟩, trivial⟩ ?_));first | exact ⟨rfl, (LW.step E XLW).toBelow⟩ | exact ⟨by rw [qg (by omega)]; rfl, (LW.step E XLW).toBelow⟩
                                           ·
                                            refine zy 144 (.bool false) rfl (congrArg Value.bool h43) ?_;replace h43 := beq_eq_false_iff_ne.1 h43;refine srx (za rfl (yn rfl rfl (anx rfl (zr rfl (fun h44 => ?_) (fun h44 => ?_)))))
                                            ·
                                             refine zy 149 (.bool true) rfl (congrArg Value.bool h44) ?_;replace h44 := eq_of_beq h44;subst h44;refine srx (za rfl (zo Tryd.underlying68 rfl yk rfl (HF.on E).here.1.1.1.2 rfl (zw (zn yk rfl rfl Bb21 rfl rfl (Nat.le_of_ble_eq_true rfl) ?_))));intro w146 Bx Eb21;replace Bb21 := Bx
                                             replace Bb1 := Bb1.extN Eb21 (NotIn.cons Db1_b21 NotIn.nil);replace E := E.step1 Eb21 Mut.head;refine rnx (zj (za rfl (zb Tryd.underlying68 rfl sz4 (by decide) rfl (zw (zn sz4 rfl rfl Bb21 rfl rfl (Nat.le_of_ble_eq_true rfl) ?_)))));intro w147 Bx Eb21;replace Bb21 := Bx
                                             replace Bb1 := Bb1.extN Eb21 (NotIn.cons Db1_b21 NotIn.nil);replace E := E.step1 Eb21 Mut.head;replace HF := HF.on E;replace LW := LW.step E XLW;have SB : ∀ q9, Mut [(some gb1)] q9 → Mut [(some gb21), (some gb1)] q9 := (Mut.skip (Mut.keep Mut.nil_));replace HF := HF.less SB
                                             replace XLW := fun k h => XLW k (SB k h);clear SB;replace E := erx (Mut [(some gb1)]) w147;replace HF := HF.and (Per.blkN Bb21 (NotIn.cons Db21_b1 NotIn.nil))
                                             refine yc (zf (zh (srx (za rfl (zo Tryd.underlying68 rfl yk rfl (HF.on E).here.2 rfl (zw (zn yk rfl rfl Bb1 rfl rfl (Nat.le_of_ble_eq_true rfl) ?_)))))));intro w148 Bx Eb1;replace Bb1 := Bx;replace E := E.step1 Eb1 Mut.head;replace HF := HF.on E
                                             replace LW := LW.step E XLW;have SB : ∀ q9, No q9 → Mut [(some gb1)] q9 := (Mut.skip Mut.nil_);replace HF := HF.less SB;replace XLW := fun k h => XLW k (SB k h);clear SB;replace E := erx (No) w148;replace HF := HF.and (Per.blkN Bb1 NotIn.nil)
                                             refine rnx (zv (zu (rs := [.cell 2 68]) (vs := [_]) rfl ⟨⟨_, rfl, qj Tryd.underlying68 rfl yk (HF.on E).here.2 rfl⟩, trivial⟩ ?_));first | exact ⟨rfl, (LW.step E XLW).toBelow⟩ | exact ⟨by rw [qg (by omega)]; rfl, (LW.step E XLW).toBelow⟩
                                            ·
                                             refine zy 149 (.bool false) rfl (congrArg Value.bool h44) ?_;replace h44 := beq_eq_false_iff_ne.1 h44;refine srx (za rfl (yn rfl rfl (anx rfl (zr rfl (fun h45 => ?_) (fun h45 => ?_)))))
                                             ·
                                              refine zy 153 (.bool true) rfl (congrArg Value.bool h45) ?_;replace h45 := eq_of_beq h45;subst h45;refine srx (za rfl (zo Tryd.underlying68 rfl yk rfl (HF.on E).here.1.1.1.1.2 rfl (zw (zn yk rfl rfl Bb21 rfl rfl (Nat.le_of_ble_eq_true rfl) ?_))));intro w149 Bx Eb21
                                              replace Bb21 := Bx;replace Bb1 := Bb1.extN Eb21 (NotIn.cons Db1_b21 NotIn.nil);replace E := E.step1 Eb21 Mut.head;refine rnx (zj (za rfl (zb Tryd.underlying68 rfl sz3 (by decide) rfl (zw (zn sz3 rfl rfl Bb21 rfl rfl (Nat.le_of_ble_eq_true rfl) ?_)))));intro w150 Bx Eb21
                                              replace Bb21 := Bx;replace Bb1 := Bb1.extN Eb21 (NotIn.cons Db1_b21 NotIn.nil);replace E := E.step1 Eb21 Mut.head;refine za rfl (zb Tryd.underlying68 rfl sz3 (by decide) rfl (zw (zn sz3 rfl rfl Bb21 rfl rfl (Nat.le_of_ble_eq_true rfl) ?_)));intro w151 Bx Eb21;replace Bb21 := Bx
                                              replace Bb1 := Bb1.extN Eb21 (NotIn.cons Db1_b21 NotIn.nil);replace E := E.step1 Eb21 Mut.head;refine za rfl (zb Tryd.underlying68 rfl sz3 (by decide) rfl (zw (zn sz3 rfl rfl Bb21 rfl rfl (Nat.le_of_ble_eq_true rfl) ?_)));intro w152 Bx Eb21;replace Bb21 := Bx
                                              replace Bb1 := Bb1.extN Eb21 (NotIn.cons Db1_b21 NotIn.nil);replace E := E.step1 Eb21 Mut.head;replace HF := HF.on E;replace LW := LW.step E XLW;have SB : ∀ q9, Mut [(some gb1)] q9 → Mut [(some gb21), (some gb1)] q9 := (Mut.skip (Mut.keep Mut.nil_));replace HF := HF.less SB
                                              replace XLW := fun k h => XLW k (SB k h);clear SB;replace E := erx (Mut [(some gb1)]) w152;replace HF := HF.and (Per.blkN Bb21 (NotIn.cons Db21_b1 NotIn.nil))
                                              refine yc (zf (zh (srx (za rfl (zo Tryd.underlying68 rfl yk rfl (HF.on E).here.2 rfl (zw (zn yk rfl rfl Bb1 rfl rfl (Nat.le_of_ble_eq_true rfl) ?_)))))));intro w153 Bx Eb1;replace Bb1 := Bx;replace E := E.step1 Eb1 Mut.head;replace HF := HF.on E
                                              replace LW := LW.step E XLW;have SB : ∀ q9, No q9 → Mut [(some gb1)] q9 := (Mut.skip Mut.nil_);replace HF := HF.less SB;replace XLW := fun k h => XLW k (SB k h);clear SB;replace E := erx (No) w153;replace HF := HF.and (Per.blkN Bb1 NotIn.nil)
                                              refine rnx (zv (zu (rs := [.cell 2 68]) (vs := [_]) rfl ⟨⟨_, rfl, qj Tryd.underlying68 rfl yk (HF.on E).here.2 rfl⟩, trivial⟩ ?_));first | exact ⟨rfl, (LW.step E XLW).toBelow⟩ | exact ⟨by rw [qg (by omega)]; rfl, (LW.step E XLW).toBelow⟩
                                             ·
                                              refine zy 153 (.bool false) rfl (congrArg Value.bool h45) ?_;replace h45 := beq_eq_false_iff_ne.1 h45;refine zq (zf (zh (srx (za rfl (zo Tryd.underlying68 rfl yk rfl Bb21 rfl (zw (zn yk rfl rfl Bb1 rfl rfl (Nat.le_of_ble_eq_true rfl) ?_)))))))
                                              intro w154 Bx Eb1;replace Bb1 := Bx;replace Bb21 := Bb21.extN Eb1 (NotIn.cons Db21_b1 NotIn.nil);replace E := E.step1 Eb1 (Mut.tail Mut.head);replace HF := HF.on E;replace LW := LW.step E XLW;have SB : ∀ q9, Mut [(some gb21)] q9 → Mut [(some gb21), (some gb1)] q9 := (Mut.keep (Mut.skip Mut.nil_))
                                              replace HF := HF.less SB;replace XLW := fun k h => XLW k (SB k h);clear SB;replace E := erx (Mut [(some gb21)]) w154;replace HF := HF.and (Per.blkN Bb1 (NotIn.cons Db1_b21 NotIn.nil))
                                              refine rnx (zv (zu (rs := [.cell 2 68]) (vs := [_]) rfl ⟨⟨_, rfl, qj Tryd.underlying68 rfl yk (HF.on E).here.2 rfl⟩, trivial⟩ ?_));first | exact ⟨rfl, (LW.step E XLW).toBelow⟩ | exact ⟨by rw [qg (by omega)]; rfl, (LW.step E XLW).toBelow⟩
end
end Go.Proofs.YtppdgjlmeahimaaDoor
namespace Go.Proofs.YtppdgjlmeahimaaDoor
open Go.RowKit
set_option maxRecDepth 100000
def yz (xs : List Int) : List Value := xs.map fun x => .int .i64 x
theorem kj {xs : List Int} : ∀ u ∈ yz xs, u.oneCell' = true := fun u hu => by
 obtain ⟨x, _, rfl⟩ := List.mem_map.1 hu;rfl
abbrev OwnsI (w : World) (base : Nat) (A : Option Addr) (c : Nat) (xs : List Int) : Prop := w.ownsRow base 3 1 (.slice A xs.length c) xs.length (yz xs)
def zeq (w : World) (xs : List Int) : Ending → World → Prop := fun e w' => ∃ A c, e = .returned (.slice A xs.length c) ∧ OwnsI w' w.heap.size A c xs ∧ Below w.heap.size w w'
theorem yv {w w' : World} {xs : List Int} {n c : Nat} {A : Option Addr} {vs : List Value} (hn : n = xs.length) (hv : vs = yz xs) (ho : w'.ownsRow w.heap.size 3 1 (.slice A n c) n vs) (hb : Below w.heap.size w w') : zeq w xs (.returned (.slice A n c)) w' := by
 subst hn hv;exact ⟨A, c, rfl, ho, hb⟩
theorem jw {w : World} {g base n : Nat} {t : TypeId} {cs : Array Value} (h : Blk w g t cs) (hb : base ≤ g) (hn : cs.size = n) (hm : n ≤ maxLen) : w.ownsRow base t 1 (.slice (some ⟨g, 0, none⟩) n n) n cs.toList := by
 refine ⟨by simp [hn], Or.inr ⟨g, n, cs, rfl, hb, h, Nat.le_refl _, hm, by rw [hn, Nat.mul_one], ?_⟩⟩;rw [Nat.mul_one, ← hn, ← Array.length_toList, List.take_length]
theorem OwnsI.ints {w : World} {base c : Nat} {A : Option Addr} {xs : List Int} (h : OwnsI w base A c xs) (hl : 8 * xs.length ≤ 140737488355000) (hi : ∀ x ∈ xs, I64 x) : IntsA w.heap.size w A xs := by
 refine ⟨hl, hi, fun h0 => ?_⟩;obtain ⟨g, rfl, _, hg, hc⟩ := jm h (by cases xs with | nil => exact absurd rfl h0 | cons => simp);refine ⟨g, 0, rfl, hg, fun j x hj => ?_⟩;have := hc j (.int .i64 x) (by unfold yz; rw [List.getElem?_map, hj]; rfl);rwa [Nat.zero_add, Nat.mul_one]
theorem zsx (x : Nat) : BitVec.ofInt 64 (x : Int) = BitVec.ofNat 64 x := by
 apply BitVec.eq_of_toNat_eq
 rw [BitVec.toNat_ofInt, BitVec.toNat_ofNat];omega
theorem and_i64 {x y : Nat} (hx : x < 9223372036854775808) (hy : y < 9223372036854775808) : IntKind.i64.wrap (BitVec.ofInt IntKind.i64.bits (x : Int) &&& BitVec.ofInt IntKind.i64.bits (y : Int)).toNat = ((x &&& y : Nat) : Int) := by
 have e : (BitVec.ofInt IntKind.i64.bits (x : Int) &&& BitVec.ofInt IntKind.i64.bits (y : Int)).toNat = x &&& y := by
  show (BitVec.ofInt 64 (x : Int) &&& BitVec.ofInt 64 (y : Int)).toNat = x &&& y
  rw [zsx, zsx, BitVec.toNat_and, BitVec.toNat_ofNat, BitVec.toNat_ofNat, Nat.mod_eq_of_lt (by omega), Nat.mod_eq_of_lt (by omega)]
 rw [e];have : x &&& y ≤ x := Nat.and_le_left;exact yg (by omega)
theorem zcv (op : Int) (y : Nat) (hy : y < 9223372036854775808) : IntKind.i64.wrap (BitVec.ofInt IntKind.i64.bits ((flN op : Nat) : Int) &&& BitVec.ofInt IntKind.i64.bits (y : Int)).toNat = ((flN op &&& y : Nat) : Int) :=
 and_i64 (by have := flN_lt op; omega) hy
theorem zgz (n : Nat) : (((n : Nat) : Int) != 0) = (n != 0) := by
 cases n with
 | zero => rfl
 | succ n =>
  have h1 : (((n + 1 : Nat) : Int) != 0) = true := by simp; omega
  rw [h1]; simp
theorem yak (n k : Nat) : ((((n &&& 2 ^ k : Nat)) : Int) != 0) = n.testBit k := by
 rw [zgz];cases h : n.testBit k
 · have : n &&& 2 ^ k = 0 := by
    apply Nat.eq_of_testBit_eq
    intro j;rw [Nat.testBit_and, Nat.testBit_two_pow, Nat.zero_testBit];by_cases hj : k = j
    · subst hj; rw [h]; rfl
    · simp [hj]
   rw [this]; rfl
 · have : n &&& 2 ^ k ≠ 0 := fun e => by
    have h1 : (n &&& 2 ^ k).testBit k = true := by rw [Nat.testBit_and, h, Nat.testBit_two_pow]; simp
    rw [e, Nat.zero_testBit] at h1;cases h1
   simp [this]
theorem next_wrap {x : Int} (h : I64 x) : (if IntKind.i64.wrap (x + 1) > x then IntKind.i64.wrap (x + 1) else x) = od x := by
 obtain ⟨h1, h2⟩ := h;unfold od;by_cases h3 : x < 9223372036854775807
 · rw [yg (by omega), if_pos (by omega), if_pos h3]
 · obtain rfl : x = 9223372036854775807 := by omega
   rw [if_neg h3];decide
def LIns.v (i : LIns) (B : Option Addr) (c : Nat) : Value := .agg #[.int .i64 i.op, .int .i64 i.d, .int .i64 i.a, .int .i64 i.b, .int .i64 i.t, .int .i64 i.k, .slice B i.l.length c]
end Go.Proofs.YtppdgjlmeahimaaDoor

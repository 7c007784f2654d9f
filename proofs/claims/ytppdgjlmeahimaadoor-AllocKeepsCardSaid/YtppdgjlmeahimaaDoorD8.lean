/- Texts of this claim. -/
import Derived.Test.YtppdgjlmeahimaaDoorD7
import Derived.Test.YtppdgjlmeahimaaDoorProg
import Derived.Lib.ConvBytes
import Derived.Lib.SmallJoins
namespace Go.Proofs.YtppdgjlmeahimaaDoor
open Go.RowKit
set_option maxRecDepth 100000
def LoopW (P : Program) (c : Code) (Q : Exit → Act → World → Prop) (a : Act) (w : World) : Prop := ∀ b k cs, ∃ e a' w', Q e a' w' ∧ Arrives P (lone (b.at a (.inLoop c :: k)) cs w) b k cs e a' w'
section
variable {P : Program} {N : Nat} {ops : Array Oper} {Q : Exit → Act → World → Prop} {σ : Env} {w : World} {ty : TypeId} {pos : String} {af : Array Edge} {dst : Option Nat} {Post : Value → World → Prop}
/-! ### floating-point numbers -/
/-! ### functions that the model gives itself -/
def fround (way : Ieee.Toward) (b : Nat) : Nat := FloatKind.f64.encode ((FloatKind.f64.decode b).integral way)
/-! ### strings that are written out -/
theorem ow_indexAddrG {x i : Operand} {T e : TypeId} {g o n s : Nat} {q : IntKind} {m : Int} {j : Nat} (hd : P.underlying T = some (.array n e)) (hs : qm P e s) (hx : ev σ x = some (.pointer (some ⟨g, o, none⟩))) (hi : ev σ i = some (.int q m)) (hm : m = (j : Int)) (hj : j < n)
 (k : Post (.pointer (some ⟨g, o + j * s, none⟩)) w) : OW P N ops Q ⟨dst, .indexAddr T x i, ty, pos, af, none⟩ σ w Post :=
 qf (fun ρ ha => by
  subst hm;have h1 : ¬ n ≤ j := by omega
  simp [execOp, ha hx, ha hi, Instr.indexAt, Instr.sureAddr, asIntOf, run_underlying hd, vw hs, h1, hj, Addr.add_eq, go_sem]) k
/-! ### an error that is none -/
def RowL (w : World) (g : Nat) (xs : List Value) : Prop := ∀ j v, xs[j]? = some v → w.cell? ⟨g, j, none⟩ = some v
end
abbrev Gives (f : FuncId) (args : Array Value) (v : Value) : Prop := ∀ w, Calls Tryd.prog f args w fun e w' => e = .returned v ∧ Below w.heap.size w w'
section
variable {P : Program} {N : Nat} {Q : Exit → Act → World → Prop} {σ : Env} {w : World} {l : List Oper}
def trL (k n : Nat) : Array Bool := (List.replicate k true ++ List.replicate (n - k) false).toArray
def AK (P : Program) (N k : Nat) (l : List Oper) (Q : Exit → Act → World → Prop) (σ : Env) (w : World) : Prop := ∀ a, At N σ a → wpAny P .any l.toArray Q (l.length - k) (trL k l.length) a w
theorem zcz {id : Nat} (hm : P.follows .mixedOrders = true) (h : AK P N 0 l Q σ w.drew) : CW P N (.region id l.toArray true) Q σ w := fun a ha => by
 refine wp_region_any hm ?_;have := h a ha;unfold trL at this;simpa using this
theorem trL_get {k n j : Nat} {d : Bool} (hj : j < n) (hk : k ≤ n) : (trL k n).getD j d = decide (j < k) := by
 unfold trL;by_cases h : j < k
 · simp [Array.getD_eq_getD_getElem?, List.getElem?_append, h]
 · have h2 : j - k < n - k := by omega
   simp [Array.getD_eq_getD_getElem?, List.getElem?_append, h, List.getElem?_replicate, h2]
theorem trL_set {k n : Nat} (h : k < n) : (trL k n).setIfInBounds k true = trL (k + 1) n := by
 unfold trL;apply Array.toList_inj.1
 rw [Array.toList_setIfInBounds];have e : n - k = (n - (k + 1)) + 1 := by omega
 rw [e, List.replicate_succ, List.replicate_succ', List.append_assoc];simp
def quiet (o : Oper) : Bool := match o.guard with
 | some _ => false
 | none => match o.op with
  | .move _ => true
  | .assign _ => true
  | .extract _ _ => true
  | _ => false
theorem quiet_yields {ops : Array Oper} {o : Oper} {a : Act} {w : World} {K : Act → World → Prop} (hq : quiet o = true) (h : o.wp P a w K Q ∨ (o.asks P a w ∧ LetsOut Q)) : ∃ v, Yields P ops o v a ∧ K (a.put o.dst v) w := by
 obtain ⟨dst, op, type, pos, after, guard⟩ := o;cases guard with
 | some g => simp [quiet] at hq
 | none =>
  cases op <;> first | (simp [quiet] at hq; done) | skip
  case move x =>
   refine ⟨a.eval x, .inl ⟨by simp [Region.wanted], fun w => by simp [execOp, go_sem]⟩, ?_⟩;rcases h with h | ⟨h, _⟩
   · simpa [Oper.wp, execOp, go_sem, Oper.upon] using h
   · exact absurd h (by simp [Oper.asks, execOp, Sem.runT, Sem.events, pure, bind])
  case assign x =>
   refine ⟨a.eval x, .inl ⟨by simp [Region.wanted], fun w => by simp [execOp, go_sem]⟩, ?_⟩;rcases h with h | ⟨h, _⟩
   · simpa [Oper.wp, execOp, go_sem, Oper.upon] using h
   · exact absurd h (by simp [Oper.asks, execOp, Sem.runT, Sem.events, pure, bind])
  case extract x i =>
   rcases h with h | ⟨h, _⟩
   · unfold Oper.wp at h;simp only [execOp, Instr.extract] at h
     split at h
     · rename_i vs hx
       split at h
       · rename_i v hv
         refine ⟨v, .inl ⟨by simp [Region.wanted], fun w => by simp only [execOp, hx, Instr.extract, hv]; rfl⟩, ?_⟩;simpa [go_sem, Oper.upon] using h
       · simp [go_sem, Oper.upon, stuck] at h
     · simp [go_sem, Oper.upon, stuck] at h
   · exfalso
     unfold Oper.asks at h;simp only [execOp, Instr.extract] at h
     split at h
     · split at h
       · simp [Sem.runT, Sem.events, Sem.bind, pure, bind] at h
       · simp [Sem.runT, Sem.events, Sem.bind, pure, bind, stuck] at h
     · simp [Sem.runT, Sem.events, Sem.bind, pure, bind, stuck] at h
def zvx (l : List Oper) : Nat → Nat → Bool
 | _, 0 => true
 | k, m + 1 => (match Region.ready .any l.toArray (trL k l.length) with
  | [] => false
  | [j] => Nat.beq j k
  | r => memN k r && (match l.toArray[k]? with
   | some o => quiet o
   | none => false) && Region.free .any l.toArray (trL k l.length) k) && zvx l (k + 1) m
theorem any_of_list (hn : Region.noSelect l.toArray = true) (hQ : ∀ c (a : Act) d v w, Q (.panic c) (a.put d v) w → Q (.panic c) a w) :
 ∀ (m k : Nat), k + m = l.length → zvx l k m = true → ∀ a w, wpList P l.toArray Q (l.drop k) a w → wpAny P .any l.toArray Q m (trL k l.length) a w := by
 intro m;induction m with
 | zero =>
  intro k hk _ a w h;have hk : k = l.length := by omega
  subst hk;rw [List.drop_length] at h;refine ⟨List.eq_nil_iff_forall_not_mem.2 fun j hj => ?_, h⟩;obtain ⟨h0, o, ho, _⟩ := mem_ready.1 hj;have hlt : j < l.length := by simpa using (Array.getElem?_eq_some_iff.1 ho).1
  rw [trL_get hlt (Nat.le_refl _)] at h0;simp [hlt] at h0
 | succ m ih =>
  intro k hk hs a w h;have hkl : k < l.length := by omega
  simp only [zvx, Bool.and_eq_true] at hs
  rw [List.drop_eq_getElem_cons hkl] at h;have hok : l.toArray[k]? = some l[k] := by simp [hkl]
  have hnext := fun a w h => ih (k + 1) (by omega) hs.2 a w h;rw [← trL_set hkl] at hnext;have hone : wpOp P l.toArray Q k (wpAny P .any l.toArray Q m ((trL k l.length).setIfInBounds k true)) a w := by
   unfold wpOp;rw [hok];simp only []
   unfold wpList at h;split
   · rename_i hw
     rw [if_pos hw] at h;exact h.imp (Oper.wp_mono hnext) id
   · rename_i hw
     rw [if_neg hw] at h;exact hnext _ _ h
  have h1 := hs.1;split at h1
  · cases h1
  · rename_i j hr
    have hj : j = k := Nat.eq_of_beq_eq_true h1;subst hj;exact wpAny_all hr (by simp) fun i hi => by rw [List.mem_singleton.1 hi]; exact hone
  · rename_i hr hr1
    rw [hok] at h1;simp only [Bool.and_eq_true] at h1
    have hq := h1.1.2;unfold wpList at h;have hg : Region.wanted l[k] (yielded l.toArray a.tmps) = true := by
     unfold quiet at hq;split at hq
     · cases hq
     · rename_i hg; simp [Region.wanted, hg]
    rw [if_pos hg] at h;obtain ⟨v, hy, hv⟩ := quiet_yields (ops := l.toArray) hq h;exact wpAny_take hok hn h1.2 (by simpa using vr.1 h1.1.1) (fun c a w h => hQ c a _ _ w h) hy (hnext _ _ hv)
theorem kp {k : Nat} (hs : (zvx l k (l.length - k) && Region.noSelect l.toArray && Nat.ble k l.length) = true) (hQ : ∀ c (a : Act) d v w, Q (.panic c) (a.put d v) w → Q (.panic c) a w)
 (h : RS P N l.toArray Q (l.drop k) σ w) : AK P N k l Q σ w := fun a ha => by
 simp only [Bool.and_eq_true] at hs
 have := Nat.le_of_ble_eq_true hs.2;exact any_of_list hs.1.2 hQ _ k (by omega) hs.1.1 a w (h a ha)
def covers (ops : Array Oper) : Nat → List Nat → Bool
 | 0, _ => true
 | j + 1, S => memN j S && covers ops j (S ++ qi ops j)
def zfx (l : List Oper) (m : Nat) : Bool := Nat.ble m l.length && ob 0 (l.take m) [] && ((l.take m).all fun o => match o.guard with
 | some (g, _) => Nat.blt g m
 | none => true) && (List.range (l.length - m)).all fun t => (qi l.toArray (m + t)).any (fun d => Nat.ble m d) || covers l.toArray m (qi l.toArray (m + t))
theorem covers_all {ops : Array Oper} {L : Nat → Prop} (hd : ∀ i, L i → ∀ j ∈ qi ops i, L j) : ∀ (m : Nat) (S : List Nat), covers ops m S = true → (∀ j ∈ S, L j) → ∀ j, j < m → L j := by
 intro m;induction m with
 | zero => intro S _ _ j hj; omega
 | succ m ih =>
  intro S hc hS j hj;simp only [covers, Bool.and_eq_true] at hc
  have hm := hS m (vr.1 hc.1);rcases Nat.lt_or_ge j m with h | h
  · refine ih _ hc.2 (fun j hj => ?_) j h;rcases List.mem_append.1 hj with h | h
    · exact hS j h
    · exact hd m hm j h
  · have : j = m := by omega
    subst this; exact hm
theorem upon_then {o : Oper} {a : Act} {K K' Z : Act → World → Prop} (h : ∀ a w, K a w → K' a w) : ∀ {r : Result Next}, o.upon P a K (Exit.then Z Q) r → o.upon P a K' Q r := by
 intro r hh;cases r with
 | ok n w' =>
  cases n <;> simp only [Oper.upon] at hh ⊢ <;>
   first
    | exact h _ _ hh
    | exact Calls.mono hh (fun e w'' he => by cases e <;> first | exact h _ _ he | exact he)
    | exact Rows.mono hh (fun _ _ he => h _ _ he)
    | exact hh
 | halt x w' => cases x <;> simp only [Oper.upon] at hh ⊢ <;> exact hh
end
section
variable {P : Program} {N : Nat} {Q : Exit → Act → World → Prop} {σ : Env} {l : List Oper}
theorem vx {w : World} (Y : Nat → Prop) (hY : ∀ k, Y k → k < w.heap.size) (bs : List Bx) (os : List Ox) (F : Nat → Fx) (hok : (ob 0 l [] && bxOK bs && bxWF l bs bs && dstOK N l && oxOK bs os) = true) (hos : zdz Y w os) (hin : ∀ o ∈ os, l[o.st]? ≠ none)
 (hsteps : zpv P N l.toArray Q σ bs os F w 0 l)
 (hend : ∀ vs w', Ext (Mut (outM os)) w w' → AllOut σ l.toArray vs w' os → zqz Y bs F vs w' 0 l → zaq P σ l.toArray vs w w' bs → zfq vs bs → EW N Q .normal (envEnd σ l vs) w') : AK P N 0 l Q σ w := by
 simp only [Bool.and_eq_true] at hok
 obtain ⟨⟨⟨⟨hrow, hbx⟩, hwf⟩, hdl⟩, hox⟩ := hok;have hoat : ∀ {r : List Ox}, zdz Y w r → ∀ o ∈ r, Y o.g ∧ Blk w o.g o.T o.cs := by
  intro r;induction r with
  | nil => intro _ o ho; cases ho
  | cons x r ih =>
   intro h o ho;rcases List.mem_cons.1 ho with rfl | ho
   · exact ⟨h.1.1, h.1.2.1⟩
   · exact ih h.2 o ho
 have hopw : ∀ {r : List Ox}, zdz Y w r → oxOK bs r = true → ∀ a ∈ r, ∀ b ∈ r, a ≠ b → a.g ≠ b.g ∧ a.st ≠ b.st := by
  intro r;induction r with
  | nil => intro _ _ a ha; cases ha
  | cons x r ih =>
   intro h hk a ha b hb hab;simp only [oxOK, Bool.and_eq_true, List.all_eq_true, Bool.not_eq_true'] at hk
   rcases List.mem_cons.1 ha with rfl | ha'
   · rcases List.mem_cons.1 hb with rfl | hb'
     · exact absurd rfl hab
     · exact ⟨h.1.2.2 b hb', fun e => by have := hk.1.2 b hb'; rw [e] at this; simp at this⟩
   · rcases List.mem_cons.1 hb with rfl | hb'
     · exact ⟨fun e => h.1.2.2 a ha' e.symm, fun e => by have := hk.1.2 a ha'; rw [e] at this; simp at this⟩
     · exact ih h.2 hk.2 a ha' b hb' hab
 have hos1 : ∀ {r : List Ox}, oxOK bs r = true → ∀ o ∈ r, kl bs o.st = none ∧ jt bs o.st = none := by
  intro r;induction r with
  | nil => intro _ o ho; cases ho
  | cons x r ih =>
   intro hk o ho;simp only [oxOK, Bool.and_eq_true] at hk
   rcases List.mem_cons.1 ho with rfl | ho
   · exact ⟨by simpa using hk.1.1.1, by simpa using hk.1.1.2⟩
   · exact ih hk.2 o ho
 intro a ha;rw [show trL 0 l.length = Array.replicate l.toArray.size false by simp [trL]];have m0 : Mid P N Y l σ w bs os F (Array.replicate l.toArray.size false) a w (fun _ => undef) Y := by
  have hno : ∀ i, ¬ Ran (Array.replicate l.toArray.size false) i := fun i h => by
   unfold Ran at h;by_cases hi : i < l.length <;> simp [hi] at h
  exact ⟨by simp, ha.defers, ha.size, fun t v h => ha.get t v (zgk h).1, fun i d h => absurd h (hno i), fun i d v _ _ h => ha.get d v h, fun i h => absurd h (hno i), Ext.refl _ _, hY, fun _ h => h, hY,
   fun i h => absurd h (hno i), fun b _ h => absurd h (hno _), fun o ho => ⟨fun _ => (hoat hos o ho).2, fun h => absurd h (hno _)⟩, fun o ho => (hoat hos o ho).1, fun b _ c _ h => absurd h (hno _)⟩
 refine wpAny_mid (l := l) hrow hbx hwf (dstOK_at hdl) (fun o ho h => by rw [(hos1 hox o ho).1] at h; cases h) (fun o ho h => by rw [(hos1 hox o ho).2] at h; cases h) (hopw hos hox) hsteps ?_ _ _ _ _ _ _ ?_ m0
 · intro listed a w' vs X hall m;have hlen : ∀ i (o : Oper), l[i]? = some o → Ran listed i := fun i o h => hall i (List.getElem?_eq_some_iff.1 h).1;refine hend vs w' m.ext ?_ ?_ ?_ ?_ a ?_
   · have hst : ∀ o ∈ os, l[o.st]? ≠ none → Ran listed o.st := fun o _ h => hall _ (by
      rcases Nat.lt_or_ge o.st l.length with h1 | h1
      · exact h1
      · exact absurd (List.getElem?_eq_none h1) h)
     have key : ∀ r : List Ox, (∀ b ∈ r, b ∈ os) → AllOut σ l.toArray vs w' r := by
      intro r;induction r with
      | nil => intro _; trivial
      | cons b r ih =>
       intro hr;refine ⟨?_, ih fun c hc => hr c (List.mem_cons.2 (Or.inr hc))⟩;have hb := hr b (List.mem_cons.2 (Or.inl rfl));exact (m.outs b hb).2 (hst b hb (hin b hb))
     exact key os (fun _ h => h)
   · have key : ∀ (r : List Oper) (k : Nat), (∀ (i : Nat) (o : Oper), r[i]? = some o → l[k + i]? = some o) → zqz Y bs F vs w' k r := by
      intro r;induction r with
      | nil => intro k _; trivial
      | cons o r ih =>
       intro k hk;refine ⟨?_, ih (k + 1) (fun i o' h => by have := hk (i + 1) o' (by simpa using h); rwa [show k + (i + 1) = k + 1 + i by omega] at this)⟩;split
       · rename_i hb hf
         exact (m.facts k (hlen k o (by simpa using hk 0 o rfl)) hb hf).less m.outer
       · trivial
     exact key l 0 (fun i o h => by simpa using h)
   · have key : ∀ r : List Bx, (∀ b ∈ r, b ∈ bs) → zaq P σ l.toArray vs w w' r := by
      intro r;induction r with
      | nil => intro _; trivial
      | cons b r ih =>
       intro hr;refine ⟨?_, ih fun c hc => hr c (List.mem_cons.2 (Or.inr hc))⟩;have hb := hr b (List.mem_cons.2 (Or.inl rfl));obtain ⟨w1, w2⟩ := zhq hwf hb;have hst : Ran listed b.st := by
        unfold qi at w1;split at w1
        · rename_i o ho; exact hlen b.st o (by simpa using ho)
        · cases w1
       obtain ⟨g, cs, h1, h2, h20, h3, _, h5⟩ := m.boxes b hb (m.down _ hst _ w1);obtain ⟨v, y, rfl, h6, h7⟩ := h5 hst;exact ⟨g, v, y, h1, h20, h3, h6, h7⟩
     exact key bs (fun _ h => h)
   · have key : ∀ r : List Bx, (∀ b ∈ r, b ∈ bs) → bxOK r = true → zfq vs r := by
      intro r;induction r with
      | nil => intro _ _; trivial
      | cons b r ih =>
       intro hr hok;have hok' := hok;simp only [bxOK, Bool.and_eq_true, List.all_eq_true, Bool.not_eq_true'] at hok
       refine ⟨fun c hc => ?_, ih (fun c hc => hr c (List.mem_cons.2 (Or.inr hc))) hok.2⟩;have hb := hr b (List.mem_cons.2 (Or.inl rfl));have hc' := hr c (List.mem_cons.2 (Or.inr hc));have hran : ∀ b ∈ bs, Ran listed b.at_ := by
        intro b hb;obtain ⟨w1, w2⟩ := zhq hwf hb;have hst : Ran listed b.st := by
         unfold qi at w1;split at w1
         · rename_i o ho; exact hlen b.st o (by simpa using ho)
         · cases w1
        exact m.down _ hst _ w1
       refine m.apart b hb c hc' (hran b hb) (hran c hc') (fun e => ?_);have := (hok.1 c hc).1;rw [e] at this;simp at this
     exact key bs (fun _ h => h) hbx
   · refine ⟨m.defers, m.tmps, fun t v h => ?_⟩;rcases kt h with h | h
     · obtain ⟨j, _, hjd, rfl⟩ := zgq h;obtain ⟨o, ho, _⟩ := znq hjd;exact m.ran j t (hlen j o ho) hjd
     · exact m.kept t v h
 · simp
end
section
variable {P : Program} {N : Nat} {Q : Exit → Act → World → Prop} {σ : Env} {w : World} {l : List Oper}
theorem any_prefix {m : Nat} (hg : zfx l m = true) : ∀ (f : Nat) (ls : List Bool) (a : Act) (w : World), ls.length = m → ls.count false = f →
 (∀ i, Ran ls.toArray i → ∀ j ∈ qi l.toArray i, Ran ls.toArray j) →
 wpAny P .any (l.take m).toArray (Exit.then (fun a w => wpAny P .any l.toArray Q (l.length - m) (trL m l.length) a w) Q) f ls.toArray a w →
 wpAny P .any l.toArray Q (f + (l.length - m)) (ls ++ List.replicate (l.length - m) false).toArray a w := by
 unfold zfx at hg;simp only [Bool.and_eq_true] at hg
 obtain ⟨⟨⟨hml, hrow⟩, hgd⟩, hcov⟩ := hg;have hml := Nat.le_of_ble_eq_true hml;have htk : ∀ i, i < m → (l.take m).toArray[i]? = l.toArray[i]? := fun i hi => by simp [List.getElem?_take, hi]
 have hget : ∀ (ls : List Bool) (i : Nat) (d : Bool), ls.length = m → i < m → (ls ++ List.replicate (l.length - m) false).toArray.getD i d = ls.toArray.getD i d := by
  intro ls i d hl hi;simp [Array.getD_eq_getD_getElem?, List.getElem?_append, hl, hi]
 have hget2 : ∀ (ls : List Bool) (i : Nat), ls.length = m → m ≤ i → (ls ++ List.replicate (l.length - m) false).toArray.getD i false = false := by
  intro ls i hl hi;have hni : ¬ i < m := by omega
  simp only [Array.getD_eq_getD_getElem?, List.getElem?_toArray, List.getElem?_append, hl, hni, if_false, List.getElem?_replicate]
  split <;> rfl
 have hfull : ∀ ls : List Bool, ls.length = m → (∀ i, i < m → Ran ls.toArray i) → ls.count false = 0 := by
  intro ls hl h;refine List.count_eq_zero.2 fun hf => ?_;obtain ⟨i, hi, he⟩ := List.getElem_of_mem hf;have := h i (by omega);unfold Ran at this;simp [hi, he] at this
 intro f;induction f with
 | zero =>
  intro ls a w hl hc hd h;have hall : ls = List.replicate m true := by
   refine List.eq_replicate_iff.2 ⟨hl, fun b hb => ?_⟩;cases b with
   | true => rfl
   | false => exact absurd hb (List.count_eq_zero.1 hc)
  have h2 := h.2;rw [Nat.zero_add, hall];exact h2
 | succ f ih =>
  intro ls a w hl hc hd h;rw [Nat.succ_add];refine ⟨fun hr => ?_, fun i hi => ?_⟩
  · exfalso
    have hall : ∀ i, i < m → Ran ls.toArray i := by
     intro i;induction i using Nat.strongRecOn with
     | _ i ihi =>
      intro him;rcases Classical.em (Ran ls.toArray i) with h' | h'
      · exact h'
      · exfalso
        have : i ∈ Region.ready .any l.toArray (ls ++ List.replicate (l.length - m) false).toArray := by
         have hil : i < l.length := by omega
         refine mem_ready.2 ⟨?_, l[i], by simp [hil], fun e he hb => ?_⟩
         · rw [hget ls i true hl him];unfold Ran at h';have : i < ls.length := by omega
           simp [this] at h' ⊢
           exact h'
         · have hlt := (js hrow (i := i) (o := l[i]) (by simp [List.getElem?_take, him, hil])).1 e.on (jo (by simpa using he) hb);have hei : e.on < i := by omega
           rw [hget ls e.on false hl (by omega)];exact ihi e.on hei (by omega)
        rw [hr] at this;cases this
    have := hfull ls hl hall;omega
  · obtain ⟨h0, o, ho, hdep⟩ := mem_ready.1 hi;rcases Nat.lt_or_ge i m with him | him
    · have hdl : ∀ j ∈ qi l.toArray i, Ran ls.toArray j := by
       intro j hj;have ho' : l[i]? = some o := by simpa using ho
       unfold qi at hj;rw [ho] at hj;obtain ⟨e, he, hb, rfl⟩ := jw hj;have hlt := (js hrow (i := i) (o := o) (by simp [List.getElem?_take, him, ho'])).1 e.on (jo he hb);have := hdep e (by simpa using he) hb;rwa [hget ls e.on false hl (by omega)] at this
      rw [hget ls i true hl him] at h0;have hi1 : i ∈ Region.ready .any (l.take m).toArray ls.toArray := by
       refine mem_ready.2 ⟨h0, o, by rw [htk i him]; exact ho, fun e he hb => ?_⟩;refine hdl e.on ?_;unfold qi;rw [ho];exact jo (by simpa using he) hb
      have h1 := h.2 i hi1;have hset : ((ls ++ List.replicate (l.length - m) false).toArray.setIfInBounds i true) = (ls.set i true ++ List.replicate (l.length - m) false).toArray := by
       apply Array.toList_inj.1
       rw [Array.toList_setIfInBounds];simp [List.set_append, hl, him]
      have hset1 : ls.toArray.setIfInBounds i true = (ls.set i true).toArray := by
       apply Array.toList_inj.1
       rw [Array.toList_setIfInBounds]
      rw [hset1] at h1;rw [hset];have hlsi : ls[i]? = some false := by
       have hil : i < ls.length := by omega
       have e : ls[i] = false := by simpa [hil] using h0
       simp [hil, e]
      have hK : ∀ a w, wpAny P .any (l.take m).toArray (Exit.then (fun a w => wpAny P .any l.toArray Q (l.length - m) (trL m l.length) a w) Q) f (ls.set i true).toArray a w →
       wpAny P .any l.toArray Q (f + (l.length - m)) (ls.set i true ++ List.replicate (l.length - m) false).toArray a w := by
       intro a w h;refine ih (ls.set i true) a w (by simpa using hl) (by have := zax ls i hlsi; omega) ?_ h;have hup : ∀ j, Ran ls.toArray j → Ran (ls.set i true).toArray j := by
        intro j hj;unfold Ran at hj ⊢;rw [← hset1];exact getD_set_true hj
       intro j hj k hk;rcases Classical.em (j = i) with rfl | hji
       · exact hup k (hdl k hk)
       · refine hup k (hd j ?_ k hk);unfold Ran at hj ⊢;rw [← hset1, getD_set_ne false (Ne.symm hji)] at hj;exact hj
      unfold wpOp at h1 ⊢;rw [htk i him, ho] at h1;rw [ho];simp only [] at h1 ⊢
      have hy : Region.wanted o (yielded (l.take m).toArray a.tmps) = Region.wanted o (yielded l.toArray a.tmps) := by
       unfold Region.wanted;cases hgo : o.guard with
       | none => rfl
       | some gw =>
        obtain ⟨g, want⟩ := gw;have hmem : o ∈ l.take m := by
         have ho' : l[i]? = some o := by simpa using ho
         exact List.mem_of_getElem? (i := i) (by simp [List.getElem?_take, him, ho'])
        have := (List.all_eq_true.1 hgd) o hmem;rw [hgo] at this;have hgm : g < m := Nat.le_of_ble_eq_true this;simp only [yielded, htk g hgm]
      rw [← hy];split
      · rename_i hw
        rw [if_pos hw] at h1;rcases h1 with h1 | ⟨h1, h2⟩
        · exact .inl (upon_then hK h1)
        · exact .inr ⟨h1, h2⟩
      · rename_i hw
        rw [if_neg hw] at h1;exact hK _ _ h1
    · exfalso
      have hil : i < l.length := by simpa using (Array.getElem?_eq_some_iff.1 ho).1
      have hdl : ∀ j ∈ qi l.toArray i, (ls ++ List.replicate (l.length - m) false).toArray.getD j false = true := by
       intro j hj;unfold qi at hj;rw [ho] at hj;obtain ⟨e, he, hb, rfl⟩ := jw hj;exact hdep e (by simpa using he) hb
      have hc2 := (List.all_eq_true.1 hcov) (i - m) (List.mem_range.2 (by omega));rw [show m + (i - m) = i by omega, Bool.or_eq_true] at hc2;rcases hc2 with hc2 | hc2
      · obtain ⟨j, hj, hmj⟩ := List.any_eq_true.1 hc2;have := hdl j hj;rw [hget2 ls j hl (Nat.le_of_ble_eq_true hmj)] at this;cases this
      · have hall := covers_all (L := fun j => (Ran ls.toArray j)) hd m _ hc2 (fun j hj => by
         have := hdl j hj;rcases Nat.lt_or_ge j m with h' | h'
         · rwa [hget ls j false hl h'] at this
         · rw [hget2 ls j hl h'] at this; cases this)
        have := hfull ls hl hall;omega
theorem zdx (m : Nat) (hg : zfx l m = true) (h : AK P N 0 (l.take m) (Exit.then (fun a w => wpAny P .any l.toArray Q (l.length - m) (trL m l.length) a w) Q) σ w) : AK P N 0 l Q σ w := fun a ha => by
 have hml : m ≤ l.length := by
  unfold zfx at hg;simp only [Bool.and_eq_true] at hg
  exact Nat.le_of_ble_eq_true hg.1.1.1
 have hlen : (l.take m).length = m := by simp [hml]
 have h1 := h a ha;have := any_prefix hg m (List.replicate m false) a w (by simp) (by simp) (fun i hi => by
  unfold Ran at hi;by_cases h' : i < m <;> simp [h'] at hi) (by
   unfold trL at h1;rw [hlen] at h1;simpa [trL] using h1)
 rw [List.replicate_append_replicate] at this;have e : m + (l.length - m) = l.length := by omega
 rw [e] at this;unfold trL;simpa using this
theorem zoq {m : Nat} (h : AK P N m l Q σ w) : EW N (Exit.then (fun a w => wpAny P .any l.toArray Q (l.length - m) (trL m l.length) a w) Q) .normal σ w := fun a ha => h a ha
end
section
variable {P : Program} {N : Nat} {ops : Array Oper} {Q : Exit → Act → World → Prop} {σ : Env} {w : World} {ty : TypeId} {pos : String} {af : Array Edge} {dst : Option Nat} {Post : Value → World → Prop}
theorem ow_sliceH {T e : TypeId} {x y : Operand} {g n c s h : Nat} {q : IntKind} {m : Int} (hd : P.underlying T = some (.slice e)) (hs : qm P e s) (hx : ev σ x = some (.slice (some ⟨g, 0, none⟩) n c)) (hy : ev σ y = some (.int q m)) (hm : m = (h : Int)) (hc : h ≤ c)
 (k : Post (.slice (some ⟨g, 0, none⟩) h c) w) : OW P N ops Q ⟨dst, .slice T x none (some y) none, ty, pos, af, none⟩ σ w Post :=
 ow_slice (l := 0) (h := h) hd hs hx rfl ⟨q, by rw [hy, hm]⟩ (Nat.zero_le _) hc (by
  rw [Nat.sub_zero, Nat.sub_zero, Nat.zero_mul];split
  · exact k
  · exact k)
end
section
variable {P : Program} {N : Nat} {ops : Array Oper} {Q : Exit → Act → World → Prop} {σ : Env} {w : World} {ty : TypeId} {pos : String} {af : Array Edge} {dst : Option Nat} {Post : Value → World → Prop}
structure NRes (r : Nat) (w w' : World) : Prop where
 isn : isN r = true
 ext : Ext No w w'
 lt : r < 18446744073709551616
end
section
variable {P : Program} {N : Nat} {ops : Array Oper} {Q : Exit → Act → World → Prop} {σ : Env} {w : World} {ty : TypeId} {pos : String} {af : Array Edge} {dst : Option Nat} {Post : Value → World → Prop}
end
/-! ### loops -/
inductive Ends {α : Type} (done : α → Bool) (step : α → α) : α → α → Prop
 | stop {s : α} : done s = true → Ends done step s s
 | next {s t : α} : done s = false → Ends done step (step s) t → Ends done step s t
noncomputable def until_ {α : Type} (done : α → Bool) (step : α → α) (s : α) : α := @Classical.epsilon α ⟨s⟩ (Ends done step s)
section
variable {P : Program} {Q : Exit → Act → World → Prop} {a : Act} {w : World} {body : Code}
theorem step_scope {b : Frame} {k : List Item} {cs : List Frame} : step P (lone (b.at a (.code (.scope body) :: k)) cs w) = .next (lone (b.at a (.code body :: .inScope body :: k)) cs w) :=
 step_lone_go (by simp [stepG, stepG.exec, Frame.at])
theorem zmx {b : Frame} {k : List Item} {cs : List Frame} : step P (lone (b.at a (.inScope body :: k)) cs w) = .next (lone (b.at a k) cs w) :=
 step_lone_go (by simp [stepG, stepG.exec, Frame.at])
def zqx (P : Program) (body : Code) (Q : Exit → Act → World → Prop) : Nat → Exit → Act → World → Prop
 | 0, .goto l, a, w => findLabel body l = none ∧ Q (.goto l) a w
 | n + 1, .goto l, a, w => (findLabel body l = none ∧ Q (.goto l) a w) ∨ ∃ rest, findLabel body l = some rest ∧ rest.wp P (zqx P body Q n) a w
 | _, e, a, w => Q e a w
theorem scope_key : ∀ (n : Nat) (c : Code) (a : Act) (w : World), c.wp P (zqx P body Q n) a w → ∀ b k cs, ∃ e a' w', Q e a' w' ∧ Arrives P (lone (b.at a (.code c :: .inScope body :: k)) cs w) b k cs e a' w' := by
 intro n;induction n with
 | zero =>
  intro c a w h b k cs;obtain ⟨e, a₁, w₁, hq, harr⟩ := h b (.inScope body :: k) cs;cases e with
  | normal => exact ⟨.normal, a₁, w₁, hq, Steps.trans harr (.one zmx)⟩
  | exit id => exact ⟨.exit id, a₁, w₁, hq, fun k' hk => harr k' (by simp [exitTo, hk])⟩
  | goto l => exact ⟨_, a₁, w₁, hq.2, fun k' hk => harr k' (by simp [gotoIn, hq.1, hk])⟩
  | ret => exact ⟨_, a₁, w₁, hq, harr⟩
  | panic ch => exact ⟨_, a₁, w₁, hq, harr⟩
  | outgrown => exact ⟨_, a₁, w₁, hq, harr⟩
 | succ n ih =>
  intro c a w h b k cs;obtain ⟨e, a₁, w₁, hq, harr⟩ := h b (.inScope body :: k) cs;cases e with
  | normal => exact ⟨.normal, a₁, w₁, hq, Steps.trans harr (.one zmx)⟩
  | exit id => exact ⟨.exit id, a₁, w₁, hq, fun k' hk => harr k' (by simp [exitTo, hk])⟩
  | goto l =>
   rcases hq with ⟨h1, hq⟩ | ⟨rest, h1, h2⟩
   · exact ⟨_, a₁, w₁, hq, fun k' hk => harr k' (by simp [gotoIn, h1, hk])⟩
   · obtain ⟨e2, a2, w2, hq2, harr2⟩ := ih rest a₁ w₁ h2 b k cs;exact ⟨e2, a2, w2, hq2, .of_steps (harr _ (by simp [gotoIn, h1])) harr2⟩
  | ret => exact ⟨_, a₁, w₁, hq, harr⟩
  | panic ch => exact ⟨_, a₁, w₁, hq, harr⟩
  | outgrown => exact ⟨_, a₁, w₁, hq, harr⟩
theorem wp_scope (n : Nat) (h : body.wp P (zqx P body Q n) a w) : (Code.scope body).wp P Q a w := fun b k cs =>
 let ⟨e, a', w', q, r⟩ := scope_key n body a w h b k cs
 ⟨e, a', w', q, .of_steps (.one step_scope) r⟩
end
section
variable {P : Program} {N : Nat} {Q : Exit → Act → World → Prop} {σ : Env} {w : World} {body : Code} {n : Nat}
theorem cw_scope (n : Nat) (h : CW P N body (zqx P body Q n) σ w) : CW P N (.scope body) Q σ w := fun a ha => wp_scope n (h a ha)
theorem ew_scope_ret (h : EW N Q .ret σ w) : EW N (zqx P body Q n) .ret σ w := by cases n <;> exact h
theorem cw_label {l : Nat} (h : EW N Q .normal σ w) : CW P N (.label l) Q σ w := fun a ha => wp_label (h a ha)
end
section
variable {P : Program} {N : Nat} {ops : Array Oper} {Q : Exit → Act → World → Prop} {σ : Env} {w : World} {ty : TypeId} {pos : String} {af : Array Edge} {dst : Option Nat} {Post : Value → World → Prop}
theorem yr {T T' : TypeId} {x y : Operand} {g o : Nat} {cs cs' : Array Value} {v : Value} (hs : qm P T 1) (hx : ev σ x = some (.pointer (some ⟨g, o, none⟩))) (hy : ev σ y = some v) (hb : Blk w g T' cs) (hv : v.cells = #[v]) (h1 : gl [v] = true) (hle : o < cs.size) (he : cs.setIfInBounds o v = cs')
 (k : ∀ w', Blk w' g T' cs' → Ext (Mut [some g]) w w' → Post undef w') : OW P N ops Q ⟨dst, .store T x y, ty, pos, af, none⟩ σ w Post := by
 refine va hs hx hy hb (by rw [hv]; rfl) (by rw [hv]; exact h1) (by omega) (fun w' hb' he' => k w' ?_ he');rw [hv] at hb';rw [← he];exact hb'
end
section
variable {P : Program} {N : Nat} {ops : Array Oper} {Q : Exit → Act → World → Prop} {σ : Env} {w : World} {ty : TypeId} {pos : String} {af : Array Edge} {dst : Option Nat} {Post : Value → World → Prop}
theorem zik {x i : Operand} {T e : TypeId} {g n : Nat} {q : IntKind} {m : Int} {j : Nat} (hd : P.underlying T = some (.array n e)) (hs : qm P e 1) (hx : ev σ x = some (.pointer (some ⟨g, 0, none⟩))) (hi : ev σ i = some (.int q m)) (hm : m = (j : Int)) (hj : j < n)
 (k : Post (.pointer (some ⟨g, j, none⟩)) w) : OW P N ops Q ⟨dst, .indexAddr T x i, ty, pos, af, none⟩ σ w Post :=
 ow_indexAddrG hd hs hx hi hm hj (by rw [Nat.mul_one, Nat.zero_add]; exact k)
end
section
variable {P : Program} {N : Nat} {ops : Array Oper} {Q : Exit → Act → World → Prop} {σ : Env} {w : World} {ty : TypeId} {pos : String} {af : Array Edge} {dst : Option Nat} {Post : Value → World → Prop}
theorem ow_buildA {T e : TypeId} {n s : Nat} {z : Value} {ps : List (Nat × Operand)} {vs : List (Nat × Value)} {cs : Array Value} (hd : P.underlying T = some (.array n e)) (hs : qm P e s) (hz : jb P T z) (hv : evp σ ps = some vs) (hf : Instr.fill (fun i => some (i * s, s)) z.cells vs = some cs)
 (k : Post (.agg cs) w) : OW P N ops Q ⟨dst, .build T ps.toArray, ty, pos, af, none⟩ σ w Post :=
 qf (fun ρ ha => by
  have h2 := zvk ha hv;have h3 : (ps.toArray.map fun (i, x) => (i, ρ x)) = vs.toArray := by rw [List.map_toArray, h2]
  simp only [execOp, Instr.build, h3, Sem.run_bind, zmq hz, Result.andThen_ok, run_underlying hd, vw hs, hf, Sem.run_pure]) k
end
section
variable {P : Program} {N : Nat} {ops : Array Oper} {Q : Exit → Act → World → Prop} {σ : Env} {w : World} {ty : TypeId} {pos : String} {af : Array Edge} {dst : Option Nat} {Post : Value → World → Prop}
theorem evs_rho {ρ : Operand → Value} (ha : ∀ {x v}, ev σ x = some v → ρ x = v) : ∀ {l : List Operand} {vs : List Value}, evs σ l = some vs → l.map ρ = vs
 | [], vs, h => by simp [evs] at h; simp [h]
 | x :: l, vs, h => by
  simp only [evs] at h
  split at h
  · rename_i v hv
    split at h
    · rename_i us hl
      injection h with h
      subst h;rw [List.map_cons, ha hv, evs_rho ha hl]
    · cases h
  · cases h
theorem zez {f : FuncId} {xs : List Operand} {vs : List Value} (h : evs σ xs = some vs) (k : Post (.func (.func f) #[] vs.toArray) w) : OW P N ops Q ⟨dst, .makeFunc (.func f) #[] xs.toArray, ty, pos, af, none⟩ σ w Post :=
 qf (fun ρ ha => by
  have e : xs.toArray.map ρ = vs.toArray := by rw [List.map_toArray, evs_rho ha h]
  simp only [execOp, Instr.makeFunc, e, Array.map_empty]
  simp [go_sem]) k
theorem zrz {x : Operand} {xs : List Operand} {ts : Array TypeId} {f : FuncId} {args : List Value} {caps : Array Value} (hx : ev σ x = some (.func (.func f) #[] caps)) (hf : ka P f) (ha : evs σ xs = some args)
 (k : Calls P f (args.toArray ++ caps) w (fun e w' => ∃ v, e = .returned v ∧ Post v w')) : OW P N ops Q ⟨dst, .call ⟨.value x, xs.toArray, ts⟩, ty, pos, af, none⟩ σ w Post := by
 intro a hat;rw [if_pos (by simp [Region.wanted])];unfold Oper.wp;have hargs : xs.toArray.map a.eval = args.toArray := by
  apply Array.toList_inj.1
  rw [Array.toList_map];exact zvq hat ha
 have hrun : (execOp a.eval ⟨dst, .call ⟨.value x, xs.toArray, ts⟩, ty, pos, af, none⟩).run P w = .ok (.enter f (args.toArray ++ caps)) w := by
  simp only [execOp, resolve, hargs, hat.ev hx, Deferred.ofValue, invoke, callFunc, Sem.run_bind, Sem.run_pure, Result.andThen_ok]
  obtain ⟨fn, hf, hb, hr⟩ := hf;simp only [program, Sem.run, Result.andThen_ok, Array.empty_append, hf, hb]
  have hr' : ¬ fn.name = "runtime.NumGoroutine" := fun e => by simp [e] at hr
  simp [hf, hr', hb, go_sem]
 rw [hrun, Oper.upon_enter];exact k.mono fun e w' ⟨v, he, hp⟩ => by subst he; exact ⟨v, rfl, hp⟩
theorem zbx : ∀ (l : List Value) (cs : Array Value) (o j : Nat), (vn cs o l)[j]? = if o ≤ j ∧ j < o + l.length ∧ j < cs.size then l[j - o]? else cs[j]?
 | [], cs, o, j => by
  simp only [vn, List.length_nil, Nat.add_zero]
  rw [if_neg (by omega)]
 | v :: l, cs, o, j => by
  rw [vn, zbx l];simp only [Array.size_setIfInBounds, List.length_cons]
  by_cases h1 : j = o
  · subst h1;rw [if_neg (by omega)];by_cases h2 : j < cs.size
    · rw [if_pos ⟨Nat.le_refl _, by omega, h2⟩, Nat.sub_self];simp [h2]
    · rw [if_neg (by omega)];simp [h2]
  · by_cases h2 : o + 1 ≤ j ∧ j < o + 1 + l.length ∧ j < cs.size
    · rw [if_pos h2, if_pos (by omega), show j - o = (j - (o + 1)) + 1 by omega];simp
    · rw [if_neg h2, if_neg (by omega), Array.getElem?_setIfInBounds_ne (by omega)]
theorem putCells_full (cs : Array Value) (l : List Value) (h : l.length = cs.size) : vn cs 0 l = l.toArray := by
 apply Array.ext_getElem?
 intro j;rw [zbx];by_cases hj : j < cs.size
 · rw [if_pos ⟨Nat.zero_le _, by omega, hj⟩]; simp
 · rw [if_neg (by omega), Array.getElem?_eq_none (by omega), List.getElem?_toArray, List.getElem?_eq_none (by omega)]
theorem qy {T T' : TypeId} {x y : Operand} {g : Nat} {cs : Array Value} {v : Value} {n : Nat} (hs : qm P T n) (hx : ev σ x = some (.pointer (some ⟨g, 0, none⟩))) (hy : ev σ y = some v) (hb : Blk w g T' cs) (hn : v.cells.size = n) (h1 : gl v.cells.toList = true) (hle : n = cs.size)
 (k : ∀ w', Blk w' g T' v.cells → Ext (Mut [some g]) w w' → Post undef w') : OW P N ops Q ⟨dst, .store T x y, ty, pos, af, none⟩ σ w Post :=
 va hs hx hy hb hn h1 (by omega) (fun w' hb' he => k w' (by
  rw [putCells_full _ _ (by rw [Array.length_toList]; omega)] at hb';simpa using hb') he)
theorem vt {T : TypeId} {d : TypeDesc} {x : Operand} {g o : Nat} {cs : Array Value} {n : Nat} (hd : P.underlying T = some d) (hp : TypeDesc.plain d = false) (hs : qm P T n) (hx : ev σ x = some (.pointer (some ⟨g, o, none⟩))) (hn : cs.size = n)
 (hc : ∀ j v, cs[j]? = some v → w.cell? ⟨g, o + j, none⟩ = some v) (k : Post (.agg cs) w) : OW P N ops Q ⟨dst, .load T x, ty, pos, af, none⟩ σ w Post :=
 ow_loadN hd hp hs hx hn (fun j v hj => by rw [Addr.add_eq]; exact hc j v hj) k
end
def xu (w : World) (g o : Nat) (cs : List Value) : Prop := ∀ j v, cs[j]? = some v → w.cell? ⟨g, o + j, none⟩ = some v
def RowS {α : Type} (n : Nat) (w : World) (s : Nat) (R : World → Nat → Nat → α → Prop) (A : Option Addr) (xs : List α) : Prop :=
 xs ≠ [] → ∃ g o, A = some ⟨g, o, none⟩ ∧ g < n ∧ ∀ j x, xs[j]? = some x → R w g (o + j * s) x
def Low (n : Nat) (X : Nat → Prop) (w w' : World) : Prop := Ext X w w' ∧ ∀ k, X k → n ≤ k
theorem Low.cell {n : Nat} {X : Nat → Prop} {w w' : World} (h : Low n X w w') {g o : Nat} {v : Value} (hg : g < n) (hc : w.cell? ⟨g, o, none⟩ = some v) : w'.cell? ⟨g, o, none⟩ = some v :=
 (h.1.cell (World.block_lt_of_cell? w _ hc) (fun hx => by have h1 : n ≤ g := h.2 _ hx; omega)).trans hc
theorem Low.cells {n : Nat} {X : Nat → Prop} {w w' : World} (h : Low n X w w') {g o : Nat} {cs : List Value} (hg : g < n) (hc : xu w g o cs) : xu w' g o cs := fun j v hj => h.cell hg (hc j v hj)
theorem RowS.low {α : Type} {n s : Nat} {w w' : World} {R : World → Nat → Nat → α → Prop} {A : Option Addr} {xs : List α} (h : RowS n w s R A xs) (hR : ∀ g o x, g < n → R w g o x → R w' g o x) : RowS n w' s R A xs := fun h0 => by
 obtain ⟨g, o, e, hg, hc⟩ := h h0;exact ⟨g, o, e, hg, fun j x hj => hR _ _ _ hg (hc j x hj)⟩
theorem RowS.at {α : Type} {n s : Nat} {w : World} {R : World → Nat → Nat → α → Prop} {A : Option Addr} {xs : List α} (h : RowS n w s R A xs) {j : Nat} {x : α} (hj : xs[j]? = some x) : ∃ g o, A = some ⟨g, o, none⟩ ∧ g < n ∧ R w g (o + j * s) x := by
 obtain ⟨g, o, e, hg, hc⟩ := h (fun e => by rw [e] at hj; simp at hj);exact ⟨g, o, e, hg, hc j x hj⟩
def I64 (x : Int) : Prop := -9223372036854775808 ≤ x ∧ x ≤ 9223372036854775807
structure IntsA (n : Nat) (w : World) (A : Option Addr) (xs : List Int) : Prop where
 len : 8 * xs.length ≤ 140737488355000
 in_ : ∀ x ∈ xs, I64 x
 row : RowS n w 1 (fun w g o x => w.cell? ⟨g, o, none⟩ = some (.int .i64 x)) A xs
def gh (x : LIns) (B : Option Addr) (c : Nat) : List Value := [.int .i64 x.op, .int .i64 x.d, .int .i64 x.a, .int .i64 x.b, .int .i64 x.t, .int .i64 x.k, .slice B x.l.length c]
structure InsI (x : LIns) : Prop where
 op : I64 x.op
 d : I64 x.d
 a : I64 x.a
 b : I64 x.b
 t : I64 x.t
 k : I64 x.k
structure InsAt (n : Nat) (w : World) (g o : Nat) (x : LIns) : Prop where
 i64 : InsI x
 cells : ∃ B c, 8 * x.l.length ≤ 140737488351232 ∧ IntsA n w B x.l ∧ xu w g o (gh x B c)
structure InsA (n : Nat) (w : World) (A : Option Addr) (xs : List LIns) : Prop where
 len : 72 * xs.length ≤ 140737488351232
 row : RowS n w 7 (InsAt n) A xs
structure RegI (r : LReg) : Prop where
 fr : I64 r.fr
 to : I64 r.to
 tg : I64 r.tg
 d : I64 r.d
def regV (r : LReg) : List Value := [.int .i64 r.fr, .int .i64 r.to, .int .i64 r.tg, .int .i64 r.d]
structure RegsA (n : Nat) (w : World) (A : Option Addr) (xs : List LReg) : Prop where
 len : 32 * xs.length ≤ 140737488351232
 in_ : ∀ x ∈ xs, RegI x
 row : RowS n w 4 (fun w g o x => xu w g o (regV x)) A xs
structure StrsA (n : Nat) (w : World) (A : Option Addr) (xs : List ByteArray) : Prop where
 len : 16 * xs.length ≤ 140737488351232
 in_ : ∀ x ∈ xs, x.size ≤ maxLen
 row : RowS n w 1 (fun w g o x => w.cell? ⟨g, o, none⟩ = some (.string x)) A xs
structure ConsA (n : Nat) (w : World) (A : Option Addr) (xs : List (Int × ByteArray)) : Prop where
 len : 24 * xs.length ≤ 140737488351232
 in_ : ∀ x ∈ xs, I64 x.1 ∧ x.2.size ≤ maxLen
 row : RowS n w 2 (fun w g o x => xu w g o [.int .i64 x.1, .string x.2]) A xs
structure Pl where
 an : Option Addr
 cn : Nat
 ac : Option Addr
 cc : Nat
 ai : Option Addr
 ci : Nat
 ar : Option Addr
 cr : Nat
structure FnA (n : Nat) (w : World) (p : Pl) (f : LFn) : Prop where
 params : I64 f.params
 regs : I64 f.regs
 frees : I64 f.frees
 bound : I64 f.bound
 name : f.name.size ≤ maxLen
 names : StrsA n w p.an f.names
 consts : ConsA n w p.ac f.consts
 ins : InsA n w p.ai f.ins
 rgs : RegsA n w p.ar f.rgs
 size : n ≤ w.heap.size
section
variable {n : Nat} {X : Nat → Prop} {w w' : World} {A : Option Addr}
theorem IntsA.low {xs : List Int} (h : IntsA n w A xs) (k : Low n X w w') : IntsA n w' A xs := ⟨h.len, h.in_, h.row.low fun _ _ _ hg hc => k.cell hg hc⟩
theorem InsAt.low {g o : Nat} {x : LIns} (h : InsAt n w g o x) (hg : g < n) (k : Low n X w w') : InsAt n w' g o x := by
 obtain ⟨h1, B, c, h2, h3, h4⟩ := h;exact ⟨h1, B, c, h2, h3.low k, k.cells hg h4⟩
theorem InsA.low {xs : List LIns} (h : InsA n w A xs) (k : Low n X w w') : InsA n w' A xs := ⟨h.len, h.row.low fun _ _ _ hg hc => hc.low hg k⟩
theorem RegsA.low {xs : List LReg} (h : RegsA n w A xs) (k : Low n X w w') : RegsA n w' A xs := ⟨h.len, h.in_, h.row.low fun _ _ _ hg hc => k.cells hg hc⟩
theorem StrsA.low {xs : List ByteArray} (h : StrsA n w A xs) (k : Low n X w w') : StrsA n w' A xs := ⟨h.len, h.in_, h.row.low fun _ _ _ hg hc => k.cell hg hc⟩
theorem ConsA.low {xs : List (Int × ByteArray)} (h : ConsA n w A xs) (k : Low n X w w') : ConsA n w' A xs := ⟨h.len, h.in_, h.row.low fun _ _ _ hg hc => k.cells hg hc⟩
theorem FnA.low {p : Pl} {f : LFn} (h : FnA n w p f) (k : Low n X w w') : FnA n w' p f :=
 ⟨h.params, h.regs, h.frees, h.bound, h.name, h.names.low k, h.consts.low k, h.ins.low k, h.rgs.low k, Nat.le_trans h.size k.1.size⟩
theorem Per.ints {xs : List Int} (h : IntsA n w A xs) (hX : ∀ k, X k → n ≤ k) : Per X w (fun z => IntsA n z A xs) := fun _ hb => h.low ⟨hb, hX⟩
theorem Per.regs {xs : List LReg} (h : RegsA n w A xs) (hX : ∀ k, X k → n ≤ k) : Per X w (fun z => RegsA n z A xs) := fun _ hb => h.low ⟨hb, hX⟩
theorem Per.fnA {p : Pl} {f : LFn} (h : FnA n w p f) (hX : ∀ k, X k → n ≤ k) : Per X w (fun z => FnA n z p f) := fun _ hb => h.low ⟨hb, hX⟩
theorem RowS.up {α : Type} {s m : Nat} {R R' : World → Nat → Nat → α → Prop} {xs : List α} (h : RowS n w s R A xs) (hm : n ≤ m) (hR : ∀ g o x, R w g o x → R' w g o x) : RowS m w s R' A xs := fun h0 => by
 obtain ⟨g, o, e, hg, hc⟩ := h h0;exact ⟨g, o, e, by omega, fun j x hj => hR _ _ _ (hc j x hj)⟩
theorem IntsA.up {m : Nat} {xs : List Int} (h : IntsA n w A xs) (hm : n ≤ m) : IntsA m w A xs := ⟨h.len, h.in_, h.row.up hm fun _ _ _ hc => hc⟩
theorem InsAt.up {m g o : Nat} {x : LIns} (h : InsAt n w g o x) (hm : n ≤ m) : InsAt m w g o x := by
 obtain ⟨h1, B, c, h2, h3, h4⟩ := h;exact ⟨h1, B, c, h2, h3.up hm, h4⟩
theorem InsA.up {m : Nat} {xs : List LIns} (h : InsA n w A xs) (hm : n ≤ m) : InsA m w A xs := ⟨h.len, h.row.up hm fun _ _ _ hc => hc.up hm⟩
theorem RegsA.up {m : Nat} {xs : List LReg} (h : RegsA n w A xs) (hm : n ≤ m) : RegsA m w A xs := ⟨h.len, h.in_, h.row.up hm fun _ _ _ hc => hc⟩
theorem StrsA.up {m : Nat} {xs : List ByteArray} (h : StrsA n w A xs) (hm : n ≤ m) : StrsA m w A xs := ⟨h.len, h.in_, h.row.up hm fun _ _ _ hc => hc⟩
theorem ConsA.up {m : Nat} {xs : List (Int × ByteArray)} (h : ConsA n w A xs) (hm : n ≤ m) : ConsA m w A xs := ⟨h.len, h.in_, h.row.up hm fun _ _ _ hc => hc⟩
theorem FnA.up {m : Nat} {p : Pl} {f : LFn} (h : FnA n w p f) (hm : n ≤ m) (hs : m ≤ w.heap.size) : FnA m w p f :=
 ⟨h.params, h.regs, h.frees, h.bound, h.name, h.names.up hm, h.consts.up hm, h.ins.up hm, h.rgs.up hm, hs⟩
theorem IntsA.cell {xs : List Int} (h : IntsA n w A xs) {j : Nat} {x : Int} (hj : xs[j]? = some x) : ∃ g o, A = some ⟨g, o, none⟩ ∧ g < n ∧ w.cell? ⟨g, o + j, none⟩ = some (.int .i64 x) := by
 obtain ⟨g, o, e, hg, hc⟩ := h.row.at hj;exact ⟨g, o, e, hg, by rwa [Nat.mul_one] at hc⟩
theorem IntsA.reads {xs : List Int} (h : IntsA n w A xs) {B : Nat} (hB : n ≤ B) : Reads w B 1 A xs.length (xs.map fun x => .int .i64 x) := by
 refine ⟨by simp, fun h0 => ?_⟩;obtain ⟨g, o, e, hg, hc⟩ := h.row (fun e => by rw [e] at h0; simp at h0);refine ⟨_, e, by show g < B; omega, fun j u hj => ?_⟩;rw [Lib.add_plain];rw [List.getElem?_map] at hj;cases hx : xs[j]? with
 | none => rw [hx] at hj; cases hj
 | some x =>
  rw [hx] at hj;obtain rfl := Option.some.inj hj;have := hc j x hx;rwa [Nat.mul_one] at this
end
def fnV (p : Pl) (f : LFn) : Value := .agg #[.string f.name, .int .i64 f.params, .int .i64 f.regs, .int .i64 f.frees, .bool f.gen, .int .i64 f.bound, .slice p.an f.names.length p.cn, .slice p.ac f.consts.length p.cc, .slice p.ai f.ins.length p.ci, .slice p.ar f.rgs.length p.cr]
end Go.Proofs.YtppdgjlmeahimaaDoor
namespace Go.Proofs.YtppdgjlmeahimaaDoor
open Go.RowKit
set_option maxRecDepth 100000
attribute [local irreducible] OW RS
def flC : Array Value := #[.int .i64 0, .int .i64 1024, .int .i64 32770, .int .i64 2050, .int .i64 6, .int .i64 2, .int .i64 4098, .int .i64 4100, .int .i64 4096, .int .i64 2, .int .i64 6, .int .i64 12, .int .i64 4, .int .i64 8194, .int .i64 32782, .int .i64 32774, .int .i64 32782, .int .i64 6, .int .i64 16, .int .i64 20, .int .i64 20, .int .i64 38, .int .i64 4102, .int .i64 4108, .int .i64 14, .int .i64 140, .int .i64 12, .int .i64 262, .int .i64 34, .int .i64 34, .int .i64 34, .int .i64 66, .int .i64 12, .int .i64 12, .int .i64 4100, .int .i64 36, .int .i64 16898, .int .i64 4130, .int .i64 6, .int .i64 22, .int .i64 6, .int .i64 4, .int .i64 4, .int .i64 14, .int .i64 32770]
theorem flC_eq : flC = (flT.map (fun z => Value.int .i64 ((z : Nat) : Int))).toArray := rfl
theorem flC_at {j : Nat} (h : j < 45) : flC[j]? = some (.int .i64 ((flT.getD j 0 : Nat) : Int)) := by
 have key : ∀ i : Fin 45, flT[i.val]? = some (flT.getD i.val 0) := by decide +kernel
 rw [flC_eq, List.getElem?_toArray, List.getElem?_map, key ⟨j, h⟩];rfl
theorem fl_or {j : Nat} (h : j < 45) : IntKind.i64.wrap (BitVec.ofInt IntKind.i64.bits ((flT.getD j 0 : Nat) : Int) ||| BitVec.ofInt IntKind.i64.bits 1).toNat = ((flT.getD j 0 ||| 1 : Nat) : Int) := by
 have key : ∀ i : Fin 45, IntKind.i64.wrap (BitVec.ofInt IntKind.i64.bits ((flT.getD i.val 0 : Nat) : Int) ||| BitVec.ofInt IntKind.i64.bits 1).toNat = ((flT.getD i.val 0 ||| 1 : Nat) : Int) := by decide +kernel
 exact key ⟨j, h⟩
section
variable (w : World)
theorem zsx (op : Int) : Calls Tryd.prog 44 #[.int .i64 op] w fun e w' => e = .returned (.int .i64 ((flN op : Nat) : Int)) ∧ Below w.heap.size w w' := by
 refine qw Tryd.func44 rfl Tryd.ntmps44 rfl ?_;have LW := erx (No) w;have XLW := grx (No) w;have E := erx (No) w;refine srx (anx rfl (zm (srx (mvx rfl (za rfl (yy rfl rfl (mvx rfl (yv 6 rfl (fun h1 => ?_) (fun h1 => ?_)))))))))
 ·
  have h1 := of_decide_eq_true h1;have e : flN op = 0 := by unfold flN; rw [if_pos (.inl h1)]
  refine za rfl (zc rfl (za rfl (zc rfl (za rfl (zr rfl rfl (rnx (qq rfl (srx (anx rfl (yc (zd (yb (rs := [.tmp 2]) (vs := [_]) rfl ⟨rfl, trivial⟩ ?_))))))))))));exact ⟨by rw [e]; rfl, (LW.step E XLW).toBelow⟩
 ·
  have h1 := of_decide_eq_false h1;refine onx rfl (zl rfl (onx rfl (xc rfl rfl (za rfl (zz rfl rfl (rnx (zw rfl (fun h2 => ?_) (fun h2 => ?_))))))))
  ·
   have h2 := of_decide_eq_true h2;have e : flN op = 0 := by unfold flN; rw [if_pos (.inr h2)]
   refine srx (anx rfl (yc (zd (yb (rs := [.tmp 2]) (vs := [_]) rfl ⟨rfl, trivial⟩ ?_))));exact ⟨by rw [e]; rfl, (LW.step E XLW).toBelow⟩
  ·
   have h2 := of_decide_eq_false h2;have e : flN op = flT.getD op.toNat 0 ||| 1 := by unfold flN; rw [if_neg (by omega)]
   refine zq (zh (srx (za rfl (ow_buildA (cs := flC) Tryd.underlying89 sz3 zr89 rfl (by kernel_rfl) (za rfl (qa zr89 ?_))))));intro gb1 w2 Bb1 Eb1 Gb1;have Gb1 : _ ≤ gb1 := Nat.le_trans E.size Gb1;have GLb1 := Nat.le_trans LW.size Gb1;replace E := E.trans Eb1.no;replace E := E.cons (some gb1)
   replace XLW := Mut.grow XLW (fun k e => Or.inr (Nat.le_trans LW.size ((yk Gb1) k e)));refine yx (va sz89 rfl rfl Bb1 rfl rfl (Nat.le_of_ble_eq_true rfl) ?_);intro w3 Bx Eb1;replace Bb1 := Bx;replace E := E.step1 Eb1 Mut.head
   refine rnx (srx (mvx rfl (za rfl (zik (j := op.toNat) Tryd.underlying89 sz3 rfl rfl (by omega) (by omega) (za rfl (ze (cs := flC) Tryd.underlying3 rfl rfl Bb1 (flC_at (by omega)) (za rfl (ow_or rfl rfl (fl_or (by omega)) (anx rfl (yc (yb (rs := [.tmp 2]) (vs := [_]) rfl ⟨rfl, trivial⟩ ?_)))))))))));exact ⟨by rw [e]; rfl, (LW.step E XLW).toBelow⟩
end
end Go.Proofs.YtppdgjlmeahimaaDoor
namespace Go.Proofs.YtppdgjlmeahimaaDoor
open Go.RowKit
set_option maxRecDepth 100000
attribute [local irreducible] OW RS
def rL (op : Int) : Int := if (flN op).testBit 5 = true then -2 else if (flN op).testBit 6 = true then -3 else if (flN op).testBit 7 = true then 1 else if (flN op).testBit 8 = true then 2 else if (flN op).testBit 9 = true then -4 else -1
def rK (op : Int) : Int := if (flN op).testBit 10 = true then 1 else if (flN op).testBit 11 = true then 2 else if (flN op).testBit 12 = true then 3 else if (flN op).testBit 13 = true then 4 else if (flN op).testBit 14 = true then 5 else if (flN op).testBit 15 = true then 10 else 0
def rLo (op : Int) : Int := if op = 14 ∨ op = 15 ∨ op = 16 then 1 else 0
def rHi (op : Int) : Int := if op = 2 then 2 else if op = 14 then 7 else if op = 15 then 2 else if op = 16 then 10 else if op = 44 then 34 else 0
def rowV (op : Int) : Value := .agg #[.bool (flN op != 0), .bool (uD op), .bool (uA op), .bool (uB op), .bool (uT op), .int .i64 (rL op), .int .i64 (rK op), .int .i64 (rLo op), .int .i64 (rHi op)]
section
variable (w : World)
end
end Go.Proofs.YtppdgjlmeahimaaDoor
namespace Go.Proofs.YtppdgjlmeahimaaDoor
open Go.RowKit
set_option maxRecDepth 100000
def yq (xs : List Int) : List Value := xs.map fun x => .int .i64 x
theorem kf {xs : List Int} : ∀ u ∈ yq xs, u.oneCell' = true := fun u hu => by
 obtain ⟨x, _, rfl⟩ := List.mem_map.1 hu;rfl
abbrev OwnsI (w : World) (base : Nat) (A : Option Addr) (c : Nat) (xs : List Int) : Prop := w.ownsRow base 3 1 (.slice A xs.length c) xs.length (yq xs)
def zhv (w : World) (xs : List Int) : Ending → World → Prop := fun e w' => ∃ A c, e = .returned (.slice A xs.length c) ∧ OwnsI w' w.heap.size A c xs ∧ Below w.heap.size w w'
theorem yz {w w' : World} {xs : List Int} {n c : Nat} {A : Option Addr} {vs : List Value} (hn : n = xs.length) (hv : vs = yq xs) (ho : w'.ownsRow w.heap.size 3 1 (.slice A n c) n vs) (hb : Below w.heap.size w w') : zhv w xs (.returned (.slice A n c)) w' := by
 subst hn hv;exact ⟨A, c, rfl, ho, hb⟩
theorem kd {w : World} {g base n : Nat} {t : TypeId} {cs : Array Value} (h : Blk w g t cs) (hb : base ≤ g) (hn : cs.size = n) (hm : n ≤ maxLen) : w.ownsRow base t 1 (.slice (some ⟨g, 0, none⟩) n n) n cs.toList := by
 refine ⟨by simp [hn], Or.inr ⟨g, n, cs, rfl, hb, h, Nat.le_refl _, hm, by rw [hn, Nat.mul_one], ?_⟩⟩;rw [Nat.mul_one, ← hn, ← Array.length_toList, List.take_length]
theorem OwnsI.ints {w : World} {base c : Nat} {A : Option Addr} {xs : List Int} (h : OwnsI w base A c xs) (hl : 8 * xs.length ≤ 140737488355000) (hi : ∀ x ∈ xs, I64 x) : IntsA w.heap.size w A xs := by
 refine ⟨hl, hi, fun h0 => ?_⟩;obtain ⟨g, rfl, _, hg, hc⟩ := jk h (by cases xs with | nil => exact absurd rfl h0 | cons => simp);refine ⟨g, 0, rfl, hg, fun j x hj => ?_⟩;have := hc j (.int .i64 x) (by unfold yq; rw [List.getElem?_map, hj]; rfl);rwa [Nat.zero_add, Nat.mul_one]
theorem zfz (x : Nat) : BitVec.ofInt 64 (x : Int) = BitVec.ofNat 64 x := by
 apply BitVec.eq_of_toNat_eq
 rw [BitVec.toNat_ofInt, BitVec.toNat_ofNat];omega
theorem and_i64 {x y : Nat} (hx : x < 9223372036854775808) (hy : y < 9223372036854775808) : IntKind.i64.wrap (BitVec.ofInt IntKind.i64.bits (x : Int) &&& BitVec.ofInt IntKind.i64.bits (y : Int)).toNat = ((x &&& y : Nat) : Int) := by
 have e : (BitVec.ofInt IntKind.i64.bits (x : Int) &&& BitVec.ofInt IntKind.i64.bits (y : Int)).toNat = x &&& y := by
  show (BitVec.ofInt 64 (x : Int) &&& BitVec.ofInt 64 (y : Int)).toNat = x &&& y
  rw [zfz, zfz, BitVec.toNat_and, BitVec.toNat_ofNat, BitVec.toNat_ofNat, Nat.mod_eq_of_lt (by omega), Nat.mod_eq_of_lt (by omega)]
 rw [e];have : x &&& y ≤ x := Nat.and_le_left;exact zy (by omega)
theorem kz (op : Int) (y : Nat) (hy : y < 9223372036854775808) : IntKind.i64.wrap (BitVec.ofInt IntKind.i64.bits ((flN op : Nat) : Int) &&& BitVec.ofInt IntKind.i64.bits (y : Int)).toNat = ((flN op &&& y : Nat) : Int) :=
 and_i64 (by have := flN_lt op; omega) hy
theorem xm (n : Nat) : (((n : Nat) : Int) != 0) = (n != 0) := by
 cases n with
 | zero => rfl
 | succ n =>
  have h1 : (((n + 1 : Nat) : Int) != 0) = true := by simp; omega
  rw [h1]; simp
theorem zvv (n k : Nat) : ((((n &&& 2 ^ k : Nat)) : Int) != 0) = n.testBit k := by
 rw [xm];cases h : n.testBit k
 · have : n &&& 2 ^ k = 0 := by
    apply Nat.eq_of_testBit_eq
    intro j;rw [Nat.testBit_and, Nat.testBit_two_pow, Nat.zero_testBit];by_cases hj : k = j
    · subst hj; rw [h]; rfl
    · simp [hj]
   rw [this]; rfl
 · have : n &&& 2 ^ k ≠ 0 := fun e => by
    have h1 : (n &&& 2 ^ k).testBit k = true := by rw [Nat.testBit_and, h, Nat.testBit_two_pow]; simp
    rw [e, Nat.zero_testBit] at h1;cases h1
   simp [this]
theorem next_wrap {x : Int} (h : I64 x) : (if IntKind.i64.wrap (x + 1) > x then IntKind.i64.wrap (x + 1) else x) = zeq x := by
 obtain ⟨h1, h2⟩ := h;unfold zeq;by_cases h3 : x < 9223372036854775807
 · rw [zy (by omega), if_pos (by omega), if_pos h3]
 · obtain rfl : x = 9223372036854775807 := by omega
   rw [if_neg h3];decide
def LIns.v (i : LIns) (B : Option Addr) (c : Nat) : Value := .agg #[.int .i64 i.op, .int .i64 i.d, .int .i64 i.a, .int .i64 i.b, .int .i64 i.t, .int .i64 i.k, .slice B i.l.length c]
end Go.Proofs.YtppdgjlmeahimaaDoor
namespace Go.Proofs.YtppdgjlmeahimaaDoor
open Go.RowKit
set_option maxRecDepth 100000
attribute [local irreducible] OW RS
theorem ztz (op : Int) : uL op = (flN op &&& 992 != 0) := rfl
theorem bitD (op : Int) : (flN op).testBit 1 = uD op := rfl
theorem bitA (op : Int) : (flN op).testBit 2 = uA op := rfl
theorem bitB (op : Int) : (flN op).testBit 3 = uB op := rfl
attribute [local irreducible] flN uD uA uB uT uL rL rK rLo rHi
section
variable (w : World) (i : LIns) (B : Option Addr) (c : Nat) (n0 : Nat) (hl : IntsA n0 w B i.l)
theorem jm {a b : Bool} {z : Bool} (h1 : uA i.op = a) (h2 : uB i.op = b) (h3 : (uL i.op && i.op != 35) = z) : yg i = (if a = true then [i.a] else []) ++ ((if b = true then [i.b] else []) ++ (if z = true then i.l else [])) := by
 unfold yg; rw [h1, h2, h3]
include hl
theorem zgz (hn : n0 ≤ w.heap.size) : Calls Tryd.prog 35 #[.agg #[.int .i64 i.op, .int .i64 i.d, .int .i64 i.a, .int .i64 i.b, .int .i64 i.t, .int .i64 i.k, .slice B i.l.length c]] w (zhv w (yg i)) := by
 have hll := hl.len;refine qw Tryd.func35 rfl Tryd.ntmps35 rfl ?_;have HF : Per (No) w (fun _ => True) := Per.true_;have LW := erx (No) w;have XLW := grx (No) w;have E := erx (No) w;replace HF := HF.on E;replace LW := LW.step E XLW;replace E := erx (No) w;replace HF := HF.and (Per.ints hl (fun _ h => h.elim));refine srx (za rfl (vd rfl ?_));intro gb1 w2 Bb1 Eb1 Gb1
 have Gb1 : _ ≤ gb1 := Nat.le_trans E.size Gb1;have GLb1 := Nat.le_trans LW.size Gb1;replace E := E.trans Eb1.no;replace HF := HF.cons (yk Gb1);replace E := E.cons (some gb1);replace XLW := Mut.grow XLW (fun k e => Or.inr (Nat.le_trans LW.size ((yk Gb1) k e)));replace HF := HF.on E;replace LW := LW.step E XLW;have SB : ∀ q9, No q9 → Mut [(some gb1)] q9 := (Mut.skip Mut.nil_)
 replace HF := HF.less SB;replace XLW := fun k h => XLW k (SB k h);clear SB;replace E := erx (No) w2;replace HF := HF.and (Per.blkN Bb1 NotIn.nil);refine anx rfl (srx (za rfl (zb Tryd.underlying41 rfl sz3 (by decide) rfl (za rfl (ze Tryd.underlying3 rfl rfl (HF.on E).here.2 rfl (za rfl (ya en44 rfl ((zsx _ i.op).mono ?_))))))));rintro e w3 ⟨rfl, hb⟩
 refine ⟨_, rfl, ?_⟩;replace E := blx E hb;have Ol : World.ownsRow w3 w.heap.size 3 1 (.slice none 0 0) 0 ([]) := vg;replace HF := HF.cons (nil_no);replace E := E.cons ((Value.slice none 0 0).ownBlock);replace XLW := Mut.grow XLW (fun k e => Or.inr (Nat.le_trans LW.size ((nil_no) k e)))
 refine anx rfl (srx (anx rfl (zm (srx (mvx rfl (za rfl (jr rfl rfl (kz i.op 4 (by decide)) (za rfl (qs rfl rfl (rnx (qd 10 (.bool (uA i.op)) rfl ((by rw [show (4 : Nat) = 2 ^ 2 from rfl, zvv, bitA] : (.bool (((flN i.op &&& 4 : Nat) : Int) != 0) : Value) = _)) (zw rfl (fun hA => ?_) (fun hA => ?_)))))))))))))
 ·
  refine zp (mvx rfl (za rfl (zb Tryd.underlying41 rfl sz3 (by decide) rfl (za rfl (ze Tryd.underlying3 rfl rfl (HF.on E).here.2 rfl (za rfl (yu (cs := #[.int .i64 i.a]) Tryd.underlying28 sz3 zr3 (by decide) rfl (by rw [qk]; rfl) ?_)))))));intro gb4 w5 Bb4 Eb4 Gb4
  have Db4_l : Apart (some gb4) ((Value.slice none 0 0).ownBlock) := Apart.of_lt (jj Ol) Gb4;have Dl_b4 := Db4_l.symm;have Gb4 : _ ≤ gb4 := Nat.le_trans E.size Gb4;have GLb4 := Nat.le_trans LW.size Gb4;replace Ol := kq Ol Eb4 NotIn.nil;replace E := E.trans Eb4.no;replace HF := HF.cons (yk Gb4);replace E := E.cons (some gb4)
  replace XLW := Mut.grow XLW (fun k e => Or.inr (Nat.le_trans LW.size ((yk Gb4) k e)));replace HF := HF.on E;replace LW := LW.step E XLW;have SB : ∀ q9, Mut [((Value.slice none 0 0).ownBlock)] q9 → Mut [(some gb4), ((Value.slice none 0 0).ownBlock)] q9 := (Mut.skip (Mut.keep Mut.nil_));replace HF := HF.less SB;replace XLW := fun k h => XLW k (SB k h);clear SB
  replace E := erx (Mut [((Value.slice none 0 0).ownBlock)]) w5;replace HF := HF.and (Per.blkN Bb4 (NotIn.cons Db4_l NotIn.nil));refine za rfl (jf (news := [.int .i64 i.a]) Tryd.underlying28 inf3 rfl (by decide) rfl Ol rfl (zgx (HF.on E).here.2 ((HF.on E).here.2).lt rfl) (by simp [Value.oneCell']) (by unfold maxLen; omega) (by omega) (by exact Nat.le_trans LW.size E.size) ?_)
  intro v0 w7 On En KN;obtain ⟨Aq6, cq6, rfl⟩ := vm On;replace KN : ∀ q9, ((Value.slice Aq6 1 cq6).ownBlock) = some q9 → ((Value.slice none 0 0).ownBlock) = some q9 ∨ w5.heap.size ≤ q9 := KN
  have HY : Gro (Mut [((Value.slice Aq6 1 cq6).ownBlock)]) (Mut [((Value.slice none 0 0).ownBlock)]) w5 := (Mut.grow Mut.none_ (fun k e => (KN k e).elim (fun e => Or.inl (Mut.head k e)) (fun h => Or.inr (Nat.le_trans E.size h))));replace E := E.step1 En Mut.head;replace HF := HF.turn E HY
  have XT := fun q9 (h : (Mut [((Value.slice Aq6 1 cq6).ownBlock)]) q9) => (HY q9 h).elim (XLW q9) (fun h => Or.inr (Nat.le_trans LW.size h));replace LW := LW.step E XLW;replace XLW := XT;replace E := erx (Mut [((Value.slice Aq6 1 cq6).ownBlock)]) w7;clear HY;replace Ol : World.ownsRow w7 w.heap.size 3 1 (.slice Aq6 1 cq6) 1 ([.int .i64 i.a]) := by
   have e : (([]) : List Value) ++ ([.int .i64 i.a] : List Value) = [.int .i64 i.a] := rfl;rw [← e];exact On
  clear On KN En;refine anx rfl (zm (srx (mvx rfl (za rfl (jr rfl rfl (kz i.op 8 (by decide)) (za rfl (qs rfl rfl (rnx (qd 18 (.bool (uB i.op)) rfl ((by rw [show (8 : Nat) = 2 ^ 3 from rfl, zvv, bitB] : (.bool (((flN i.op &&& 8 : Nat) : Int) != 0) : Value) = _)) (zw rfl (fun hB => ?_) (fun hB => ?_)))))))))))
  ·
   refine zp (mvx rfl (za rfl (zb Tryd.underlying41 rfl sz3 (by decide) rfl (za rfl (ze Tryd.underlying3 rfl rfl (HF.on E).here.1.2 rfl (za rfl (yu (cs := #[.int .i64 i.b]) Tryd.underlying28 sz3 zr3 (by decide) rfl (by rw [qk]; rfl) ?_)))))));intro gb8 w9 Bb8 Eb8 Gb8
   have Db8_l : Apart (some gb8) ((Value.slice Aq6 1 cq6).ownBlock) := Apart.of_lt (jj Ol) Gb8;have Dl_b8 := Db8_l.symm;have Gb8 : _ ≤ gb8 := Nat.le_trans E.size Gb8;have GLb8 := Nat.le_trans LW.size Gb8;replace Ol := kq Ol Eb8 NotIn.nil;replace E := E.trans Eb8.no;replace HF := HF.cons (yk Gb8);replace E := E.cons (some gb8)
   replace XLW := Mut.grow XLW (fun k e => Or.inr (Nat.le_trans LW.size ((yk Gb8) k e)));replace HF := HF.on E;replace LW := LW.step E XLW;have SB : ∀ q9, Mut [((Value.slice Aq6 1 cq6).ownBlock)] q9 → Mut [(some gb8), ((Value.slice Aq6 1 cq6).ownBlock)] q9 := (Mut.skip (Mut.keep Mut.nil_));replace HF := HF.less SB;replace XLW := fun k h => XLW k (SB k h);clear SB
   replace E := erx (Mut [((Value.slice Aq6 1 cq6).ownBlock)]) w9;replace HF := HF.and (Per.blkN Bb8 (NotIn.cons Db8_l NotIn.nil));refine za rfl (jf (news := [.int .i64 i.b]) Tryd.underlying28 inf3 rfl (by decide) rfl Ol rfl (zgx (HF.on E).here.2 ((HF.on E).here.2).lt rfl) (by simp [Value.oneCell']) (by unfold maxLen; omega) (by omega) (by exact Nat.le_trans LW.size E.size) ?_)
   intro v0 w11 On En KN;obtain ⟨Aq10, cq10, rfl⟩ := vm On;replace KN : ∀ q9, ((Value.slice Aq10 2 cq10).ownBlock) = some q9 → ((Value.slice Aq6 1 cq6).ownBlock) = some q9 ∨ w9.heap.size ≤ q9 := KN
   have HY : Gro (Mut [((Value.slice Aq10 2 cq10).ownBlock)]) (Mut [((Value.slice Aq6 1 cq6).ownBlock)]) w9 := (Mut.grow Mut.none_ (fun k e => (KN k e).elim (fun e => Or.inl (Mut.head k e)) (fun h => Or.inr (Nat.le_trans E.size h))));replace E := E.step1 En Mut.head;replace HF := HF.turn E HY
   have XT := fun q9 (h : (Mut [((Value.slice Aq10 2 cq10).ownBlock)]) q9) => (HY q9 h).elim (XLW q9) (fun h => Or.inr (Nat.le_trans LW.size h));replace LW := LW.step E XLW;replace XLW := XT;replace E := erx (Mut [((Value.slice Aq10 2 cq10).ownBlock)]) w11;clear HY;replace Ol : World.ownsRow w11 w.heap.size 3 1 (.slice Aq10 2 cq10) 2 ([.int .i64 i.a, .int .i64 i.b]) := by
    have e : (([.int .i64 i.a]) : List Value) ++ ([.int .i64 i.b] : List Value) = [.int .i64 i.a, .int .i64 i.b] := rfl;rw [← e];exact On
   clear On KN En;refine anx rfl (zm (srx (mvx rfl (za rfl (jr rfl rfl (kz i.op 992 (by decide)) (za rfl (qs rfl rfl (mvx rfl ?_))))))));by_cases hu : flN i.op &&& 992 = 0
   ·
    have hL : (uL i.op && i.op != 35) = false := by rw [ztz, hu]; rfl
    refine vc 27 (.bool false) rfl ((by rw [hu]; rfl : (.bool (((flN i.op &&& 992 : Nat) : Int) != 0) : Value) = _)) (za rfl (zc rfl (za rfl (zc rfl (za rfl (zc rfl (za rfl (zz rfl rfl (rnx (qz rfl (zq (zh (srx (mvx rfl (anx rfl (yc ?_))))))))))))))));have e := jm i hA hB hL
    refine yb (rs := [.tmp 2]) (vs := [_]) rfl ⟨rfl, trivial⟩ ?_;exact yz (by rw [e]; simp) (by rw [e]; simp [yq]) Ol (LW.step E XLW).toBelow
   ·
    refine vc 27 (.bool true) rfl ((by rw [xm]; simp [hu] : (.bool (((flN i.op &&& 992 : Nat) : Int) != 0) : Value) = _)) (onx rfl (zb Tryd.underlying41 rfl sz3 (by decide) rfl (onx rfl (ze Tryd.underlying3 rfl rfl (HF.on E).here.1.1.2 rfl (onx rfl (qs rfl rfl (za rfl (zr rfl rfl (rnx (zw rfl (fun h35 => ?_) (fun h35 => ?_)))))))))))
    ·
     have hL : (uL i.op && i.op != 35) = true := by rw [ztz, h35]; simp [hu]
     refine zp (mvx rfl (za rfl (zb Tryd.underlying41 rfl ziz (by decide) rfl (za rfl (ze Tryd.underlying28 rfl rfl (HF.on E).here.1.1.2 rfl (za rfl (jf (news := yq i.l) Tryd.underlying28 inf3 rfl (by decide) rfl Ol rfl (((HF.on E).here.1.1.1.2).reads (Nat.le_trans hn (Nat.le_trans LW.size E.size))) (kf) (by unfold maxLen; omega) (by omega) (by exact Nat.le_trans LW.size E.size) ?_)))))))
     intro v0 w12 On En KN;obtain ⟨A3, c3, rfl⟩ := vm On;replace KN : ∀ q9, ((Value.slice A3 (2 + i.l.length) c3).ownBlock) = some q9 → ((Value.slice Aq10 2 cq10).ownBlock) = some q9 ∨ w11.heap.size ≤ q9 := KN
     have HY : Gro (Mut [((Value.slice A3 (2 + i.l.length) c3).ownBlock)]) (Mut [((Value.slice Aq10 2 cq10).ownBlock)]) w11 := (Mut.grow Mut.none_ (fun k e => (KN k e).elim (fun e => Or.inl (Mut.head k e)) (fun h => Or.inr (Nat.le_trans E.size h))));replace E := E.step1 En Mut.head
     have XT := fun q9 (h : (Mut [((Value.slice A3 (2 + i.l.length) c3).ownBlock)]) q9) => (HY q9 h).elim (XLW q9) (fun h => Or.inr (Nat.le_trans LW.size h));replace LW := LW.step E XLW;replace XLW := XT;replace E := erx (Mut [((Value.slice A3 (2 + i.l.length) c3).ownBlock)]) w12;clear HY
     replace Ol : World.ownsRow w12 w.heap.size 3 1 (.slice A3 (2 + i.l.length) c3) (2 + i.l.length) ([.int .i64 i.a, .int .i64 i.b] ++ yq i.l) := by
      have e : (([.int .i64 i.a, .int .i64 i.b]) : List Value) ++ (yq i.l : List Value) = [.int .i64 i.a, .int .i64 i.b] ++ yq i.l := rfl;rw [← e];exact On
     clear On KN En;have e := jm i hA hB hL;refine anx rfl (srx (mvx rfl (anx rfl (yc (yb (rs := [.tmp 2]) (vs := [_]) rfl ⟨rfl, trivial⟩ ?_)))));exact yz (by rw [e]; simp; try omega) (by rw [e]; simp [yq]) Ol (LW.step E XLW).toBelow
    ·
     have hL : (uL i.op && i.op != 35) = false := by rw [h35]; simp
     refine zq (zh (srx (mvx rfl (anx rfl (yc ?_)))));have e := jm i hA hB hL;refine yb (rs := [.tmp 2]) (vs := [_]) rfl ⟨rfl, trivial⟩ ?_;exact yz (by rw [e]; simp) (by rw [e]; simp [yq]) Ol (LW.step E XLW).toBelow
  ·
   refine zq (zh (zm (srx (mvx rfl (za rfl (jr rfl rfl (kz i.op 992 (by decide)) (za rfl (qs rfl rfl (mvx rfl ?_)))))))));by_cases hu : flN i.op &&& 992 = 0
   ·
    have hL : (uL i.op && i.op != 35) = false := by rw [ztz, hu]; rfl
    refine vc 27 (.bool false) rfl ((by rw [hu]; rfl : (.bool (((flN i.op &&& 992 : Nat) : Int) != 0) : Value) = _)) (za rfl (zc rfl (za rfl (zc rfl (za rfl (zc rfl (za rfl (zz rfl rfl (rnx (qz rfl (zq (zh (srx (mvx rfl (anx rfl (yc ?_))))))))))))))));have e := jm i hA hB hL
    refine yb (rs := [.tmp 2]) (vs := [_]) rfl ⟨rfl, trivial⟩ ?_;exact yz (by rw [e]; simp) (by rw [e]; simp [yq]) Ol (LW.step E XLW).toBelow
   ·
    refine vc 27 (.bool true) rfl ((by rw [xm]; simp [hu] : (.bool (((flN i.op &&& 992 : Nat) : Int) != 0) : Value) = _)) (onx rfl (zb Tryd.underlying41 rfl sz3 (by decide) rfl (onx rfl (ze Tryd.underlying3 rfl rfl (HF.on E).here.1.2 rfl (onx rfl (qs rfl rfl (za rfl (zr rfl rfl (rnx (zw rfl (fun h35 => ?_) (fun h35 => ?_)))))))))))
    ·
     have hL : (uL i.op && i.op != 35) = true := by rw [ztz, h35]; simp [hu]
     refine zp (mvx rfl (za rfl (zb Tryd.underlying41 rfl ziz (by decide) rfl (za rfl (ze Tryd.underlying28 rfl rfl (HF.on E).here.1.2 rfl (za rfl (jf (news := yq i.l) Tryd.underlying28 inf3 rfl (by decide) rfl Ol rfl (((HF.on E).here.1.1.2).reads (Nat.le_trans hn (Nat.le_trans LW.size E.size))) (kf) (by unfold maxLen; omega) (by omega) (by exact Nat.le_trans LW.size E.size) ?_)))))))
     intro v0 w13 On En KN;obtain ⟨A3, c3, rfl⟩ := vm On;replace KN : ∀ q9, ((Value.slice A3 (1 + i.l.length) c3).ownBlock) = some q9 → ((Value.slice Aq6 1 cq6).ownBlock) = some q9 ∨ w7.heap.size ≤ q9 := KN
     have HY : Gro (Mut [((Value.slice A3 (1 + i.l.length) c3).ownBlock)]) (Mut [((Value.slice Aq6 1 cq6).ownBlock)]) w7 := (Mut.grow Mut.none_ (fun k e => (KN k e).elim (fun e => Or.inl (Mut.head k e)) (fun h => Or.inr (Nat.le_trans E.size h))));replace E := E.step1 En Mut.head
     have XT := fun q9 (h : (Mut [((Value.slice A3 (1 + i.l.length) c3).ownBlock)]) q9) => (HY q9 h).elim (XLW q9) (fun h => Or.inr (Nat.le_trans LW.size h));replace LW := LW.step E XLW;replace XLW := XT;replace E := erx (Mut [((Value.slice A3 (1 + i.l.length) c3).ownBlock)]) w13;clear HY
     replace Ol : World.ownsRow w13 w.heap.size 3 1 (.slice A3 (1 + i.l.length) c3) (1 + i.l.length) ([.int .i64 i.a] ++ yq i.l) := by
      have e : (([.int .i64 i.a]) : List Value) ++ (yq i.l : List Value) = [.int .i64 i.a] ++ yq i.l := rfl;rw [← e];exact On
     clear On KN En;have e := jm i hA hB hL;refine anx rfl (srx (mvx rfl (anx rfl (yc (yb (rs := [.tmp 2]) (vs := [_]) rfl ⟨rfl, trivial⟩ ?_)))));exact yz (by rw [e]; simp; try omega) (by rw [e]; simp [yq]) Ol (LW.step E XLW).toBelow
    ·
     have hL : (uL i.op && i.op != 35) = false := by rw [h35]; simp
     refine zq (zh (srx (mvx rfl (anx rfl (yc ?_)))));have e := jm i hA hB hL;refine yb (rs := [.tmp 2]) (vs := [_]) rfl ⟨rfl, trivial⟩ ?_;exact yz (by rw [e]; simp) (by rw [e]; simp [yq]) Ol (LW.step E XLW).toBelow
 ·
  refine zq (zh (zm (srx (mvx rfl (za rfl (jr rfl rfl (kz i.op 8 (by decide)) (za rfl (qs rfl rfl (rnx (qd 18 (.bool (uB i.op)) rfl ((by rw [show (8 : Nat) = 2 ^ 3 from rfl, zvv, bitB] : (.bool (((flN i.op &&& 8 : Nat) : Int) != 0) : Value) = _)) (zw rfl (fun hB => ?_) (fun hB => ?_))))))))))))
  ·
   refine zp (mvx rfl (za rfl (zb Tryd.underlying41 rfl sz3 (by decide) rfl (za rfl (ze Tryd.underlying3 rfl rfl (HF.on E).here.2 rfl (za rfl (yu (cs := #[.int .i64 i.b]) Tryd.underlying28 sz3 zr3 (by decide) rfl (by rw [qk]; rfl) ?_)))))));intro gb14 w15 Bb14 Eb14 Gb14
   have Db14_l : Apart (some gb14) ((Value.slice none 0 0).ownBlock) := Apart.of_lt (jj Ol) Gb14;have Dl_b14 := Db14_l.symm;have Gb14 : _ ≤ gb14 := Nat.le_trans E.size Gb14;have GLb14 := Nat.le_trans LW.size Gb14;replace Ol := kq Ol Eb14 NotIn.nil;replace E := E.trans Eb14.no;replace HF := HF.cons (yk Gb14);replace E := E.cons (some gb14)
   replace XLW := Mut.grow XLW (fun k e => Or.inr (Nat.le_trans LW.size ((yk Gb14) k e)));replace HF := HF.on E;replace LW := LW.step E XLW;have SB : ∀ q9, Mut [((Value.slice none 0 0).ownBlock)] q9 → Mut [(some gb14), ((Value.slice none 0 0).ownBlock)] q9 := (Mut.skip (Mut.keep Mut.nil_));replace HF := HF.less SB;replace XLW := fun k h => XLW k (SB k h);clear SB
   replace E := erx (Mut [((Value.slice none 0 0).ownBlock)]) w15;replace HF := HF.and (Per.blkN Bb14 (NotIn.cons Db14_l NotIn.nil))
   refine za rfl (jf (news := [.int .i64 i.b]) Tryd.underlying28 inf3 rfl (by decide) rfl Ol rfl (zgx (HF.on E).here.2 ((HF.on E).here.2).lt rfl) (by simp [Value.oneCell']) (by unfold maxLen; omega) (by omega) (by exact Nat.le_trans LW.size E.size) ?_);intro v0 w17 On En KN;obtain ⟨Aq16, cq16, rfl⟩ := vm On
   replace KN : ∀ q9, ((Value.slice Aq16 1 cq16).ownBlock) = some q9 → ((Value.slice none 0 0).ownBlock) = some q9 ∨ w15.heap.size ≤ q9 := KN;have HY : Gro (Mut [((Value.slice Aq16 1 cq16).ownBlock)]) (Mut [((Value.slice none 0 0).ownBlock)]) w15 := (Mut.grow Mut.none_ (fun k e => (KN k e).elim (fun e => Or.inl (Mut.head k e)) (fun h => Or.inr (Nat.le_trans E.size h))))
   replace E := E.step1 En Mut.head;replace HF := HF.turn E HY;have XT := fun q9 (h : (Mut [((Value.slice Aq16 1 cq16).ownBlock)]) q9) => (HY q9 h).elim (XLW q9) (fun h => Or.inr (Nat.le_trans LW.size h));replace LW := LW.step E XLW;replace XLW := XT;replace E := erx (Mut [((Value.slice Aq16 1 cq16).ownBlock)]) w17;clear HY
   replace Ol : World.ownsRow w17 w.heap.size 3 1 (.slice Aq16 1 cq16) 1 ([.int .i64 i.b]) := by
    have e : (([]) : List Value) ++ ([.int .i64 i.b] : List Value) = [.int .i64 i.b] := rfl;rw [← e];exact On
   clear On KN En;refine anx rfl (zm (srx (mvx rfl (za rfl (jr rfl rfl (kz i.op 992 (by decide)) (za rfl (qs rfl rfl (mvx rfl ?_))))))));by_cases hu : flN i.op &&& 992 = 0
   ·
    have hL : (uL i.op && i.op != 35) = false := by rw [ztz, hu]; rfl
    refine vc 27 (.bool false) rfl ((by rw [hu]; rfl : (.bool (((flN i.op &&& 992 : Nat) : Int) != 0) : Value) = _)) (za rfl (zc rfl (za rfl (zc rfl (za rfl (zc rfl (za rfl (zz rfl rfl (rnx (qz rfl (zq (zh (srx (mvx rfl (anx rfl (yc ?_))))))))))))))));have e := jm i hA hB hL
    refine yb (rs := [.tmp 2]) (vs := [_]) rfl ⟨rfl, trivial⟩ ?_;exact yz (by rw [e]; simp) (by rw [e]; simp [yq]) Ol (LW.step E XLW).toBelow
   ·
    refine vc 27 (.bool true) rfl ((by rw [xm]; simp [hu] : (.bool (((flN i.op &&& 992 : Nat) : Int) != 0) : Value) = _)) (onx rfl (zb Tryd.underlying41 rfl sz3 (by decide) rfl (onx rfl (ze Tryd.underlying3 rfl rfl (HF.on E).here.1.2 rfl (onx rfl (qs rfl rfl (za rfl (zr rfl rfl (rnx (zw rfl (fun h35 => ?_) (fun h35 => ?_)))))))))))
    ·
     have hL : (uL i.op && i.op != 35) = true := by rw [ztz, h35]; simp [hu]
     refine zp (mvx rfl (za rfl (zb Tryd.underlying41 rfl ziz (by decide) rfl (za rfl (ze Tryd.underlying28 rfl rfl (HF.on E).here.1.2 rfl (za rfl (jf (news := yq i.l) Tryd.underlying28 inf3 rfl (by decide) rfl Ol rfl (((HF.on E).here.1.1.2).reads (Nat.le_trans hn (Nat.le_trans LW.size E.size))) (kf) (by unfold maxLen; omega) (by omega) (by exact Nat.le_trans LW.size E.size) ?_)))))))
     intro v0 w18 On En KN;obtain ⟨A3, c3, rfl⟩ := vm On;replace KN : ∀ q9, ((Value.slice A3 (1 + i.l.length) c3).ownBlock) = some q9 → ((Value.slice Aq16 1 cq16).ownBlock) = some q9 ∨ w17.heap.size ≤ q9 := KN
     have HY : Gro (Mut [((Value.slice A3 (1 + i.l.length) c3).ownBlock)]) (Mut [((Value.slice Aq16 1 cq16).ownBlock)]) w17 := (Mut.grow Mut.none_ (fun k e => (KN k e).elim (fun e => Or.inl (Mut.head k e)) (fun h => Or.inr (Nat.le_trans E.size h))));replace E := E.step1 En Mut.head
     have XT := fun q9 (h : (Mut [((Value.slice A3 (1 + i.l.length) c3).ownBlock)]) q9) => (HY q9 h).elim (XLW q9) (fun h => Or.inr (Nat.le_trans LW.size h));replace LW := LW.step E XLW;replace XLW := XT;replace E := erx (Mut [((Value.slice A3 (1 + i.l.length) c3).ownBlock)]) w18;clear HY
     replace Ol : World.ownsRow w18 w.heap.size 3 1 (.slice A3 (1 + i.l.length) c3) (1 + i.l.length) ([.int .i64 i.b] ++ yq i.l) := by
      have e : (([.int .i64 i.b]) : List Value) ++ (yq i.l : List Value) = [.int .i64 i.b] ++ yq i.l := rfl;rw [← e];exact On
     clear On KN En;have e := jm i hA hB hL;refine anx rfl (srx (mvx rfl (anx rfl (yc (yb (rs := [.tmp 2]) (vs := [_]) rfl ⟨rfl, trivial⟩ ?_)))));exact yz (by rw [e]; simp; try omega) (by rw [e]; simp [yq]) Ol (LW.step E XLW).toBelow
    ·
     have hL : (uL i.op && i.op != 35) = false := by rw [h35]; simp
     refine zq (zh (srx (mvx rfl (anx rfl (yc ?_)))));have e := jm i hA hB hL;refine yb (rs := [.tmp 2]) (vs := [_]) rfl ⟨rfl, trivial⟩ ?_;exact yz (by rw [e]; simp) (by rw [e]; simp [yq]) Ol (LW.step E XLW).toBelow
  ·
   refine zq (zh (zm (srx (mvx rfl (za rfl (jr rfl rfl (kz i.op 992 (by decide)) (za rfl (qs rfl rfl (mvx rfl ?_)))))))));by_cases hu : flN i.op &&& 992 = 0
   ·
    have hL : (uL i.op && i.op != 35) = false := by rw [ztz, hu]; rfl
    refine vc 27 (.bool false) rfl ((by rw [hu]; rfl : (.bool (((flN i.op &&& 992 : Nat) : Int) != 0) : Value) = _)) (za rfl (zc rfl (za rfl (zc rfl (za rfl (zc rfl (za rfl (zz rfl rfl (rnx (qz rfl (zq (zh (srx (mvx rfl (anx rfl (yc ?_))))))))))))))));have e := jm i hA hB hL
    refine yb (rs := [.tmp 2]) (vs := [_]) rfl ⟨rfl, trivial⟩ ?_;exact yz (by rw [e]; simp) (by rw [e]; simp [yq]) Ol (LW.step E XLW).toBelow
   ·
    refine vc 27 (.bool true) rfl ((by rw [xm]; simp [hu] : (.bool (((flN i.op &&& 992 : Nat) : Int) != 0) : Value) = _)) (onx rfl (zb Tryd.underlying41 rfl sz3 (by decide) rfl (onx rfl (ze Tryd.underlying3 rfl rfl (HF.on E).here.2 rfl (onx rfl (qs rfl rfl (za rfl (zr rfl rfl (rnx (zw rfl (fun h35 => ?_) (fun h35 => ?_)))))))))))
    ·
     have hL : (uL i.op && i.op != 35) = true := by rw [ztz, h35]; simp [hu]
     refine zp (mvx rfl (za rfl (zb Tryd.underlying41 rfl ziz (by decide) rfl (za rfl (ze Tryd.underlying28 rfl rfl (HF.on E).here.2 rfl (za rfl (jf (news := yq i.l) Tryd.underlying28 inf3 rfl (by decide) rfl Ol rfl (((HF.on E).here.1.2).reads (Nat.le_trans hn (Nat.le_trans LW.size E.size))) (kf) (by unfold maxLen; omega) (by omega) (by exact Nat.le_trans LW.size E.size) ?_)))))))
     intro v0 w19 On En KN;obtain ⟨A3, c3, rfl⟩ := vm On;replace KN : ∀ q9, ((Value.slice A3 (0 + i.l.length) c3).ownBlock) = some q9 → ((Value.slice none 0 0).ownBlock) = some q9 ∨ w3.heap.size ≤ q9 := KN
     have HY : Gro (Mut [((Value.slice A3 (0 + i.l.length) c3).ownBlock)]) (Mut [((Value.slice none 0 0).ownBlock)]) w2 := (Mut.grow Mut.none_ (fun k e => (KN k e).elim (fun e => Or.inl (Mut.head k e)) (fun h => Or.inr (Nat.le_trans E.size h))));replace E := E.step1 En Mut.head
     have XT := fun q9 (h : (Mut [((Value.slice A3 (0 + i.l.length) c3).ownBlock)]) q9) => (HY q9 h).elim (XLW q9) (fun h => Or.inr (Nat.le_trans LW.size h));replace LW := LW.step E XLW;replace XLW := XT;replace E := erx (Mut [((Value.slice A3 (0 + i.l.length) c3).ownBlock)]) w19;clear HY
     replace Ol : World.ownsRow w19 w.heap.size 3 1 (.slice A3 (0 + i.l.length) c3) (0 + i.l.length) ([] ++ yq i.l) := by
      have e : (([]) : List Value) ++ (yq i.l : List Value) = [] ++ yq i.l := rfl;rw [← e];exact On
     clear On KN En;have e := jm i hA hB hL;refine anx rfl (srx (mvx rfl (anx rfl (yc (yb (rs := [.tmp 2]) (vs := [_]) rfl ⟨rfl, trivial⟩ ?_)))));exact yz (by rw [e]; simp; try omega) (by rw [e]; simp [yq]) Ol (LW.step E XLW).toBelow
    ·
     have hL : (uL i.op && i.op != 35) = false := by rw [h35]; simp
     refine zq (zh (srx (mvx rfl (anx rfl (yc ?_)))));have e := jm i hA hB hL;refine yb (rs := [.tmp 2]) (vs := [_]) rfl ⟨rfl, trivial⟩ ?_;exact yz (by rw [e]; simp) (by rw [e]; simp [yq]) Ol (LW.step E XLW).toBelow
theorem zak (hn : n0 ≤ w.heap.size) : Calls Tryd.prog 39 #[.agg #[.int .i64 i.op, .int .i64 i.d, .int .i64 i.a, .int .i64 i.b, .int .i64 i.t, .int .i64 i.k, .slice B i.l.length c]] w (zhv w (yn i)) := by
 have hll := hl.len;refine qw Tryd.func39 rfl Tryd.ntmps39 rfl ?_;have HF : Per (No) w (fun _ => True) := Per.true_;have LW := erx (No) w;have XLW := grx (No) w;have E := erx (No) w;replace HF := HF.on E;replace LW := LW.step E XLW;replace E := erx (No) w;replace HF := HF.and (Per.ints hl (fun _ h => h.elim));refine srx (za rfl (vd rfl ?_));intro gb1 w2 Bb1 Eb1 Gb1
 have Gb1 : _ ≤ gb1 := Nat.le_trans E.size Gb1;have GLb1 := Nat.le_trans LW.size Gb1;replace E := E.trans Eb1.no;replace HF := HF.cons (yk Gb1);replace E := E.cons (some gb1);replace XLW := Mut.grow XLW (fun k e => Or.inr (Nat.le_trans LW.size ((yk Gb1) k e)));replace HF := HF.on E;replace LW := LW.step E XLW;have SB : ∀ q9, No q9 → Mut [(some gb1)] q9 := (Mut.skip Mut.nil_)
 replace HF := HF.less SB;replace XLW := fun k h => XLW k (SB k h);clear SB;replace E := erx (No) w2;replace HF := HF.and (Per.blkN Bb1 NotIn.nil)
 refine anx rfl (zm (zv (srx (za rfl (zb Tryd.underlying41 rfl sz3 (by decide) rfl (za rfl (ze Tryd.underlying3 rfl rfl (HF.on E).here.2 rfl (za rfl (qx rfl rfl (anx rfl (zw rfl (fun h35 => ?_) (fun h35 => ?_))))))))))))
 ·
  have h35 := eq_of_beq h35;have e : yn i = i.l := by unfold yn; rw [if_pos h35]
  have Ol : World.ownsRow w2 w.heap.size 3 1 (.slice none 0 0) 0 ([]) := vg;replace HF := HF.cons (nil_no);replace E := E.cons ((Value.slice none 0 0).ownBlock);replace XLW := Mut.grow XLW (fun k e => Or.inr (Nat.le_trans LW.size ((nil_no) k e)))
  refine srx (za rfl (zb Tryd.underlying41 rfl ziz (by decide) rfl (za rfl (ze Tryd.underlying28 rfl rfl (HF.on E).here.2 rfl (za rfl (jf (news := yq i.l) Tryd.underlying28 inf3 rfl (by decide) rfl Ol rfl (((HF.on E).here.1.2).reads (Nat.le_trans hn (Nat.le_trans LW.size E.size))) (kf) (by unfold maxLen; omega) (by omega) (by exact Nat.le_trans LW.size E.size) ?_))))))
  intro v0 w3 On En KN;obtain ⟨A3, c3, rfl⟩ := vm On;replace KN : ∀ q9, ((Value.slice A3 (0 + i.l.length) c3).ownBlock) = some q9 → ((Value.slice none 0 0).ownBlock) = some q9 ∨ w2.heap.size ≤ q9 := KN
  have HY : Gro (Mut [((Value.slice A3 (0 + i.l.length) c3).ownBlock)]) (Mut [((Value.slice none 0 0).ownBlock)]) w2 := (Mut.grow Mut.none_ (fun k e => (KN k e).elim (fun e => Or.inl (Mut.head k e)) (fun h => Or.inr (Nat.le_trans E.size h))));replace E := E.step1 En Mut.head
  have XT := fun q9 (h : (Mut [((Value.slice A3 (0 + i.l.length) c3).ownBlock)]) q9) => (HY q9 h).elim (XLW q9) (fun h => Or.inr (Nat.le_trans LW.size h));replace LW := LW.step E XLW;replace XLW := XT;replace E := erx (Mut [((Value.slice A3 (0 + i.l.length) c3).ownBlock)]) w3;clear HY;replace Ol : World.ownsRow w3 w.heap.size 3 1 (.slice A3 (0 + i.l.length) c3) (0 + i.l.length) (yq i.l) := by
   have e : (([]) : List Value) ++ (yq i.l : List Value) = yq i.l := rfl;rw [← e];exact On
  clear On KN En;refine anx rfl (yc (zg (zd (yb (rs := [.tmp 2]) (vs := [_]) rfl ⟨rfl, trivial⟩ ?_))));exact yz (by rw [e]; simp) (by rw [e]) Ol (LW.step E XLW).toBelow
 ·
  have h35 := beq_eq_false_iff_ne.1 h35;refine srx (za rfl (zb Tryd.underlying41 rfl sz3 (by decide) rfl (za rfl (ze Tryd.underlying3 rfl rfl (HF.on E).here.2 rfl (za rfl (ya en44 rfl ((zsx _ i.op).mono ?_)))))));rintro e w4 ⟨rfl, hb⟩;refine ⟨_, rfl, ?_⟩;replace E := blx E hb
  refine za rfl (jr rfl rfl (kz i.op 2 (by decide)) (za rfl (qs rfl rfl (anx rfl (qd 10 (.bool (uD i.op)) rfl ((by rw [show (2 : Nat) = 2 ^ 1 from rfl, zvv, bitD] : (.bool (((flN i.op &&& 2 : Nat) : Int) != 0) : Value) = _)) (zw rfl (fun h1 => ?_) (fun h1 => ?_)))))))
  ·
   refine qd 10 (.bool true) rfl (congrArg Value.bool h1) (srx (za rfl (zb Tryd.underlying41 rfl sz3 (by decide) rfl (za rfl (ze Tryd.underlying3 rfl rfl (HF.on E).here.2 rfl (za rfl (yu (cs := #[.int .i64 i.d]) Tryd.underlying28 sz3 zr3 (by decide) rfl (by rw [qk]; rfl) ?_)))))));intro gb5 w6 Bb5 Eb5 Gb5
   have Gb5 : _ ≤ gb5 := Nat.le_trans E.size Gb5;have GLb5 := Nat.le_trans LW.size Gb5;replace E := E.trans Eb5.no;replace HF := HF.cons (yk Gb5);replace E := E.cons (some gb5);replace XLW := Mut.grow XLW (fun k e => Or.inr (Nat.le_trans LW.size ((yk Gb5) k e)));replace HF := HF.on E;replace LW := LW.step E XLW;have SB : ∀ q9, No q9 → Mut [(some gb5)] q9 := (Mut.skip Mut.nil_)
   replace HF := HF.less SB;replace XLW := fun k h => XLW k (SB k h);clear SB;replace E := erx (No) w6;replace HF := HF.and (Per.blkN Bb5 NotIn.nil);refine anx rfl (yc (zg (zd (yb (rs := [.tmp 2]) (vs := [_]) rfl ⟨rfl, trivial⟩ ?_))));have e : yn i = if uD i.op = true then [i.d] else [] := by unfold yn; rw [if_neg h35]
   first | exact yz (by rw [e, h1]; rfl) (by rw [e, h1]; rfl) (kd ((HF.on E).here.2) GLb5 rfl (by unfold maxLen; omega)) (LW.step E XLW).toBelow | exact yz (by rw [e, h1]; rfl) (by rw [e, h1]; rfl) vg (LW.step E XLW).toBelow
  ·
   refine qd 10 (.bool false) rfl (congrArg Value.bool h1) (zq (zk (zh (srx (anx rfl (yc (yb (rs := [.tmp 2]) (vs := [_]) rfl ⟨rfl, trivial⟩ ?_)))))));have e : yn i = if uD i.op = true then [i.d] else [] := by unfold yn; rw [if_neg h35]
   first | exact yz (by rw [e, h1]; rfl) (by rw [e, h1]; rfl) (kd ((HF.on E).here.2) GLb1 rfl (by unfold maxLen; omega)) (LW.step E XLW).toBelow | exact yz (by rw [e, h1]; rfl) (by rw [e, h1]; rfl) vg (LW.step E XLW).toBelow
end
section
variable (w : World) (i : LIns) (B : Option Addr) (c : Nat) (p : Int) (hp : I64 p)
include hp
theorem ox : Calls Tryd.prog 38 #[.agg #[.int .i64 i.op, .int .i64 i.d, .int .i64 i.a, .int .i64 i.b, .int .i64 i.t, .int .i64 i.k, .slice B i.l.length c], .int .i64 p] w (zhv w (ym i p)) := by
 refine qw Tryd.func38 rfl Tryd.ntmps38 rfl ?_;have HF : Per (No) w (fun _ => True) := Per.true_;have LW := erx (No) w;have XLW := grx (No) w;have E := erx (No) w;refine srx (za rfl (vd rfl ?_));intro gb1 w2 Bb1 Eb1 Gb1;have Gb1 : _ ≤ gb1 := Nat.le_trans E.size Gb1;have GLb1 := Nat.le_trans LW.size Gb1;replace E := E.trans Eb1.no;replace HF := HF.cons (yk Gb1)
 replace E := E.cons (some gb1);replace XLW := Mut.grow XLW (fun k e => Or.inr (Nat.le_trans LW.size ((yk Gb1) k e)));replace HF := HF.on E;replace LW := LW.step E XLW;have SB : ∀ q9, No q9 → Mut [(some gb1)] q9 := (Mut.skip Mut.nil_);replace HF := HF.less SB;replace XLW := fun k h => XLW k (SB k h);clear SB;replace E := erx (No) w2;replace HF := HF.and (Per.blkN Bb1 NotIn.nil)
 refine anx rfl (srx (mvx rfl (mvx rfl (za rfl (qe rfl rfl rfl (za rfl (ow_max rfl rfl (vc 9 (.int .i64 (zeq p)) rfl (congrArg _ (next_wrap hp)) (anx rfl (zm (srx (za rfl (zb Tryd.underlying41 rfl sz3 (by decide) rfl (za rfl (ze Tryd.underlying3 rfl rfl (HF.on E).here.2 rfl (rnx (zv (srx (za rfl (qx rfl rfl (anx rfl (zw rfl (fun h1 => ?_) (fun h1 => ?_)))))))))))))))))))))))
 ·
  refine qd 12 (.bool true) rfl (congrArg Value.bool h1) ?_;replace h1 := eq_of_beq h1;refine srx (za rfl (zb Tryd.underlying41 rfl sz3 (by decide) rfl (za rfl (ze Tryd.underlying3 rfl rfl (HF.on E).here.2 rfl (za rfl (yu (cs := #[.int .i64 i.t]) Tryd.underlying28 sz3 zr3 (by decide) rfl (by rw [qk]; rfl) ?_))))));intro gb3 w4 Bb3 Eb3 Gb3
  have Gb3 : _ ≤ gb3 := Nat.le_trans E.size Gb3;have GLb3 := Nat.le_trans LW.size Gb3;replace E := E.trans Eb3.no;replace HF := HF.cons (yk Gb3);replace E := E.cons (some gb3);replace XLW := Mut.grow XLW (fun k e => Or.inr (Nat.le_trans LW.size ((yk Gb3) k e)));replace HF := HF.on E;replace LW := LW.step E XLW;have SB : ∀ q9, No q9 → Mut [(some gb3)] q9 := (Mut.skip Mut.nil_)
  replace HF := HF.less SB;replace XLW := fun k h => XLW k (SB k h);clear SB;replace E := erx (No) w4;replace HF := HF.and (Per.blkN Bb3 NotIn.nil);refine anx rfl (yc (zg (zd (yb (rs := [.tmp 4]) (vs := [_]) rfl ⟨rfl, trivial⟩ ?_))))
  first | exact yz (by unfold ym; (repeat' split) <;> first | rfl | (exfalso; omega)) (by unfold ym; (repeat' split) <;> first | rfl | (exfalso; omega)) (kd ((HF.on E).here.2) GLb3 rfl (by unfold maxLen; omega)) (LW.step E XLW).toBelow | exact yz (by unfold ym; (repeat' split) <;> first | rfl | (exfalso; omega)) (by unfold ym; (repeat' split) <;> first | rfl | (exfalso; omega)) vg (LW.step E XLW).toBelow
 ·
  refine qd 12 (.bool false) rfl (congrArg Value.bool h1) ?_;replace h1 := beq_eq_false_iff_ne.1 h1;refine zm (srx (za rfl (qx rfl rfl (anx rfl (zw rfl (fun h2 => ?_) (fun h2 => ?_))))))
  ·
   refine qd 17 (.bool true) rfl (congrArg Value.bool h2) ?_;replace h2 := eq_of_beq h2;refine zq (zh (qq rfl (srx (anx rfl (yc (zg (zd (yb (rs := [.tmp 4]) (vs := [_]) rfl ⟨rfl, trivial⟩ ?_))))))))
   first | exact yz (by unfold ym; (repeat' split) <;> first | rfl | (exfalso; omega)) (by unfold ym; (repeat' split) <;> first | rfl | (exfalso; omega)) (kd ((HF.on E).here.2) GLb1 rfl (by unfold maxLen; omega)) (LW.step E XLW).toBelow | exact yz (by unfold ym; (repeat' split) <;> first | rfl | (exfalso; omega)) (by unfold ym; (repeat' split) <;> first | rfl | (exfalso; omega)) vg (LW.step E XLW).toBelow
  ·
   refine qd 17 (.bool false) rfl (congrArg Value.bool h2) ?_;replace h2 := beq_eq_false_iff_ne.1 h2;refine zp (za rfl (qx rfl rfl (anx rfl (zw rfl (fun h3 => ?_) (fun h3 => ?_)))))
   ·
    refine qd 17 (.bool true) rfl (congrArg Value.bool h3) ?_;replace h3 := eq_of_beq h3;refine srx (anx rfl (yc (zg (zd (yb (rs := [.tmp 4]) (vs := [_]) rfl ⟨rfl, trivial⟩ ?_)))))
    first | exact yz (by unfold ym; (repeat' split) <;> first | rfl | (exfalso; omega)) (by unfold ym; (repeat' split) <;> first | rfl | (exfalso; omega)) (kd ((HF.on E).here.2) GLb1 rfl (by unfold maxLen; omega)) (LW.step E XLW).toBelow | exact yz (by unfold ym; (repeat' split) <;> first | rfl | (exfalso; omega)) (by unfold ym; (repeat' split) <;> first | rfl | (exfalso; omega)) vg (LW.step E XLW).toBelow
   ·
    refine qd 17 (.bool false) rfl (congrArg Value.bool h3) ?_;replace h3 := beq_eq_false_iff_ne.1 h3;refine zm (srx (za rfl (qx rfl rfl (anx rfl (zw rfl (fun h4 => ?_) (fun h4 => ?_))))))
    ·
     refine qd 20 (.bool true) rfl (congrArg Value.bool h4) ?_;replace h4 := eq_of_beq h4
     refine zq (zh (qq rfl (srx (mvx rfl (za rfl (zb Tryd.underlying41 rfl sz3 (by decide) rfl (za rfl (ze Tryd.underlying3 rfl rfl (HF.on E).here.2 rfl (za rfl (yu (cs := #[.int .i64 (zeq p), .int .i64 i.t]) Tryd.underlying28 sz3 zr3 (by decide) rfl (by rw [qk]; rfl) ?_))))))))));intro gb5 w6 Bb5 Eb5 Gb5
     have Gb5 : _ ≤ gb5 := Nat.le_trans E.size Gb5;have GLb5 := Nat.le_trans LW.size Gb5;replace E := E.trans Eb5.no;replace HF := HF.cons (yk Gb5);replace E := E.cons (some gb5);replace XLW := Mut.grow XLW (fun k e => Or.inr (Nat.le_trans LW.size ((yk Gb5) k e)));replace HF := HF.on E;replace LW := LW.step E XLW;have SB : ∀ q9, No q9 → Mut [(some gb5)] q9 := (Mut.skip Mut.nil_)
     replace HF := HF.less SB;replace XLW := fun k h => XLW k (SB k h);clear SB;replace E := erx (No) w6;replace HF := HF.and (Per.blkN Bb5 NotIn.nil);refine anx rfl (yc (zg (zd (yb (rs := [.tmp 4]) (vs := [_]) rfl ⟨rfl, trivial⟩ ?_))))
     first | exact yz (by unfold ym; (repeat' split) <;> first | rfl | (exfalso; omega)) (by unfold ym; (repeat' split) <;> first | rfl | (exfalso; omega)) (kd ((HF.on E).here.2) GLb5 rfl (by unfold maxLen; omega)) (LW.step E XLW).toBelow | exact yz (by unfold ym; (repeat' split) <;> first | rfl | (exfalso; omega)) (by unfold ym; (repeat' split) <;> first | rfl | (exfalso; omega)) vg (LW.step E XLW).toBelow
    ·
     refine qd 20 (.bool false) rfl (congrArg Value.bool h4) ?_;replace h4 := beq_eq_false_iff_ne.1 h4;refine srx (za rfl (qx rfl rfl (anx rfl (zw rfl (fun h5 => ?_) (fun h5 => ?_)))))
     ·
      refine qd 20 (.bool true) rfl (congrArg Value.bool h5) ?_;replace h5 := eq_of_beq h5
      refine zq (zh (qq rfl (srx (mvx rfl (za rfl (zb Tryd.underlying41 rfl sz3 (by decide) rfl (za rfl (ze Tryd.underlying3 rfl rfl (HF.on E).here.2 rfl (za rfl (yu (cs := #[.int .i64 (zeq p), .int .i64 i.t]) Tryd.underlying28 sz3 zr3 (by decide) rfl (by rw [qk]; rfl) ?_))))))))));intro gb7 w8 Bb7 Eb7 Gb7
      have Gb7 : _ ≤ gb7 := Nat.le_trans E.size Gb7;have GLb7 := Nat.le_trans LW.size Gb7;replace E := E.trans Eb7.no;replace HF := HF.cons (yk Gb7);replace E := E.cons (some gb7);replace XLW := Mut.grow XLW (fun k e => Or.inr (Nat.le_trans LW.size ((yk Gb7) k e)));replace HF := HF.on E;replace LW := LW.step E XLW;have SB : ∀ q9, No q9 → Mut [(some gb7)] q9 := (Mut.skip Mut.nil_)
      replace HF := HF.less SB;replace XLW := fun k h => XLW k (SB k h);clear SB;replace E := erx (No) w8;replace HF := HF.and (Per.blkN Bb7 NotIn.nil);refine anx rfl (yc (zg (zd (yb (rs := [.tmp 4]) (vs := [_]) rfl ⟨rfl, trivial⟩ ?_))))
      first | exact yz (by unfold ym; (repeat' split) <;> first | rfl | (exfalso; omega)) (by unfold ym; (repeat' split) <;> first | rfl | (exfalso; omega)) (kd ((HF.on E).here.2) GLb7 rfl (by unfold maxLen; omega)) (LW.step E XLW).toBelow | exact yz (by unfold ym; (repeat' split) <;> first | rfl | (exfalso; omega)) (by unfold ym; (repeat' split) <;> first | rfl | (exfalso; omega)) vg (LW.step E XLW).toBelow
     ·
      refine qd 20 (.bool false) rfl (congrArg Value.bool h5) ?_;replace h5 := beq_eq_false_iff_ne.1 h5;refine zp (za rfl (qx rfl rfl (anx rfl (zw rfl (fun h6 => ?_) (fun h6 => ?_)))))
      ·
       refine qd 20 (.bool true) rfl (congrArg Value.bool h6) ?_;replace h6 := eq_of_beq h6
       refine srx (mvx rfl (za rfl (zb Tryd.underlying41 rfl sz3 (by decide) rfl (za rfl (ze Tryd.underlying3 rfl rfl (HF.on E).here.2 rfl (za rfl (yu (cs := #[.int .i64 (zeq p), .int .i64 i.t]) Tryd.underlying28 sz3 zr3 (by decide) rfl (by rw [qk]; rfl) ?_)))))));intro gb9 w10 Bb9 Eb9 Gb9;have Gb9 : _ ≤ gb9 := Nat.le_trans E.size Gb9
       have GLb9 := Nat.le_trans LW.size Gb9;replace E := E.trans Eb9.no;replace HF := HF.cons (yk Gb9);replace E := E.cons (some gb9);replace XLW := Mut.grow XLW (fun k e => Or.inr (Nat.le_trans LW.size ((yk Gb9) k e)));replace HF := HF.on E;replace LW := LW.step E XLW;have SB : ∀ q9, No q9 → Mut [(some gb9)] q9 := (Mut.skip Mut.nil_);replace HF := HF.less SB
       replace XLW := fun k h => XLW k (SB k h);clear SB;replace E := erx (No) w10;replace HF := HF.and (Per.blkN Bb9 NotIn.nil);refine anx rfl (yc (zg (zd (yb (rs := [.tmp 4]) (vs := [_]) rfl ⟨rfl, trivial⟩ ?_))))
       first | exact yz (by unfold ym; (repeat' split) <;> first | rfl | (exfalso; omega)) (by unfold ym; (repeat' split) <;> first | rfl | (exfalso; omega)) (kd ((HF.on E).here.2) GLb9 rfl (by unfold maxLen; omega)) (LW.step E XLW).toBelow | exact yz (by unfold ym; (repeat' split) <;> first | rfl | (exfalso; omega)) (by unfold ym; (repeat' split) <;> first | rfl | (exfalso; omega)) vg (LW.step E XLW).toBelow
      ·
       refine qd 20 (.bool false) rfl (congrArg Value.bool h6) ?_;replace h6 := beq_eq_false_iff_ne.1 h6;refine zq (zk (zh (srx (mvx rfl (za rfl (yu (cs := #[.int .i64 (zeq p)]) Tryd.underlying28 sz3 zr3 (by decide) rfl (by rw [qk]; rfl) ?_))))));intro gb11 w12 Bb11 Eb11 Gb11;have Gb11 : _ ≤ gb11 := Nat.le_trans E.size Gb11
       have GLb11 := Nat.le_trans LW.size Gb11;replace E := E.trans Eb11.no;replace HF := HF.cons (yk Gb11);replace E := E.cons (some gb11);replace XLW := Mut.grow XLW (fun k e => Or.inr (Nat.le_trans LW.size ((yk Gb11) k e)));replace HF := HF.on E;replace LW := LW.step E XLW;have SB : ∀ q9, No q9 → Mut [(some gb11)] q9 := (Mut.skip Mut.nil_);replace HF := HF.less SB
       replace XLW := fun k h => XLW k (SB k h);clear SB;replace E := erx (No) w12;replace HF := HF.and (Per.blkN Bb11 NotIn.nil);refine anx rfl (yc (yb (rs := [.tmp 4]) (vs := [_]) rfl ⟨rfl, trivial⟩ ?_))
       first | exact yz (by unfold ym; (repeat' split) <;> first | rfl | (exfalso; omega)) (by unfold ym; (repeat' split) <;> first | rfl | (exfalso; omega)) (kd ((HF.on E).here.2) GLb11 rfl (by unfold maxLen; omega)) (LW.step E XLW).toBelow | exact yz (by unfold ym; (repeat' split) <;> first | rfl | (exfalso; omega)) (by unfold ym; (repeat' split) <;> first | rfl | (exfalso; omega)) vg (LW.step E XLW).toBelow
end
section
variable (w : World)
theorem allocs_any (op : Int) : Calls Tryd.prog 46 #[.int .i64 op] w fun e w' => e = .returned (.bool (ko op)) ∧ Below w.heap.size w w' := by
 refine qw Tryd.func46 rfl Tryd.ntmps46 rfl ?_;have LW := erx (No) w;have XLW := grx (No) w;have E := erx (No) w;refine srx (anx rfl (zm (srx (mvx rfl (rnx (zv (zm (srx (za rfl (qx rfl rfl (anx rfl (zw rfl (fun h1 => ?_) (fun h1 => ?_)))))))))))))
 ·
  refine qd 4 (.bool true) rfl (congrArg Value.bool h1) ?_;replace h1 := eq_of_beq h1;subst h1;refine zq (zh (qq rfl (srx (anx rfl (yc (zg (zd (yb (rs := [.tmp 2]) (vs := [_]) rfl ⟨rfl, trivial⟩ ?_))))))));first | exact ⟨rfl, (LW.step E XLW).toBelow⟩ | exact ⟨by unfold ko; rw [if_neg (by omega), xm]; rfl, (LW.step E XLW).toBelow⟩
 ·
  refine qd 4 (.bool false) rfl (congrArg Value.bool h1) ?_;replace h1 := beq_eq_false_iff_ne.1 h1;refine srx (za rfl (qx rfl rfl (anx rfl (zw rfl (fun h2 => ?_) (fun h2 => ?_)))))
  ·
   refine qd 4 (.bool true) rfl (congrArg Value.bool h2) ?_;replace h2 := eq_of_beq h2;subst h2;refine zq (zh (qq rfl (srx (anx rfl (yc (zg (zd (yb (rs := [.tmp 2]) (vs := [_]) rfl ⟨rfl, trivial⟩ ?_))))))));first | exact ⟨rfl, (LW.step E XLW).toBelow⟩ | exact ⟨by unfold ko; rw [if_neg (by omega), xm]; rfl, (LW.step E XLW).toBelow⟩
  ·
   refine qd 4 (.bool false) rfl (congrArg Value.bool h2) ?_;replace h2 := beq_eq_false_iff_ne.1 h2;refine srx (za rfl (qx rfl rfl (anx rfl (zw rfl (fun h3 => ?_) (fun h3 => ?_)))))
   ·
    refine qd 4 (.bool true) rfl (congrArg Value.bool h3) ?_;replace h3 := eq_of_beq h3;subst h3;refine zq (zh (qq rfl (srx (anx rfl (yc (zg (zd (yb (rs := [.tmp 2]) (vs := [_]) rfl ⟨rfl, trivial⟩ ?_))))))));first | exact ⟨rfl, (LW.step E XLW).toBelow⟩ | exact ⟨by unfold ko; rw [if_neg (by omega), xm]; rfl, (LW.step E XLW).toBelow⟩
   ·
    refine qd 4 (.bool false) rfl (congrArg Value.bool h3) ?_;replace h3 := beq_eq_false_iff_ne.1 h3;refine srx (za rfl (qx rfl rfl (anx rfl (zw rfl (fun h4 => ?_) (fun h4 => ?_)))))
    ·
     refine qd 4 (.bool true) rfl (congrArg Value.bool h4) ?_;replace h4 := eq_of_beq h4;subst h4;refine zq (zh (qq rfl (srx (anx rfl (yc (zg (zd (yb (rs := [.tmp 2]) (vs := [_]) rfl ⟨rfl, trivial⟩ ?_))))))));first | exact ⟨rfl, (LW.step E XLW).toBelow⟩ | exact ⟨by unfold ko; rw [if_neg (by omega), xm]; rfl, (LW.step E XLW).toBelow⟩
    ·
     refine qd 4 (.bool false) rfl (congrArg Value.bool h4) ?_;replace h4 := beq_eq_false_iff_ne.1 h4;refine zp (za rfl (qx rfl rfl (anx rfl (zw rfl (fun h5 => ?_) (fun h5 => ?_)))))
     ·
      refine qd 4 (.bool true) rfl (congrArg Value.bool h5) ?_;replace h5 := eq_of_beq h5;subst h5;refine srx (anx rfl (yc (zg (zd (yb (rs := [.tmp 2]) (vs := [_]) rfl ⟨rfl, trivial⟩ ?_)))));first | exact ⟨rfl, (LW.step E XLW).toBelow⟩ | exact ⟨by unfold ko; rw [if_neg (by omega), xm]; rfl, (LW.step E XLW).toBelow⟩
     ·
      refine qd 4 (.bool false) rfl (congrArg Value.bool h5) ?_;replace h5 := beq_eq_false_iff_ne.1 h5;refine zq (zk (zh (srx (mvx rfl (za rfl (ya en44 rfl ((zsx _ op).mono ?_)))))));rintro e w1 ⟨rfl, hb⟩;refine ⟨_, rfl, ?_⟩;replace E := blx E hb
      refine za rfl (qs rfl rfl (anx rfl (yc (yb (rs := [.tmp 2]) (vs := [_]) rfl ⟨rfl, trivial⟩ ?_))));first | exact ⟨rfl, (LW.step E XLW).toBelow⟩ | exact ⟨by unfold ko; rw [if_neg (by omega), xm]; rfl, (LW.step E XLW).toBelow⟩
end
end Go.Proofs.YtppdgjlmeahimaaDoor
namespace Go.Proofs.YtppdgjlmeahimaaDoor
open Go.RowKit
set_option maxRecDepth 100000
attribute [local irreducible] OW RS
def hIdx (f : LFn) (at_ : Nat) (x : LIns) : Int := match kh f at_ x with
 | some k => (k : Int)
 | none => -1
theorem hIdx_no {f : LFn} {at_ : Nat} {x : LIns} (h : ko x.op = false) : hIdx f at_ x = -1 := by
 unfold hIdx kh; rw [h]; rfl
theorem hIdx_none {f : LFn} {at_ : Nat} {x : LIns} (h : ∀ (j : Nat) r, f.rgs[j]? = some r → hReg at_ r = false) : hIdx f at_ x = -1 := by
 unfold hIdx kh;split
 · rename_i k hk
   split at hk
   · obtain ⟨h1, h2, _⟩ := List.findIdx?_eq_some_iff_getElem.1 hk;rw [h k _ (List.getElem?_eq_getElem h1)] at h2;cases h2
   · cases hk
 · rfl
theorem hIdx_some {f : LFn} {at_ k : Nat} {x : LIns} {r : LReg} (ha : ko x.op = true) (hr : f.rgs[k]? = some r) (h : hReg at_ r = true) (hn : ∀ (j : Nat) r', j < k → f.rgs[j]? = some r' → hReg at_ r' = false) : hIdx f at_ x = (k : Int) := by
 have e : kh f at_ x = some k := by
  unfold kh;rw [if_pos ha];obtain ⟨h1, h2⟩ := List.getElem?_eq_some_iff.1 hr;refine List.findIdx?_eq_some_iff_getElem.2 ⟨h1, by rw [h2]; exact h, fun j hj => ?_⟩;rw [hn j _ hj (List.getElem?_eq_getElem (by omega))];decide
 unfold hIdx; rw [e]
theorem hReg_no {at_ : Nat} {r : LReg} (h : ¬ (r.fr ≤ (at_ : Int) ∧ (at_ : Int) < r.to)) : hReg at_ r = false := by
 unfold hReg;rcases Classical.em (r.fr ≤ (at_ : Int)) with h1 | h1
 · have : ¬ (at_ : Int) < r.to := fun h2 => h ⟨h1, h2⟩;simp [h1]; omega
 · simp [h1]
theorem hReg_yes {at_ : Nat} {r : LReg} (h : r.fr ≤ (at_ : Int) ∧ (at_ : Int) < r.to) : hReg at_ r = true := by
 unfold hReg; simp [h.1, h.2]
theorem no_step {f : LFn} {at_ k : Nat} {r : LReg} (hr : f.rgs[k]? = some r) (hn : ∀ (j : Nat) r', j < k → f.rgs[j]? = some r' → hReg at_ r' = false) (h : hReg at_ r = false) : ∀ (j : Nat) r', j < k + 1 → f.rgs[j]? = some r' → hReg at_ r' = false := fun j r' hj hr' => by
 rcases Nat.lt_or_ge j k with h1 | h1
 · exact hn j r' h1 hr'
 · obtain rfl : j = k := by omega
   rw [hr] at hr';obtain rfl := Option.some.inj hr';exact h
theorem zhx {xs : List Int} {n : Int} {k : Nat} {y : Int} (hy : xs[k]? = some y) (h : ¬ (0 ≤ y ∧ y < n)) : vp xs n = false := by
 cases hi : vp xs n with
 | false => rfl
 | true => exact absurd (oa hi (List.mem_of_getElem? hy)) h
theorem inside_yes {xs : List Int} {n : Int} (h : ∀ (k : Nat) y, xs[k]? = some y → 0 ≤ y ∧ y < n) : vp xs n = true := by
 unfold vp;refine List.all_eq_true.2 fun x hx => ?_;obtain ⟨k, hk, e⟩ := List.getElem_of_mem hx;have := h k x (by rw [← e]; exact List.getElem?_eq_getElem hk);simp [this.1, this.2]
theorem in_step {xs : List Int} {n : Int} {k : Nat} {y : Int} (hy : xs[k]? = some y) (hn : ∀ (j : Nat) y, j < k → xs[j]? = some y → 0 ≤ y ∧ y < n) (h : 0 ≤ y ∧ y < n) : ∀ (j : Nat) y, j < k + 1 → xs[j]? = some y → 0 ≤ y ∧ y < n := fun j z hj hz => by
 rcases Nat.lt_or_ge j k with h1 | h1
 · exact hn j z h1 hz
 · obtain rfl : j = k := by omega
   rw [hy] at hz;obtain rfl := Option.some.inj hz;exact h
section
variable (w : World) (p : Pl) (f : LFn) (n0 : Nat) (hF : FnA n0 w p f)
include hF
theorem ztq (at_ : Nat) (x : LIns) (hx : f.ins[at_]? = some x) : Calls Tryd.prog 40 #[fnV p f, .int .i64 ((at_ : Nat) : Int)] w fun e w' => e = .returned (.int .i64 (hIdx f at_ x)) ∧ Below w.heap.size w w' := by
 have hlt := (List.getElem?_eq_some_iff.1 hx).1;have hrl := hF.rgs.len;have hil := hF.ins.len;refine qw Tryd.func40 rfl Tryd.ntmps40 rfl ?_;have HF : Per (No) w (fun _ => True) := Per.true_;have LW := erx (No) w;have XLW := grx (No) w;have E := erx (No) w;replace HF := HF.on E;replace LW := LW.step E XLW;replace E := erx (No) w;replace HF := HF.and (Per.fnA hF (fun _ h => h.elim))
 refine srx (za rfl (vd rfl ?_));intro gb1 w2 Bb1 Eb1 Gb1;have Gb1 : _ ≤ gb1 := Nat.le_trans E.size Gb1;have GLb1 := Nat.le_trans LW.size Gb1;replace E := E.trans Eb1.no;replace HF := HF.cons (yk Gb1);replace E := E.cons (some gb1);replace XLW := Mut.grow XLW (fun k e => Or.inr (Nat.le_trans LW.size ((yk Gb1) k e)));replace HF := HF.on E;replace LW := LW.step E XLW
 have SB : ∀ q9, No q9 → Mut [(some gb1)] q9 := (Mut.skip Mut.nil_);replace HF := HF.less SB;replace XLW := fun k h => XLW k (SB k h);clear SB;replace E := erx (No) w2;replace HF := HF.and (Per.blkN Bb1 NotIn.nil);refine anx rfl (zm (srx (mvx rfl (za rfl (yy rfl rfl (mvx rfl (yv 9 rfl (fun h1 => ?_) (fun h1 => ?_))))))))
 ·
  replace h1 := of_decide_eq_true h1
  refine za rfl (zc rfl (za rfl (zc rfl (za rfl (zc rfl (za rfl (zc rfl (za rfl (zc rfl (za rfl (zr rfl rfl (mvx rfl (za rfl (zc rfl (za rfl (zc rfl (za rfl (zc rfl (za rfl (zc rfl (za rfl (zc rfl (za rfl (zc rfl (za rfl (zc rfl (za rfl (zc rfl (za rfl (zr rfl rfl (rnx (qq rfl (srx (anx rfl (yc (zd (yb (rs := [.tmp 4]) (vs := [_]) rfl ⟨rfl, trivial⟩ ?_)))))))))))))))))))))))))))))))))))))
  exfalso; omega
 replace h1 := of_decide_eq_false h1;refine onx rfl (zl rfl (onx rfl (zb Tryd.underlying27 rfl ju (by decide) rfl (onx rfl (ze Tryd.underlying24 rfl rfl (HF.on E).here.2 rfl (onx rfl (yp Tryd.underlying24 rfl (onx rfl (xd rfl rfl (za rfl (zz rfl rfl (mvx rfl (yv 16 rfl (fun h2 => ?_) (fun h2 => ?_))))))))))))))
 ·
  replace h2 := of_decide_eq_true h2;refine za rfl (zc rfl (za rfl (zc rfl (za rfl (zc rfl (za rfl (zc rfl (za rfl (zc rfl (za rfl (zc rfl (za rfl (zc rfl (za rfl (zc rfl (za rfl (zr rfl rfl (rnx (qq rfl (srx (anx rfl (yc (zd (yb (rs := [.tmp 4]) (vs := [_]) rfl ⟨rfl, trivial⟩ ?_))))))))))))))))))))))))
  exfalso; omega
 replace h2 := of_decide_eq_false h2;refine onx rfl (zb Tryd.underlying27 rfl ju (by decide) rfl (onx rfl (ze Tryd.underlying24 rfl rfl (HF.on E).here.2 rfl (onx rfl (zl rfl ?_)))));obtain ⟨g, o, hA, hg, hc⟩ := ((HF.on E).here.1.2).ins.row.at hx;obtain ⟨hI, B, cB, hcB, hl, hcells⟩ := hc
 refine onx rfl (yh (j := at_) Tryd.underlying24 vv (congrArg (fun z ↦ some (Value.slice z f.ins.length p.ci)) hA) rfl rfl hlt (onx rfl (zb Tryd.underlying41 rfl sz3 (by decide) rfl (onx rfl (zt Tryd.underlying3 rfl rfl (hcells 0 _ rfl) (onx rfl (ya en46 rfl ((allocs_any _ x.op).mono ?_))))))));rintro e w3 ⟨rfl, hb⟩;refine ⟨_, rfl, ?_⟩;replace E := blx E hb
 refine onx rfl (ke rfl (za rfl (zz rfl rfl (rnx (zw rfl (fun k1 => ?_) (fun k1 => ?_))))))
 ·
  refine qd 25 (.bool true) rfl (congrArg Value.bool k1) (srx (anx rfl (yc (zd (yb (rs := [.tmp 4]) (vs := [_]) rfl ⟨rfl, trivial⟩ ?_)))));exact ⟨by rw [hIdx_no (by simpa using k1)]; rfl, (LW.step E XLW).toBelow⟩
 refine qd 25 (.bool false) rfl (congrArg Value.bool k1) (zq (zh (zm (srx (za rfl (zb Tryd.underlying27 rfl xj (by decide) rfl (za rfl (ze Tryd.underlying25 rfl rfl (HF.on E).here.2 rfl (za rfl (yp Tryd.underlying25 rfl (mvx rfl (rnx (zv ?_)))))))))))));have ha : ko x.op = true := by simpa using k1
 replace HF := HF.on E;replace LW := LW.step E XLW;replace E := erx (No) w3
 refine qu (ι := Nat) (fun k => [(1, .int .i64 ((at_ : Nat) : Int)), (27, .slice p.ar f.rgs.length p.cr), (28, .int .i64 ((f.rgs.length : Nat) : Int)), (29, .int .i64 ((k : Nat) : Int))]) (fun k w' => Ext (No) w3 w' ∧ (k ≤ f.rgs.length ∧ ∀ (j : Nat) r, j < k → f.rgs[j]? = some r → hReg at_ r = false)) (fun k => f.rgs.length - k) 0 ⟨rfl, rfl, rfl, rfl, trivial⟩ ⟨Ext.refl _ _, ⟨Nat.zero_le _, fun j r h => by omega⟩⟩ ?_
 rintro k w5 ⟨M4, ⟨hk, hn⟩⟩;have XM4 := grx (No) w3;replace E := E.trans M4;replace HF := HF.on E;replace LW := LW.step E XLW;replace E := erx (No) w5;refine srx (za rfl (yy rfl rfl (rnx (zm (zw rfl (fun hq => ?_) (fun hq => ?_))))))
 ·
  have hq := of_decide_eq_true hq;obtain ⟨r, hr⟩ : ∃ r, f.rgs[k]? = some r := ⟨_, List.getElem?_eq_getElem (by omega)⟩;obtain ⟨gr, ro, hA, hg, hc⟩ := ((HF.on E).here.1.2).rgs.row.at hr
  refine zq (zh (zm (zv (srx (mvx rfl (za rfl (yh (j := k) Tryd.underlying25 xi (congrArg (fun z ↦ some (Value.slice z f.rgs.length p.cr)) hA) rfl rfl (by omega) (za rfl (vt (cs := (regV r).toArray) Tryd.underlying50 rfl xi rfl rfl (fun j v hj ↦ hc j v (by simpa using hj)) (za rfl (qa zr50 ?_)))))))))));intro gb6 w7 Bb6 Eb6 Gb6
  have Gb6 : _ ≤ gb6 := Nat.le_trans E.size Gb6;have GLb6 := Nat.le_trans LW.size Gb6;replace E := E.trans Eb6.no;replace E := E.cons (some gb6);replace XLW := Mut.grow XLW (fun k e => Or.inr (Nat.le_trans LW.size ((yk Gb6) k e)));replace XM4 := Mut.grow XM4 (fun k e => Or.inr (Nat.le_trans M4.size ((yk Gb6) k e)));refine avx rfl (yx (qy xi rfl rfl Bb6 rfl rfl rfl ?_))
  intro w8 Bx Eb6;replace Bb6 : Blk w8 gb6 50 #[.int .i64 r.fr, .int .i64 r.to, .int .i64 r.tg, .int .i64 r.d] := Bx;replace E := E.step1 Eb6 Mut.head;refine rnx (srx (za rfl (zb Tryd.underlying50 rfl sz3 (by decide) rfl (za rfl (ze Tryd.underlying3 rfl rfl Bb6 rfl (mvx rfl (za rfl (ow_leq rfl rfl (mvx rfl (yv 38 rfl (fun t1 => ?_) (fun t1 => ?_)))))))))))
  ·
   replace t1 := of_decide_eq_true t1;refine onx rfl (zl rfl (onx rfl (zb Tryd.underlying50 rfl sz3 (by decide) rfl (onx rfl (ze Tryd.underlying3 rfl rfl Bb6 rfl (onx rfl (yy rfl rfl (za rfl (zr rfl rfl (rnx (zw rfl (fun t2 => ?_) (fun t2 => ?_))))))))))))
   ·
    refine qd 43 (.bool true) rfl (congrArg Value.bool t2) ?_;replace t2 := of_decide_eq_true t2;refine srx (mvx rfl (anx rfl (yc (zg (zd (zd (zg (zd (yb (rs := [.tmp 4]) (vs := [_]) rfl ⟨rfl, trivial⟩ ?_)))))))));exact ⟨by rw [hIdx_some ha hr (hReg_yes (by omega)) hn]; rfl, (LW.step E XLW).toBelow⟩
   ·
    refine qd 43 (.bool false) rfl (congrArg Value.bool t2) ?_;replace t2 := of_decide_eq_false t2;refine zq (zk (zh (zp (za rfl (qe rfl rfl (zy (by omega)) (mvx rfl (yj ?_)))))))
    exact yo (k + 1) (by show f.rgs.length - (k + 1) < f.rgs.length - k; omega) ⟨rfl, rfl, rfl, rfl, trivial⟩ ⟨M4.step E XM4, ⟨by omega, no_step hr hn (hReg_no (by omega))⟩⟩
  ·
   replace t1 := of_decide_eq_false t1;refine za rfl (zc rfl (za rfl (zc rfl (za rfl (zc rfl (za rfl (zc rfl (za rfl (zz rfl rfl (rnx (qz rfl (zq (zk (zh (zp (za rfl (qe rfl rfl (zy (by omega)) (mvx rfl (yj ?_)))))))))))))))))))
   exact yo (k + 1) (by show f.rgs.length - (k + 1) < f.rgs.length - k; omega) ⟨rfl, rfl, rfl, rfl, trivial⟩ ⟨M4.step E XM4, ⟨by omega, no_step hr hn (hReg_no (by omega))⟩⟩
 ·
  have hq := of_decide_eq_false hq;refine qn (zi (zi (zx (zh (srx (anx rfl (yc (yb (rs := [.tmp 4]) (vs := [_]) rfl ⟨rfl, trivial⟩ ?_))))))));exact ⟨by rw [hIdx_none (fun j r hr => hn j r (by have := (List.getElem?_eq_some_iff.1 hr).1; omega) hr)]; rfl, (LW.step E XLW).toBelow⟩
end
section
variable (w : World) (A : Option Addr) (c n0 : Nat) (xs : List Int) (hx : IntsA n0 w A xs)
include hx
end
end Go.Proofs.YtppdgjlmeahimaaDoor
namespace Go.Proofs.YtppdgjlmeahimaaDoor
open Go.RowKit
set_option maxRecDepth 100000
def lastOK (l : List Oper) (m : Nat) : Bool := Nat.beq (m + 1) l.length && ob 0 (l.take m) [] && (l.take m).all fun o => match o.guard with
 | some (g, _) => Nat.blt g m
 | none => true
section
variable {P : Program} {N : Nat} {Q : Exit → Act → World → Prop} {σ : Env} {w : World} {l : List Oper}
theorem any_prefixZ {m : Nat} (hg : lastOK l m = true) : ∀ (f : Nat) (ls : List Bool) (a : Act) (w : World), ls.length = m → ls.count false = f →
 (∀ i, Ran ls.toArray i → ∀ j ∈ qi l.toArray i, Ran ls.toArray j) →
 wpAny P .any (l.take m).toArray Q f ls.toArray a w →
 wpAny P .any l.toArray Q f (ls ++ [true]).toArray a w := by
 unfold lastOK at hg;simp only [Bool.and_eq_true] at hg
 obtain ⟨⟨hml, hrow⟩, hgd⟩ := hg;have hml1 := Nat.eq_of_beq_eq_true hml;have hml : m ≤ l.length := by omega
 have htk : ∀ i, i < m → (l.take m).toArray[i]? = l.toArray[i]? := fun i hi => by simp [List.getElem?_take, hi]
 have hget : ∀ (ls : List Bool) (i : Nat) (d : Bool), ls.length = m → i < m → (ls ++ [true]).toArray.getD i d = ls.toArray.getD i d := by
  intro ls i d hl hi;simp [Array.getD_eq_getD_getElem?, List.getElem?_append, hl, hi]
 have hget2 : ∀ (ls : List Bool) (i : Nat), ls.length = m → m ≤ i → (ls ++ [true]).toArray.getD i true = true := by
  intro ls i hl hi;rcases Nat.lt_or_ge m i with h | h
  · simp [Array.getD_eq_getD_getElem?, List.getElem?_append, hl, show ¬ i < m by omega, show ¬ i - m = 0 by omega]
  · obtain rfl : i = m := by omega
    simp [Array.getD_eq_getD_getElem?, List.getElem?_append, hl]
 have hfull : ∀ ls : List Bool, ls.length = m → (∀ i, i < m → Ran ls.toArray i) → ls.count false = 0 := by
  intro ls hl h;refine List.count_eq_zero.2 fun hf => ?_;obtain ⟨i, hi, he⟩ := List.getElem_of_mem hf;have := h i (by omega);unfold Ran at this;simp [hi, he] at this
 intro f;induction f with
 | zero =>
  intro ls a w hl hc hd h;have hall : ls = List.replicate m true := by
   refine List.eq_replicate_iff.2 ⟨hl, fun b hb => ?_⟩;cases b with
   | true => rfl
   | false => exact absurd hb (List.count_eq_zero.1 hc)
  refine ⟨List.eq_nil_iff_forall_not_mem.2 fun i hi => ?_, h.2⟩;obtain ⟨h0, o, ho, _⟩ := mem_ready.1 hi;rcases Nat.lt_or_ge i m with h1 | h1
  · rw [hget ls i true hl h1, hall] at h0;simp [h1] at h0
  · rw [hget2 ls i hl h1] at h0;cases h0
 | succ f ih =>
  intro ls a w hl hc hd h;refine ⟨fun hr => ?_, fun i hi => ?_⟩
  · exfalso
    have hall : ∀ i, i < m → Ran ls.toArray i := by
     intro i;induction i using Nat.strongRecOn with
     | _ i ihi =>
      intro him;rcases Classical.em (Ran ls.toArray i) with h' | h'
      · exact h'
      · exfalso
        have : i ∈ Region.ready .any l.toArray (ls ++ [true]).toArray := by
         have hil : i < l.length := by omega
         refine mem_ready.2 ⟨?_, l[i], by simp [hil], fun e he hb => ?_⟩
         · rw [hget ls i true hl him];unfold Ran at h';have : i < ls.length := by omega
           simp [this] at h' ⊢
           exact h'
         · have hlt := (js hrow (i := i) (o := l[i]) (by simp [List.getElem?_take, him, hil])).1 e.on (jo (by simpa using he) hb);have hei : e.on < i := by omega
           rw [hget ls e.on false hl (by omega)];exact ihi e.on hei (by omega)
        rw [hr] at this;cases this
    have := hfull ls hl hall;omega
  · obtain ⟨h0, o, ho, hdep⟩ := mem_ready.1 hi;rcases Nat.lt_or_ge i m with him | him
    · have hdl : ∀ j ∈ qi l.toArray i, Ran ls.toArray j := by
       intro j hj;have ho' : l[i]? = some o := by simpa using ho
       unfold qi at hj;rw [ho] at hj;obtain ⟨e, he, hb, rfl⟩ := jw hj;have hlt := (js hrow (i := i) (o := o) (by simp [List.getElem?_take, him, ho'])).1 e.on (jo he hb);have := hdep e (by simpa using he) hb;rwa [hget ls e.on false hl (by omega)] at this
      rw [hget ls i true hl him] at h0;have hi1 : i ∈ Region.ready .any (l.take m).toArray ls.toArray := by
       refine mem_ready.2 ⟨h0, o, by rw [htk i him]; exact ho, fun e he hb => ?_⟩;refine hdl e.on ?_;unfold qi;rw [ho];exact jo (by simpa using he) hb
      have h1 := h.2 i hi1;have hset : ((ls ++ [true]).toArray.setIfInBounds i true) = (ls.set i true ++ [true]).toArray := by
       apply Array.toList_inj.1
       rw [Array.toList_setIfInBounds];simp [List.set_append, hl, him]
      have hset1 : ls.toArray.setIfInBounds i true = (ls.set i true).toArray := by
       apply Array.toList_inj.1
       rw [Array.toList_setIfInBounds]
      rw [hset1] at h1;rw [hset];have hlsi : ls[i]? = some false := by
       have hil : i < ls.length := by omega
       have e : ls[i] = false := by simpa [hil] using h0
       simp [hil, e]
      have hK : ∀ a w, wpAny P .any (l.take m).toArray Q f (ls.set i true).toArray a w →
       wpAny P .any l.toArray Q f (ls.set i true ++ [true]).toArray a w := by
       intro a w h;refine ih (ls.set i true) a w (by simpa using hl) (by have := zax ls i hlsi; omega) ?_ h;have hup : ∀ j, Ran ls.toArray j → Ran (ls.set i true).toArray j := by
        intro j hj;unfold Ran at hj ⊢;rw [← hset1];exact getD_set_true hj
       intro j hj k hk;rcases Classical.em (j = i) with rfl | hji
       · exact hup k (hdl k hk)
       · refine hup k (hd j ?_ k hk);unfold Ran at hj ⊢;rw [← hset1, getD_set_ne false (Ne.symm hji)] at hj;exact hj
      unfold wpOp at h1 ⊢;rw [htk i him, ho] at h1;rw [ho];simp only [] at h1 ⊢
      have hy : Region.wanted o (yielded (l.take m).toArray a.tmps) = Region.wanted o (yielded l.toArray a.tmps) := by
       unfold Region.wanted;cases hgo : o.guard with
       | none => rfl
       | some gw =>
        obtain ⟨g, want⟩ := gw;have hmem : o ∈ l.take m := by
         have ho' : l[i]? = some o := by simpa using ho
         exact List.mem_of_getElem? (i := i) (by simp [List.getElem?_take, him, ho'])
        have := (List.all_eq_true.1 hgd) o hmem;rw [hgo] at this;have hgm : g < m := Nat.le_of_ble_eq_true this;simp only [yielded, htk g hgm]
      rw [← hy];split
      · rename_i hw
        rw [if_pos hw] at h1;rcases h1 with h1 | ⟨h1, h2⟩
        · exact .inl (Oper.wp_mono hK h1)
        · exact .inr ⟨h1, h2⟩
      · rename_i hw
        rw [if_neg hw] at h1;exact hK _ _ h1
    · exfalso
      rw [hget2 ls i hl him] at h0;cases h0
theorem ak_last {m d : Nat} {v : Value} {ty : TypeId} {pos : String} {af : Array Edge} (hg : (lastOK l m && Region.noSelect l.toArray && (Nat.blt d N && (Region.free .any l.toArray (Array.replicate l.length false) m && memN m (Region.ready .any l.toArray (Array.replicate l.length false))))) = true) (ho : l[m]? = some ⟨some d, .move (.const v), ty, pos, af, none⟩)
 (hQ : ∀ c (a : Act) d v w, Q (.panic c) (a.put d v) w → Q (.panic c) a w) (h : AK P N 0 (l.take m) Q ((d, v) :: σ) w) : AK P N 0 l Q σ w := fun a ha => by
 simp only [Bool.and_eq_true] at hg
 obtain ⟨⟨hg, hns⟩, hd, hfr, hrd⟩ := hg;have hlen : l.length = m + 1 := by
  unfold lastOK at hg;simp only [Bool.and_eq_true] at hg
  exact (Nat.eq_of_beq_eq_true hg.1.1).symm
 have htk : (l.take m).length = m := by rw [List.length_take]; omega
 have h1 := h (a.put (some d) v) (ha.put hd v);have h2 := any_prefixZ hg m (List.replicate m false) (a.put (some d) v) w (by simp) (by simp) (fun i hi => by
  unfold Ran at hi;by_cases h' : i < m <;> simp [h'] at hi) (by
   unfold trL at h1;rw [htk] at h1;simpa using h1)
 have e0 : trL 0 l.length = Array.replicate l.length false := by simp [trL]
 have e1 : (Array.replicate l.length false).setIfInBounds m true = (List.replicate m false ++ [true]).toArray := by
  apply Array.toList_inj.1
  rw [Array.toList_setIfInBounds, hlen];simp [List.replicate_succ', List.set_append]
 rw [Nat.sub_zero, e0];have hfu : l.length = m + 1 := hlen;rw [← e1] at h2;rw [hfu] at h2 ⊢ hfr hrd;exact wpAny_take (i := m) (v := v) (by simpa using ho) hns hfr (by simpa using vr.1 hrd) (fun c a w h => hQ c a _ _ w h) (.inl ⟨by simp [Region.wanted], fun w => by simp [execOp, Act.eval, go_sem]⟩) h2
end
end Go.Proofs.YtppdgjlmeahimaaDoor
namespace Go.Proofs.YtppdgjlmeahimaaDoor
open Go.RowKit
set_option maxRecDepth 100000
attribute [local irreducible] OW RS
theorem Per.ownsI {X : Nat → Prop} {w : World} {base base' c : Nat} {A : Option Addr} {xs : List Int} (h : OwnsI w base A c xs) (hX : ∀ k, X k → k < base) (hb : base' ≤ base) : Per X w (fun b => OwnsI b base' A c xs) := fun z hz => by
 refine ⟨h.1, ?_⟩;rcases h.2 with h2 | ⟨g, cap, cur, hv, hg, hh, r⟩
 · exact Or.inl h2
 · have hlt : g < w.heap.size := (Array.getElem?_eq_some_iff.1 hh).1;exact Or.inr ⟨g, cap, cur, hv, by omega, (hz.block g hlt (fun hx => by have := hX g hx; omega)).trans hh, r⟩
theorem ints_app {w : World} {base c : Nat} {A : Option Addr} {a b : List Int} (h : w.ownsRow base 3 1 (.slice A (a.length + b.length) c) (a.length + b.length) (yq a ++ yq b)) (hl : 8 * (a ++ b).length ≤ 140737488355000) (hi : ∀ x ∈ a ++ b, I64 x) : IntsA w.heap.size w A (a ++ b) := by
 have e1 : (a ++ b).length = a.length + b.length := List.length_append;have e2 : yq (a ++ b) = yq a ++ yq b := by simp [yq]
 refine OwnsI.ints (base := base) (c := c) ?_ hl hi;unfold OwnsI;rw [e1, e2];exact h
theorem reads_i64 {n : Nat} {w : World} {B : Option Addr} {i : LIns} (hi : InsI i) (hl : IntsA n w B i.l) : ∀ y ∈ yg i, I64 y := by
 intro y hy;have h1 := hi.a;have h2 := hi.b;unfold yg at hy;rcases List.mem_append.1 hy with hy | hy
 · split at hy <;> simp at hy; subst hy; exact h1
 · rcases List.mem_append.1 hy with hy | hy
   · split at hy <;> simp at hy; subst hy; exact h2
   · split at hy
     · exact hl.in_ y hy
     · cases hy
theorem zsv {n : Nat} {w : World} {B : Option Addr} {i : LIns} (hi : InsI i) (hl : IntsA n w B i.l) : ∀ y ∈ yn i, I64 y := by
 intro y hy;have h1 := hi.d;unfold yn at hy;(repeat' split at hy) <;> first | exact hl.in_ y hy | (simp at hy; subst hy; exact h1) | (simp at hy)
theorem zjk {n : Nat} {w : World} {B : Option Addr} {i : LIns} (hl : IntsA n w B i.l) : 8 * (yn i).length ≤ 140737488355000 := by
 have := hl.len;unfold yn;(repeat' split) <;> simp <;> omega
theorem rw_len {i : LIns} : (yg i).length + (yn i).length ≤ i.l.length + 3 := by
 have key : ∀ {a b c d : List Int}, a.length ≤ 1 → b.length ≤ 1 → c.length ≤ i.l.length → d.length ≤ 1 → (a ++ (b ++ c)).length + d.length ≤ i.l.length + 3 := fun h1 h2 h3 h4 => by simp only [List.length_append]; omega
 by_cases h35 : i.op = 35
 · have e : yg i = (if uA i.op = true then [i.a] else []) ++ ((if uB i.op = true then [i.b] else []) ++ []) := by
    unfold yg;rw [h35]; simp
   have e2 : yn i = i.l := by unfold yn; rw [if_pos h35]
   rw [e, e2];simp only [List.length_append, List.length_nil]
   (repeat' split) <;> simp <;> omega
 · have e2 : yn i = if uD i.op = true then [i.d] else [] := by unfold yn; rw [if_neg h35]
   rw [e2];unfold yg;refine key ?_ ?_ ?_ ?_ <;> split <;> simp
theorem zox (i : LIns) (z : Int) : (ym i z).length ≤ 2 := by
 unfold ym;(repeat' split) <;> simp
theorem next_i64 {z : Int} (h : I64 z) : I64 (zeq z) := by
 obtain ⟨h1, h2⟩ := h;unfold zeq I64;split <;> omega
theorem goes_i64 {i : LIns} {z : Int} (hi : InsI i) (hz : I64 z) : ∀ y ∈ ym i z, I64 y := by
 intro y hy;have h1 := next_i64 hz;have h2 := hi.t;unfold ym at hy;(repeat' split at hy) <;> simp at hy <;> first | (subst hy; assumption) | (rcases hy with rfl | rfl <;> assumption)
theorem zdk {f : LFn} (h : ¬ (0 ≤ f.regs ∧ f.regs ≤ 65536 ∧ 0 ≤ f.params ∧ f.params ≤ f.regs ∧ f.ins.length ≠ 0)) : qp f = false := by
 cases hs : qp f with
 | false => rfl
 | true =>
  obtain ⟨h1, h2, h3, h4, h5⟩ := ji hs;exact absurd ⟨h1, h2, h3, h4, fun e => h5 (List.length_eq_zero_iff.1 e)⟩ h
theorem zfv {f : LFn} {k : Nat} {x : LIns} (hx : f.ins[k]? = some x) (h : ky f k x = false) : qp f = false := by
 cases hs : qp f with
 | false => rfl
 | true =>
  unfold qp at hs;simp only [Bool.and_eq_true] at hs
  have := zrk hs.2.1 hx;rw [Nat.zero_add, h] at this;cases this
theorem gx {f : LFn} {r : LReg} (hr : r ∈ f.rgs) (h : xy f r = false) : qp f = false := by
 cases hs : qp f with
 | false => rfl
 | true =>
  unfold qp at hs;simp only [Bool.and_eq_true] at hs
  have := List.all_eq_true.1 hs.2.2 r hr;rw [h] at this;cases this
theorem insAll_of {f : LFn} : ∀ {l : List LIns} {n : Nat}, (∀ (j : Nat) x, l[j]? = some x → ky f (n + j) x = true) → zev f n l = true
 | [], _, _ => rfl
 | x :: l, n, h => by
  unfold zev;rw [show ky f n x = true from h 0 x rfl, insAll_of (fun j y hj => by have := h (j + 1) y (by simpa using hj); rwa [show n + 1 + j = n + (j + 1) by omega])];rfl
theorem sound_yes {f : LFn} (h : 0 ≤ f.regs ∧ f.regs ≤ 65536 ∧ 0 ≤ f.params ∧ f.params ≤ f.regs ∧ f.ins.length ≠ 0) (hi : ∀ (j : Nat) x, f.ins[j]? = some x → ky f j x = true) (hr : ∀ (j : Nat) r, f.rgs[j]? = some r → xy f r = true) : qp f = true := by
 unfold qp headOK;obtain ⟨h1, h2, h3, h4, h5⟩ := h;have e5 : f.ins ≠ [] := fun e => h5 (by rw [e]; rfl);have e6 : f.rgs.all (xy f) = true := List.all_eq_true.2 fun r hm => by
  obtain ⟨j, hj, e⟩ := List.getElem_of_mem hm;exact hr j r (by rw [← e]; exact List.getElem?_eq_getElem hj)
 have e7 : zev f 0 f.ins = true := insAll_of fun j x hj => by rw [Nat.zero_add]; exact hi j x hj
 rw [e6, e7];simp [h1, h2, h3, h4, e5]
theorem insOK_of {f : LFn} {k : Nat} {x : LIns} (h1 : vp (yg x ++ yn x) f.regs = true) (h2 : vp (ym x (k : Int)) f.ins.length = true) : ky f k x = true := by
 unfold ky;rw [h2];unfold vp at h1 ⊢;rw [List.all_append, Bool.and_eq_true] at h1;rw [h1.1, h1.2]; rfl
theorem znv {f : LFn} {k : Nat} {x : LIns} (h : vp (yg x ++ yn x) f.regs = false ∨ vp (ym x (k : Int)) f.ins.length = false) : ky f k x = false := by
 cases hs : ky f k x with
 | false => rfl
 | true =>
  unfold ky at hs;simp only [Bool.and_eq_true] at hs
  have e : vp (yg x ++ yn x) f.regs = true := by
   unfold vp;rw [List.all_append];have h1 := hs.1;have h2 := hs.2.1;unfold vp at h1 h2;rw [h1, h2]; rfl
  rcases h with h | h
  · rw [e] at h; cases h
  · rw [hs.2.2] at h; cases h
theorem ok_step {f : LFn} {k : Nat} {x : LIns} (hx : f.ins[k]? = some x) (hn : ∀ (j : Nat) x, j < k → f.ins[j]? = some x → ky f j x = true) (h : ky f k x = true) : ∀ (j : Nat) x, j < k + 1 → f.ins[j]? = some x → ky f j x = true := fun j z hj hz => by
 rcases Nat.lt_or_ge j k with h1 | h1
 · exact hn j z h1 hz
 · obtain rfl : j = k := by omega
   rw [hx] at hz;obtain rfl := Option.some.inj hz;exact h
theorem okr_step {f : LFn} {k : Nat} {x : LReg} (hx : f.rgs[k]? = some x) (hn : ∀ (j : Nat) x, j < k → f.rgs[j]? = some x → xy f x = true) (h : xy f x = true) : ∀ (j : Nat) x, j < k + 1 → f.rgs[j]? = some x → xy f x = true := fun j z hj hz => by
 rcases Nat.lt_or_ge j k with h1 | h1
 · exact hn j z h1 hz
 · obtain rfl : j = k := by omega
   rw [hx] at hz;obtain rfl := Option.some.inj hz;exact h
theorem regOK_of {f : LFn} {r : LReg} (h : 0 ≤ r.fr ∧ r.fr ≤ r.to ∧ r.to ≤ (f.ins.length : Int) ∧ 0 ≤ r.tg ∧ r.tg < (f.ins.length : Int) ∧ 0 ≤ r.d ∧ r.d < f.regs) : xy f r = true := by
 unfold xy; simp [h]
theorem xk {f : LFn} {r : LReg} (h : ¬ (0 ≤ r.fr ∧ r.fr ≤ r.to ∧ r.to ≤ (f.ins.length : Int) ∧ 0 ≤ r.tg ∧ r.tg < (f.ins.length : Int) ∧ 0 ≤ r.d ∧ r.d < f.regs)) : xy f r = false := by
 cases hs : xy f r with
 | false => rfl
 | true => unfold xy at hs; exact absurd (by simpa using hs) h
section
variable (w : World) (p : Pl) (f : LFn) (n0 : Nat) (hF : FnA n0 w p f)
include hF
theorem sound_any : Calls Tryd.prog 34 #[fnV p f] w fun e w' => e = .returned (.bool (qp f)) ∧ Below w.heap.size w w' := by
 have hrl := hF.rgs.len;have hil := hF.ins.len;have hn := hF.size;have hpi := hF.params;have hri := hF.regs;refine qw Tryd.func34 rfl Tryd.ntmps34 rfl ?_;have HF : Per (No) w (fun _ => True) := Per.true_;have LW := erx (No) w;have XLW := grx (No) w;have E := erx (No) w;replace HF := HF.on E;replace LW := LW.step E XLW;replace E := erx (No) w
 replace HF := HF.and (Per.fnA hF (fun _ h => h.elim));refine srx (za rfl (vd rfl ?_));intro gb1 w2 Bb1 Eb1 Gb1;have Gb1 : _ ≤ gb1 := Nat.le_trans E.size Gb1;have GLb1 := Nat.le_trans LW.size Gb1;replace E := E.trans Eb1.no;replace HF := HF.cons (yk Gb1);replace E := E.cons (some gb1);replace XLW := Mut.grow XLW (fun k e => Or.inr (Nat.le_trans LW.size ((yk Gb1) k e)))
 replace HF := HF.on E;replace LW := LW.step E XLW;have SB : ∀ q9, No q9 → Mut [(some gb1)] q9 := (Mut.skip Mut.nil_);replace HF := HF.less SB;replace XLW := fun k h => XLW k (SB k h);clear SB;replace E := erx (No) w2;replace HF := HF.and (Per.blkN Bb1 NotIn.nil)
 refine anx rfl (zm (srx (za rfl (zb Tryd.underlying27 rfl sz3 (by decide) rfl (za rfl (ze Tryd.underlying3 rfl rfl (HF.on E).here.2 rfl (za rfl (yy rfl rfl (mvx rfl (yv 14 rfl (fun h1 => ?_) (fun h1 => ?_)))))))))))
 ·
  replace h1 := of_decide_eq_true h1
  refine za rfl (zc rfl (za rfl (zc rfl (za rfl (zc rfl (za rfl (zr rfl rfl (mvx rfl (za rfl (zc rfl (za rfl (zc rfl (za rfl (zc rfl (za rfl (zr rfl rfl (mvx rfl (za rfl (zc rfl (za rfl (zc rfl (za rfl (zc rfl (za rfl (zc rfl (za rfl (zc rfl (za rfl (zr rfl rfl (mvx rfl (za rfl (zc rfl (za rfl (zc rfl (za rfl (zc rfl (za rfl (zc rfl (za rfl (zr rfl rfl (rnx (qq rfl (srx (anx rfl (yc (zd (yb (rs := [.tmp 2]) (vs := [_]) rfl ⟨rfl, trivial⟩ ?_)))))))))))))))))))))))))))))))))))))))))))))))
  exact ⟨by rw [zdk (by omega)]; rfl, (LW.step E XLW).toBelow⟩
 replace h1 := of_decide_eq_false h1;refine onx rfl (zb Tryd.underlying27 rfl sz3 (by decide) rfl (onx rfl (ze Tryd.underlying3 rfl rfl (HF.on E).here.2 rfl (onx rfl (xc rfl rfl (za rfl (zz rfl rfl (mvx rfl (yv 19 rfl (fun h2 => ?_) (fun h2 => ?_))))))))))
 ·
  replace h2 := of_decide_eq_true h2
  refine za rfl (zc rfl (za rfl (zc rfl (za rfl (zc rfl (za rfl (zr rfl rfl (mvx rfl (za rfl (zc rfl (za rfl (zc rfl (za rfl (zc rfl (za rfl (zc rfl (za rfl (zc rfl (za rfl (zr rfl rfl (mvx rfl (za rfl (zc rfl (za rfl (zc rfl (za rfl (zc rfl (za rfl (zc rfl (za rfl (zr rfl rfl (rnx (qq rfl (srx (anx rfl (yc (zd (yb (rs := [.tmp 2]) (vs := [_]) rfl ⟨rfl, trivial⟩ ?_))))))))))))))))))))))))))))))))))))))
  exact ⟨by rw [zdk (by omega)]; rfl, (LW.step E XLW).toBelow⟩
 replace h2 := of_decide_eq_false h2;refine onx rfl (zb Tryd.underlying27 rfl sz3 (by decide) rfl (onx rfl (ze Tryd.underlying3 rfl rfl (HF.on E).here.2 rfl (onx rfl (yy rfl rfl (za rfl (zz rfl rfl (mvx rfl (yv 24 rfl (fun h3 => ?_) (fun h3 => ?_))))))))))
 ·
  replace h3 := of_decide_eq_true h3
  refine za rfl (zc rfl (za rfl (zc rfl (za rfl (zc rfl (za rfl (zc rfl (za rfl (zc rfl (za rfl (zr rfl rfl (mvx rfl (za rfl (zc rfl (za rfl (zc rfl (za rfl (zc rfl (za rfl (zc rfl (za rfl (zr rfl rfl (rnx (qq rfl (srx (anx rfl (yc (zd (yb (rs := [.tmp 2]) (vs := [_]) rfl ⟨rfl, trivial⟩ ?_)))))))))))))))))))))))))))))
  exact ⟨by rw [zdk (by omega)]; rfl, (LW.step E XLW).toBelow⟩
 replace h3 := of_decide_eq_false h3
 refine onx rfl (zb Tryd.underlying27 rfl sz3 (by decide) rfl (onx rfl (ze Tryd.underlying3 rfl rfl (HF.on E).here.2 rfl (onx rfl (zb Tryd.underlying27 rfl sz3 (by decide) rfl (onx rfl (ze Tryd.underlying3 rfl rfl (HF.on E).here.2 rfl (onx rfl (xc rfl rfl (za rfl (zz rfl rfl (mvx rfl (yv 31 rfl (fun h4 => ?_) (fun h4 => ?_))))))))))))))
 ·
  replace h4 := of_decide_eq_true h4;refine za rfl (zc rfl (za rfl (zc rfl (za rfl (zc rfl (za rfl (zc rfl (za rfl (zr rfl rfl (rnx (qq rfl (srx (anx rfl (yc (zd (yb (rs := [.tmp 2]) (vs := [_]) rfl ⟨rfl, trivial⟩ ?_))))))))))))))));exact ⟨by rw [zdk (by omega)]; rfl, (LW.step E XLW).toBelow⟩
 replace h4 := of_decide_eq_false h4;refine onx rfl (zb Tryd.underlying27 rfl ju (by decide) rfl (onx rfl (ze Tryd.underlying24 rfl rfl (HF.on E).here.2 rfl (onx rfl (yp Tryd.underlying24 rfl (onx rfl (qx rfl rfl (za rfl (zz rfl rfl (rnx (zw rfl (fun h5 => ?_) (fun h5 => ?_))))))))))))
 ·
  refine qd 36 (.bool true) rfl (congrArg Value.bool h5) ?_;replace h5 := eq_of_beq h5;refine srx (anx rfl (yc (zd (yb (rs := [.tmp 2]) (vs := [_]) rfl ⟨rfl, trivial⟩ ?_))));exact ⟨by rw [zdk (by omega)]; rfl, (LW.step E XLW).toBelow⟩
 refine qd 36 (.bool false) rfl (congrArg Value.bool h5) ?_;replace h5 := beq_eq_false_iff_ne.1 h5;refine zq (zh (zm (srx (za rfl (zb Tryd.underlying27 rfl ju (by decide) rfl (za rfl (ze Tryd.underlying24 rfl rfl (HF.on E).here.2 rfl (za rfl (yp Tryd.underlying24 rfl (mvx rfl (rnx (zv ?_))))))))))))
 have hhead : 0 ≤ f.regs ∧ f.regs ≤ 65536 ∧ 0 ≤ f.params ∧ f.params ≤ f.regs ∧ f.ins.length ≠ 0 := by omega
 replace HF := HF.on E;replace LW := LW.step E XLW;replace E := erx (No) w2
 refine qu (ι := Nat) (fun k => [(1, .pointer (some ⟨gb1, 0, none⟩)), (38, .slice p.ai f.ins.length p.ci), (39, .int .i64 ((f.ins.length : Nat) : Int)), (40, .int .i64 ((k : Nat) : Int))]) (fun k w' => Ext (No) w2 w' ∧ (k ≤ f.ins.length ∧ ∀ (j : Nat) x, j < k → f.ins[j]? = some x → ky f j x = true)) (fun k => f.ins.length - k) 0 ⟨rfl, rfl, rfl, rfl, trivial⟩ ⟨Ext.refl _ _, ⟨Nat.zero_le _, fun j x h => by omega⟩⟩ ?_
 rintro k w4 ⟨M3, ⟨hk, hok⟩⟩;have XM3 := grx (No) w2;replace E := E.trans M3;replace HF := HF.on E;replace LW := LW.step E XLW;replace E := erx (No) w4;refine srx (za rfl (yy rfl rfl (rnx (zm (zw rfl (fun hq => ?_) (fun hq => ?_))))))
 ·
  have hq := of_decide_eq_true hq;obtain ⟨x, hx⟩ : ∃ x, f.ins[k]? = some x := ⟨_, List.getElem?_eq_getElem (by omega)⟩;obtain ⟨g, o, hA, hg, hc⟩ := ((HF.on E).here.1.2).ins.row.at hx;obtain ⟨hI, B, cB, hcB, hl, hcells⟩ := hc;have hll := hl.len;have hrw := rw_len (i := x);have hgl := zox x ((k : Nat) : Int);have hri64 := reads_i64 hI hl;have hwi64 := zsv hI hl;have hwl := hl.len
  replace HF := HF.on E;replace LW := LW.step E XLW;replace M3 := M3.step E XM3;replace E := erx (No) w4;replace HF := HF.and (Per.ints hl (fun _ h => h.elim));have HFs := HF;have SLW := LW;have SXLW := XLW;have SM3 := M3;have SXM3 := XM3;have Es := E
  refine zq (zh (zm (zv (srx (mvx rfl (za rfl (yh (j := k) Tryd.underlying24 vv (congrArg (fun z ↦ some (Value.slice z f.ins.length p.ci)) hA) rfl rfl (by omega) (za rfl (vt (cs := (gh x B cB).toArray) Tryd.underlying41 rfl vv rfl rfl (fun j v hj ↦ hcells j v (by simpa using hj)) (za rfl (qa zix ?_)))))))))));intro gb5 w6 Bb5 Eb5 Gb5
  have Gb5 : _ ≤ gb5 := Nat.le_trans E.size Gb5;have GLb5 := Nat.le_trans LW.size Gb5;replace E := E.trans Eb5.no;replace HF := HF.cons (yk Gb5);replace E := E.cons (some gb5);replace XLW := Mut.grow XLW (fun k e => Or.inr (Nat.le_trans LW.size ((yk Gb5) k e)));refine avx rfl (yx (qy vv rfl rfl Bb5 rfl rfl rfl ?_));intro w7 Bx Eb5
  replace Bb5 : Blk w7 gb5 41 #[.int .i64 x.op, .int .i64 x.d, .int .i64 x.a, .int .i64 x.b, .int .i64 x.t, .int .i64 x.k, .slice B x.l.length cB] := Bx;replace E := E.step1 Eb5 Mut.head;refine rnx (zm (zm ?_));have hq5 := Bb5.lt;have OY : ∀ q9, (Mut (outM [])) q9 → q9 < (World.drew w7).heap.size → (Mut [(some gb5)]) q9 := fun k h _ => (Mut.none_) k h
  refine zcz gn (ak_last (m := 6) (by kernel_rfl) rfl (fun _ _ d_ _ _ h => by cases d_ <;> exact h) (zdx 4 rfl ?_));refine vx (Mut [(some gb5)]) (Mut.grow Mut.none_ (zuq Bb5.lt)) [] [] (xx [Fx.of (.agg #[.int .i64 x.op, .int .i64 x.d, .int .i64 x.a, .int .i64 x.b, .int .i64 x.t, .int .i64 x.k, .slice B x.l.length cB]),
   ⟨(Option Addr × Nat), fun (A1, c1) => .slice A1 (yg x).length c1, fun (A1, c1) b => (OwnsI b w.heap.size A1 c1 (yg x) ∧ ∀ k, (Value.slice A1 (yg x).length c1).ownBlock = some k → gb5 < k)⟩,
   Fx.of (.agg #[.int .i64 x.op, .int .i64 x.d, .int .i64 x.a, .int .i64 x.b, .int .i64 x.t, .int .i64 x.k, .slice B x.l.length cB]),
   ⟨(Option Addr × Nat), fun (A2, c2) => .slice A2 (yn x).length c2, fun (A2, c2) b => (OwnsI b w.heap.size A2 c2 (yn x))⟩]) rfl trivial (fun _ h => by cases h) ?_ ?_
  · refine ⟨?_, ?_, ?_, ?_, trivial⟩
    · intro vs X wq K;have LE := K.1;exact yf Tryd.underlying41 rfl vv rfl (Bb5.drew.extN LE NotIn.nil) rfl ⟨Below.refl _ _, Left.of rfl⟩
    · intro vs X wq K;have LE := K.1;have XN := K.2.1;have SQ := Nat.le_trans LW.size (Nat.le_trans E.size LE.size);obtain ⟨_, e0, k0⟩ := K.dep 0 rfl rfl rfl
      refine zf 45 (.agg #[.int .i64 x.op, .int .i64 x.d, .int .i64 x.a, .int .i64 x.b, .int .i64 x.t, .int .i64 x.k, .slice B x.l.length cB]) rfl e0 (ya en35 rfl ((zgz _ x B cB n0 (HF.on (E.drew.trans (LE.mono OY))).here.2 (Nat.le_trans hn SQ)).mono ?_));rintro e w2 ⟨A1, c1, rfl, o1, hb⟩
      exact ⟨_, rfl, hb, ⟨(A1, c1), rfl, (Per.ownsI o1 XN SQ).and (fun _ _ k hk => Nat.lt_of_lt_of_le hq5 (Nat.le_trans LE.size (jv o1 k hk)))⟩⟩
    · intro vs X wq K;have LE := K.1;exact yf Tryd.underlying41 rfl vv rfl (Bb5.drew.extN LE NotIn.nil) rfl ⟨Below.refl _ _, Left.of rfl⟩
    · intro vs X wq K;have LE := K.1;have XN := K.2.1;have SQ := Nat.le_trans LW.size (Nat.le_trans E.size LE.size);obtain ⟨_, e2, k2⟩ := K.dep 2 rfl rfl rfl
      refine zf 47 (.agg #[.int .i64 x.op, .int .i64 x.d, .int .i64 x.a, .int .i64 x.b, .int .i64 x.t, .int .i64 x.k, .slice B x.l.length cB]) rfl e2 (ya en39 rfl ((zak _ x B cB n0 (HF.on (E.drew.trans (LE.mono OY))).here.2 (Nat.le_trans hn SQ)).mono ?_));rintro e w2 ⟨A2, c2, rfl, o2, hb⟩;exact ⟨_, rfl, hb, ⟨(A2, c2), rfl, Per.ownsI o2 XN SQ⟩⟩
  intro vs w8 LE AO AL AF AA;have LBb5 := Bb5;replace Bb5 := Bb5.drew.extN LE NotIn.nil;replace E := E.drew.trans (LE.mono OY);have Ed := E;obtain ⟨⟨A1, c1⟩, e1, k1⟩ := AL.2.1;obtain ⟨⟨A2, c2⟩, e3, k3⟩ := AL.2.2.2.1;replace HF := HF.on E;replace LW := LW.step E XLW;replace E := erx (Mut [(some gb5)]) w8
  replace HF := HF.and ((k1.map (fun _ h => h) : Per (Mut [(some gb5)]) w8 (fun b => OwnsI b w.heap.size A1 c1 (yg x) ∧ ∀ k, (Value.slice A1 (yg x).length c1).ownBlock = some k → gb5 < k)));replace HF := HF.on E;replace LW := LW.step E XLW;replace E := erx (Mut [(some gb5)]) w8
  replace HF := HF.and ((k3.map (fun _ h => h) : Per (Mut [(some gb5)]) w8 (fun b => OwnsI b w.heap.size A2 c2 (yn x))));refine vz (τ := [(1, _), (3, _), (4, _), (38, _), (39, _), (40, _), (46, .slice A1 (yg x).length c1), (48, .slice A2 (yn x).length c2), (51, _)]) ⟨rfl, rfl, rfl, rfl, rfl, rfl, congrArg some e1, congrArg some e3, rfl, trivial⟩ ?_
  clear AL AF AA LE AO OY e1 e3 k1 k3 LBb5;refine zoq (kp (by kernel_rfl) (fun _ _ d_ _ _ h => by cases d_ <;> exact h) ?_);have hw2 := zjk (i := x) hl;have o1 := ((HF.on E).here.1.2).1;have n5 := ((HF.on E).here.1.2).2;have o2 := (HF.on E).here.2;have hb5 := Bb5;have hSE := Nat.le_trans LW.size E.size
  refine za rfl (jf (news := yq (yn x)) Tryd.underlying28 inf3 rfl (by decide) rfl o1 rfl ((OwnsI.ints o2 hw2 hwi64).reads (Nat.le_refl _)) kf (by unfold maxLen; omega) (by omega) (by exact hSE) ?_);rintro v0 wD On En KN;obtain ⟨A3, c3, rfl⟩ := vm On;have hEd : Ext No _ wD := Ext.of_below ((Ext.step Ed En (fun i h => Or.inr (by
   rcases h with h | h
   · have := n5 i h.symm;have := Gb5;omega
   · exact h.elim))).below (fun i h => by
   rcases h with h | h
   · have := Option.some.inj h;have := Gb5;omega
   · exact h.elim)) No
  have h5D := Blk.ext hb5 En (fun h => by
   rcases h with h | h
   · have := n5 _ h.symm;omega
   · exact h.elim)
  have h3D : IntsA wD.heap.size wD A3 (yg x ++ yn x) := ints_app On (by rw [List.length_append]; omega) (fun y hy => (List.mem_append.1 hy).elim (hri64 y) (hwi64 y));replace HF := HFs;replace E : Ext No w4 wD := hEd;replace LW := SLW;replace XLW := SXLW;replace M3 := SM3;replace XM3 := SXM3;replace HF := HF.on E;replace LW := LW.step E XLW;replace M3 := M3.step E XM3
  replace E := erx (No) wD;replace HF := HF.and (Per.blk h5D (fun h => h.elim));replace HF := HF.on E;replace LW := LW.step E XLW;replace M3 := M3.step E XM3;replace E := erx (No) wD;replace HF := HF.and (Per.ints h3D (fun _ h => h.elim));have hlen3 : (yg x ++ yn x).length = (yg x).length + (yn x).length := List.length_append
  refine za rfl (yp Tryd.underlying28 rfl (rnx (zv ?_)));replace HF := HF.on E;replace LW := LW.step E XLW;replace M3 := M3.step E XM3;replace E := erx (No) wD
  refine qu (ι := Nat) (fun m => [(1, .pointer (some ⟨gb1, 0, none⟩)), (3, .int .i64 ((k : Nat) : Int)), (4, .pointer (some ⟨gb5, 0, none⟩)), (38, .slice p.ai f.ins.length p.ci), (39, .int .i64 ((f.ins.length : Nat) : Int)), (40, .int .i64 ((k : Nat) : Int)), (49, .slice A3 ((yg x).length + (yn x).length) c3), (50, .int .i64 (((yg x).length + (yn x).length : Nat) : Int)), (51, .int .i64 ((m : Nat) : Int))]) (fun m w' => Ext (No) wD w' ∧ (m ≤ (yg x).length + (yn x).length ∧ ∀ (j : Nat) y, j < m → (yg x ++ yn x)[j]? = some y → 0 ≤ y ∧ y < f.regs)) (fun m => (yg x).length + (yn x).length - m) 0 ⟨rfl, rfl, rfl, rfl, rfl, rfl, rfl, rfl, rfl, trivial⟩ ⟨Ext.refl _ _, ⟨Nat.zero_le _, fun j x h => by omega⟩⟩ ?_
  rintro m w10 ⟨M9, ⟨hm, hin⟩⟩;have XM9 := grx (No) wD;replace E := E.trans M9;replace HF := HF.on E;replace LW := LW.step E XLW;replace M3 := M3.step E XM3;replace E := erx (No) w10;refine srx (za rfl (yy rfl rfl (rnx (zm (zw rfl (fun hq2 => ?_) (fun hq2 => ?_))))))
  ·
   have hq2 := of_decide_eq_true hq2;obtain ⟨y, hy⟩ : ∃ y, (yg x ++ yn x)[m]? = some y := ⟨_, List.getElem?_eq_getElem (by omega)⟩;obtain ⟨gy, oy, hAy, _, hcy⟩ := ((HF.on E).here.2).cell hy
   refine zq (zh (zm (zv (srx (za rfl (zj (j := m) Tryd.underlying28 sz3 (congrArg (fun z ↦ some (Value.slice z ((yg x).length + (yn x).length) c3)) hAy) rfl rfl (by omega) (za rfl (zt Tryd.underlying3 rfl rfl hcy (anx rfl (srx (mvx rfl (za rfl (yy rfl rfl (mvx rfl (yv 57 rfl (fun t1 => ?_) (fun t1 => ?_))))))))))))))))
   ·
    replace t1 := of_decide_eq_true t1
    refine za rfl (zc rfl (za rfl (zc rfl (za rfl (zc rfl (za rfl (zc rfl (za rfl (zr rfl rfl (rnx (qq rfl (srx (anx rfl (yc (zg (zd (zd (zg (zd (zg (zd (zd (zg (zd (yb (rs := [.tmp 2]) (vs := [_]) rfl ⟨rfl, trivial⟩ ?_)))))))))))))))))))))))))
    exact ⟨by rw [zfv hx (znv (Or.inl (zhx hy (by omega))))]; rfl, (LW.step E XLW).toBelow⟩
   ·
    replace t1 := of_decide_eq_false t1;refine onx rfl (zl rfl (onx rfl (zb Tryd.underlying27 rfl sz3 (by decide) rfl (onx rfl (ze Tryd.underlying3 rfl rfl (HF.on E).here.1.1.1.2 rfl (onx rfl (xd rfl rfl (za rfl (zz rfl rfl (rnx (zw rfl (fun t2 => ?_) (fun t2 => ?_))))))))))))
    ·
     refine qd 62 (.bool true) rfl (congrArg Value.bool t2) ?_;replace t2 := of_decide_eq_true t2;refine srx (anx rfl (yc (zg (zd (zd (zg (zd (zg (zd (zd (zg (zd (yb (rs := [.tmp 2]) (vs := [_]) rfl ⟨rfl, trivial⟩ ?_)))))))))))))
     exact ⟨by rw [zfv hx (znv (Or.inl (zhx hy (by omega))))]; rfl, (LW.step E XLW).toBelow⟩
    ·
     refine qd 62 (.bool false) rfl (congrArg Value.bool t2) ?_;replace t2 := of_decide_eq_false t2;refine zq (zk (zh (zp (za rfl (qe rfl rfl (zy (by omega)) (mvx rfl (yj ?_)))))))
     exact yo (m + 1) (by show (yg x).length + (yn x).length - (m + 1) < (yg x).length + (yn x).length - m; omega) ⟨rfl, rfl, rfl, rfl, rfl, rfl, rfl, rfl, rfl, trivial⟩ ⟨M9.step E XM9, ⟨by omega, in_step hy hin (by omega)⟩⟩
  ·
   have hq2 := of_decide_eq_false hq2;have hins : vp (yg x ++ yn x) f.regs = true := inside_yes (fun j y hy => hin j y (by have := (List.getElem?_eq_some_iff.1 hy).1; omega) hy)
   refine qn (zi (zi (zx (zh (srx (za rfl (yf Tryd.underlying41 rfl vv rfl (HF.on E).here.1.2 rfl (mvx rfl (za rfl (ya en38 rfl ((ox _ x B cB ((k : Nat) : Int) (by unfold I64; omega)).mono ?_)))))))))));rintro e w11 ⟨A6, c6, rfl, o6, hb⟩;refine ⟨_, rfl, ?_⟩;replace E := blx E hb;replace HF := HF.on E;replace LW := LW.step E XLW
   replace M3 := M3.step E XM3;replace E := erx (No) w11;replace HF := HF.and (Per.ints (OwnsI.ints o6 (by omega) (goes_i64 hI (by unfold I64; omega))) (fun _ h => h.elim));refine za rfl (yp Tryd.underlying28 rfl (mvx rfl (rnx (zv ?_))));replace HF := HF.on E;replace LW := LW.step E XLW;replace M3 := M3.step E XM3;replace E := erx (No) w11
   refine qu (ι := Nat) (fun m => [(1, .pointer (some ⟨gb1, 0, none⟩)), (38, .slice p.ai f.ins.length p.ci), (39, .int .i64 ((f.ins.length : Nat) : Int)), (40, .int .i64 ((k : Nat) : Int)), (66, .slice A6 (ym x ((k : Nat) : Int)).length c6), (67, .int .i64 (((ym x ((k : Nat) : Int)).length : Nat) : Int)), (68, .int .i64 ((m : Nat) : Int))]) (fun m w' => Ext (No) w11 w' ∧ (m ≤ (ym x ((k : Nat) : Int)).length ∧ ∀ (j : Nat) y, j < m → (ym x ((k : Nat) : Int))[j]? = some y → 0 ≤ y ∧ y < (f.ins.length : Int))) (fun m => (ym x ((k : Nat) : Int)).length - m) 0 ⟨rfl, rfl, rfl, rfl, rfl, rfl, rfl, trivial⟩ ⟨Ext.refl _ _, ⟨Nat.zero_le _, fun j x h => by omega⟩⟩ ?_
   rintro m w13 ⟨M12, ⟨hm, hin⟩⟩;have XM12 := grx (No) w11;replace E := E.trans M12;replace HF := HF.on E;replace LW := LW.step E XLW;replace M3 := M3.step E XM3;replace E := erx (No) w13;refine srx (za rfl (yy rfl rfl (rnx (zm (zw rfl (fun hq3 => ?_) (fun hq3 => ?_))))))
   ·
    have hq3 := of_decide_eq_true hq3;obtain ⟨y, hy⟩ : ∃ y, (ym x ((k : Nat) : Int))[m]? = some y := ⟨_, List.getElem?_eq_getElem (by omega)⟩;obtain ⟨gy, oy, hAy, _, hcy⟩ := ((HF.on E).here.2).cell hy
    refine zq (zh (zm (zv (srx (za rfl (zj (j := m) Tryd.underlying28 sz3 (congrArg (fun z ↦ some (Value.slice z (ym x ((k : Nat) : Int)).length c6)) hAy) rfl rfl (by omega) (za rfl (zt Tryd.underlying3 rfl rfl hcy (anx rfl (srx (mvx rfl (za rfl (yy rfl rfl (mvx rfl (yv 74 rfl (fun t1 => ?_) (fun t1 => ?_))))))))))))))))
    ·
     replace t1 := of_decide_eq_true t1
     refine za rfl (zc rfl (za rfl (zc rfl (za rfl (zc rfl (za rfl (zc rfl (za rfl (zc rfl (za rfl (zr rfl rfl (rnx (qq rfl (srx (anx rfl (yc (zg (zd (zd (zg (zg (zd (zd (zg (zd (yb (rs := [.tmp 2]) (vs := [_]) rfl ⟨rfl, trivial⟩ ?_))))))))))))))))))))))))))
     exact ⟨by rw [zfv hx (znv (Or.inr (zhx hy (by omega))))]; rfl, (LW.step E XLW).toBelow⟩
    ·
     replace t1 := of_decide_eq_false t1;refine onx rfl (zl rfl (onx rfl (zb Tryd.underlying27 rfl ju (by decide) rfl (onx rfl (ze Tryd.underlying24 rfl rfl (HF.on E).here.1.1.1.1.2 rfl (onx rfl (yp Tryd.underlying24 rfl (onx rfl (xd rfl rfl (za rfl (zz rfl rfl (rnx (zw rfl (fun t2 => ?_) (fun t2 => ?_))))))))))))))
     ·
      refine qd 80 (.bool true) rfl (congrArg Value.bool t2) ?_;replace t2 := of_decide_eq_true t2;refine srx (anx rfl (yc (zg (zd (zd (zg (zg (zd (zd (zg (zd (yb (rs := [.tmp 2]) (vs := [_]) rfl ⟨rfl, trivial⟩ ?_))))))))))))
      exact ⟨by rw [zfv hx (znv (Or.inr (zhx hy (by omega))))]; rfl, (LW.step E XLW).toBelow⟩
     ·
      refine qd 80 (.bool false) rfl (congrArg Value.bool t2) ?_;replace t2 := of_decide_eq_false t2;refine zq (zk (zh (zp (za rfl (qe rfl rfl (zy (by omega)) (mvx rfl (yj ?_)))))))
      exact yo (m + 1) (by show (ym x ((k : Nat) : Int)).length - (m + 1) < (ym x ((k : Nat) : Int)).length - m; omega) ⟨rfl, rfl, rfl, rfl, rfl, rfl, rfl, trivial⟩ ⟨M12.step E XM12, ⟨by omega, in_step hy hin (by omega)⟩⟩
   ·
    have hq3 := of_decide_eq_false hq3;have hgo : vp (ym x ((k : Nat) : Int)) f.ins.length = true := inside_yes (fun j y hy => hin j y (by have := (List.getElem?_eq_some_iff.1 hy).1; omega) hy);refine qn (zi (zi (zx (zk (zh (zp (za rfl (qe rfl rfl (zy (by omega)) (mvx rfl (yj ?_))))))))))
    exact yo (k + 1) (by show f.ins.length - (k + 1) < f.ins.length - k; omega) ⟨rfl, rfl, rfl, rfl, trivial⟩ ⟨M3.step E XM3, ⟨by omega, ok_step hx hok (insOK_of hins hgo)⟩⟩
 ·
  have hq := of_decide_eq_false hq;have hall : ∀ (j : Nat) x, f.ins[j]? = some x → ky f j x = true := fun j x hx => hok j x (by have := (List.getElem?_eq_some_iff.1 hx).1; omega) hx;clear hok
  refine qn (zi (zi (zx (zh (zm (srx (za rfl (zb Tryd.underlying27 rfl xj (by decide) rfl (za rfl (ze Tryd.underlying25 rfl rfl (HF.on E).here.2 rfl (za rfl (yp Tryd.underlying25 rfl (mvx rfl (rnx (zv ?_)))))))))))))));replace HF := HF.on E;replace LW := LW.step E XLW;replace E := erx (No) w4
  refine qu (ι := Nat) (fun k => [(1, .pointer (some ⟨gb1, 0, none⟩)), (84, .slice p.ar f.rgs.length p.cr), (85, .int .i64 ((f.rgs.length : Nat) : Int)), (86, .int .i64 ((k : Nat) : Int))]) (fun k w' => Ext (No) w4 w' ∧ (k ≤ f.rgs.length ∧ ∀ (j : Nat) x, j < k → f.rgs[j]? = some x → xy f x = true)) (fun k => f.rgs.length - k) 0 ⟨rfl, rfl, rfl, rfl, trivial⟩ ⟨Ext.refl _ _, ⟨Nat.zero_le _, fun j x h => by omega⟩⟩ ?_
  rintro k w15 ⟨M14, ⟨hk, hok⟩⟩;have XM14 := grx (No) w4;replace E := E.trans M14;replace HF := HF.on E;replace LW := LW.step E XLW;replace E := erx (No) w15;refine srx (za rfl (yy rfl rfl (rnx (zm (zw rfl (fun hq4 => ?_) (fun hq4 => ?_))))))
  ·
   have hq4 := of_decide_eq_true hq4;obtain ⟨r, hr⟩ : ∃ r, f.rgs[k]? = some r := ⟨_, List.getElem?_eq_getElem (by omega)⟩;obtain ⟨gr, ro, hAr, hgr, hcr⟩ := ((HF.on E).here.1.2).rgs.row.at hr;have hmr := List.mem_of_getElem? hr
   refine zq (zh (zm (zv (srx (za rfl (yh (j := k) Tryd.underlying25 xi (congrArg (fun z ↦ some (Value.slice z f.rgs.length p.cr)) hAr) rfl rfl (by omega) (za rfl (vt (cs := (regV r).toArray) Tryd.underlying50 rfl xi rfl rfl (fun j v hj ↦ hcr j v (by simpa using hj)) (za rfl (qa zr50 ?_))))))))));intro gb16 w17 Bb16 Eb16 Gb16
   have Gb16 : _ ≤ gb16 := Nat.le_trans E.size Gb16;have GLb16 := Nat.le_trans LW.size Gb16;replace E := E.trans Eb16.no;replace HF := HF.cons (yk Gb16);replace E := E.cons (some gb16);replace XLW := Mut.grow XLW (fun k e => Or.inr (Nat.le_trans LW.size ((yk Gb16) k e)));replace XM14 := Mut.grow XM14 (fun k e => Or.inr (Nat.le_trans M14.size ((yk Gb16) k e)))
   refine yx (qy xi rfl rfl Bb16 rfl rfl rfl ?_);intro w18 Bx Eb16;replace Bb16 : Blk w18 gb16 50 #[.int .i64 r.fr, .int .i64 r.to, .int .i64 r.tg, .int .i64 r.d] := Bx;replace E := E.step1 Eb16 Mut.head
   refine rnx (srx (za rfl (zb Tryd.underlying50 rfl sz3 (by decide) rfl (za rfl (ze Tryd.underlying3 rfl rfl Bb16 rfl (za rfl (yy rfl rfl (mvx rfl (yv 93 rfl (fun t1 => ?_) (fun t1 => ?_))))))))))
   ·
    replace t1 := of_decide_eq_true t1
    refine za rfl (zc rfl (za rfl (zc rfl (za rfl (zc rfl (za rfl (zc rfl (za rfl (zc rfl (za rfl (zr rfl rfl (mvx rfl (za rfl (zc rfl (za rfl (zc rfl (za rfl (zc rfl (za rfl (zc rfl (za rfl (zc rfl (za rfl (zc rfl (za rfl (zr rfl rfl (mvx rfl (za rfl (zc rfl (za rfl (zc rfl (za rfl (zc rfl (za rfl (zr rfl rfl (mvx rfl (za rfl (zc rfl (za rfl (zc rfl (za rfl (zc rfl (za rfl (zc rfl (za rfl (zc rfl (za rfl (zc rfl (za rfl (zr rfl rfl (mvx rfl (za rfl (zc rfl (za rfl (zc rfl (za rfl (zc rfl (za rfl (zr rfl rfl (mvx rfl (za rfl (zc rfl (za rfl (zc rfl (za rfl (zc rfl (za rfl (zc rfl (za rfl (zc rfl (za rfl (zr rfl rfl (yj ?_)))))))))))))))))))))))))))))))))))))))))))))))))))))))))))))))))))))))))
    refine zh (qq rfl (srx (anx rfl (yc (zg (zd (zd (zg (zd (yb (rs := [.tmp 2]) (vs := [_]) rfl ⟨rfl, trivial⟩ ?_))))))))));exact ⟨by rw [gx hmr (xk (by omega))]; rfl, (LW.step E XLW).toBelow⟩
   ·
    replace t1 := of_decide_eq_false t1
    refine onx rfl (zb Tryd.underlying50 rfl sz3 (by decide) rfl (onx rfl (ze Tryd.underlying3 rfl rfl Bb16 rfl (onx rfl (zb Tryd.underlying50 rfl sz3 (by decide) rfl (onx rfl (ze Tryd.underlying3 rfl rfl Bb16 rfl (onx rfl (xc rfl rfl (za rfl (zz rfl rfl (mvx rfl (yv 100 rfl (fun t2 => ?_) (fun t2 => ?_))))))))))))))
    ·
     replace t2 := of_decide_eq_true t2
     refine za rfl (zc rfl (za rfl (zc rfl (za rfl (zc rfl (za rfl (zc rfl (za rfl (zc rfl (za rfl (zc rfl (za rfl (zr rfl rfl (mvx rfl (za rfl (zc rfl (za rfl (zc rfl (za rfl (zc rfl (za rfl (zr rfl rfl (mvx rfl (za rfl (zc rfl (za rfl (zc rfl (za rfl (zc rfl (za rfl (zc rfl (za rfl (zc rfl (za rfl (zc rfl (za rfl (zr rfl rfl (mvx rfl (za rfl (zc rfl (za rfl (zc rfl (za rfl (zc rfl (za rfl (zr rfl rfl (mvx rfl (za rfl (zc rfl (za rfl (zc rfl (za rfl (zc rfl (za rfl (zc rfl (za rfl (zc rfl (za rfl (zr rfl rfl (rnx (qq rfl (srx (anx rfl ?_)))))))))))))))))))))))))))))))))))))))))))))))))))))))))))))))
     refine yc (zg (zd (zd (zg (zd (yb (rs := [.tmp 2]) (vs := [_]) rfl ⟨rfl, trivial⟩ ?_))))));exact ⟨by rw [gx hmr (xk (by omega))]; rfl, (LW.step E XLW).toBelow⟩
    ·
     replace t2 := of_decide_eq_false t2
     refine onx rfl (zb Tryd.underlying50 rfl sz3 (by decide) rfl (onx rfl (ze Tryd.underlying3 rfl rfl Bb16 rfl (onx rfl (zb Tryd.underlying27 rfl ju (by decide) rfl (onx rfl (ze Tryd.underlying24 rfl rfl (HF.on E).here.2 rfl (onx rfl (yp Tryd.underlying24 rfl (onx rfl (xc rfl rfl (za rfl (zz rfl rfl (mvx rfl (yv 108 rfl (fun t3 => ?_) (fun t3 => ?_))))))))))))))))
     ·
      replace t3 := of_decide_eq_true t3
      refine za rfl (zc rfl (za rfl (zc rfl (za rfl (zc rfl (za rfl (zr rfl rfl (mvx rfl (za rfl (zc rfl (za rfl (zc rfl (za rfl (zc rfl (za rfl (zc rfl (za rfl (zc rfl (za rfl (zc rfl (za rfl (zr rfl rfl (mvx rfl (za rfl (zc rfl (za rfl (zc rfl (za rfl (zc rfl (za rfl (zr rfl rfl (mvx rfl (za rfl (zc rfl (za rfl (zc rfl (za rfl (zc rfl (za rfl (zc rfl (za rfl (zc rfl (za rfl (zr rfl rfl (rnx (qq rfl (srx (anx rfl (yc (zg (zd (zd (zg (zd (yb (rs := [.tmp 2]) (vs := [_]) rfl ⟨rfl, trivial⟩ ?_)))))))))))))))))))))))))))))))))))))))))))))))))))))))
      exact ⟨by rw [gx hmr (xk (by omega))]; rfl, (LW.step E XLW).toBelow⟩
     ·
      replace t3 := of_decide_eq_false t3;refine onx rfl (zb Tryd.underlying50 rfl sz3 (by decide) rfl (onx rfl (ze Tryd.underlying3 rfl rfl Bb16 rfl (onx rfl (yy rfl rfl (za rfl (zz rfl rfl (mvx rfl (yv 113 rfl (fun t4 => ?_) (fun t4 => ?_))))))))))
      ·
       replace t4 := of_decide_eq_true t4
       refine za rfl (zc rfl (za rfl (zc rfl (za rfl (zc rfl (za rfl (zc rfl (za rfl (zc rfl (za rfl (zc rfl (za rfl (zr rfl rfl (mvx rfl (za rfl (zc rfl (za rfl (zc rfl (za rfl (zc rfl (za rfl (zr rfl rfl (mvx rfl (za rfl (zc rfl (za rfl (zc rfl (za rfl (zc rfl (za rfl (zc rfl (za rfl (zc rfl (za rfl (zr rfl rfl (rnx (qq rfl (srx (anx rfl (yc (zg (zd (zd (zg (zd (yb (rs := [.tmp 2]) (vs := [_]) rfl ⟨rfl, trivial⟩ ?_))))))))))))))))))))))))))))))))))))))))))))))
       exact ⟨by rw [gx hmr (xk (by omega))]; rfl, (LW.step E XLW).toBelow⟩
      ·
       replace t4 := of_decide_eq_false t4
       refine onx rfl (zb Tryd.underlying50 rfl sz3 (by decide) rfl (onx rfl (ze Tryd.underlying3 rfl rfl Bb16 rfl (onx rfl (zb Tryd.underlying27 rfl ju (by decide) rfl (onx rfl (ze Tryd.underlying24 rfl rfl (HF.on E).here.2 rfl (onx rfl (yp Tryd.underlying24 rfl (onx rfl (xd rfl rfl (za rfl (zz rfl rfl (mvx rfl (yv 121 rfl (fun t5 => ?_) (fun t5 => ?_))))))))))))))))
       ·
        replace t5 := of_decide_eq_true t5
        refine za rfl (zc rfl (za rfl (zc rfl (za rfl (zc rfl (za rfl (zr rfl rfl (mvx rfl (za rfl (zc rfl (za rfl (zc rfl (za rfl (zc rfl (za rfl (zc rfl (za rfl (zc rfl (za rfl (zr rfl rfl (rnx (qq rfl (srx (anx rfl (yc (zg (zd (zd (zg (zd (yb (rs := [.tmp 2]) (vs := [_]) rfl ⟨rfl, trivial⟩ ?_)))))))))))))))))))))))))))))))
        exact ⟨by rw [gx hmr (xk (by omega))]; rfl, (LW.step E XLW).toBelow⟩
       ·
        replace t5 := of_decide_eq_false t5;refine onx rfl (zb Tryd.underlying50 rfl sz3 (by decide) rfl (onx rfl (ze Tryd.underlying3 rfl rfl Bb16 rfl (onx rfl (yy rfl rfl (za rfl (zz rfl rfl (mvx rfl (yv 126 rfl (fun t6 => ?_) (fun t6 => ?_))))))))))
        ·
         replace t6 := of_decide_eq_true t6;refine za rfl (zc rfl (za rfl (zc rfl (za rfl (zc rfl (za rfl (zc rfl (za rfl (zc rfl (za rfl (zr rfl rfl (rnx (qq rfl (srx (anx rfl (yc (zg (zd (zd (zg (zd (yb (rs := [.tmp 2]) (vs := [_]) rfl ⟨rfl, trivial⟩ ?_))))))))))))))))))))))
         exact ⟨by rw [gx hmr (xk (by omega))]; rfl, (LW.step E XLW).toBelow⟩
        ·
         replace t6 := of_decide_eq_false t6
         refine onx rfl (zb Tryd.underlying50 rfl sz3 (by decide) rfl (onx rfl (ze Tryd.underlying3 rfl rfl Bb16 rfl (onx rfl (zb Tryd.underlying27 rfl sz3 (by decide) rfl (onx rfl (ze Tryd.underlying3 rfl rfl (HF.on E).here.2 rfl (onx rfl (xd rfl rfl (za rfl (zz rfl rfl (rnx (zw rfl (fun t7 => ?_) (fun t7 => ?_))))))))))))))
         ·
          refine qd 132 (.bool true) rfl (congrArg Value.bool t7) ?_;replace t7 := of_decide_eq_true t7;refine srx (anx rfl (yc (zg (zd (zd (zg (zd (yb (rs := [.tmp 2]) (vs := [_]) rfl ⟨rfl, trivial⟩ ?_))))))));exact ⟨by rw [gx hmr (xk (by omega))]; rfl, (LW.step E XLW).toBelow⟩
         ·
          refine qd 132 (.bool false) rfl (congrArg Value.bool t7) ?_;replace t7 := of_decide_eq_false t7;refine zq (zk (zh (zp (za rfl (qe rfl rfl (zy (by omega)) (mvx rfl (yj ?_)))))))
          exact yo (k + 1) (by show f.rgs.length - (k + 1) < f.rgs.length - k; omega) ⟨rfl, rfl, rfl, rfl, trivial⟩ ⟨M14.step E XM14, ⟨by omega, okr_step hr hok (regOK_of (by omega))⟩⟩
  ·
   have hq4 := of_decide_eq_false hq4;refine qn (zi (zi (zx (zh (srx (anx rfl (yc (yb (rs := [.tmp 2]) (vs := [_]) rfl ⟨rfl, trivial⟩ ?_))))))));exact ⟨by rw [sound_yes hhead hall (fun j r hr => hok j r (by have := (List.getElem?_eq_some_iff.1 hr).1; omega) hr)]; rfl, (LW.step E XLW).toBelow⟩
end
end Go.Proofs.YtppdgjlmeahimaaDoor
namespace Go.Proofs.YtppdgjlmeahimaaDoor
open Go.RowKit
set_option maxRecDepth 100000
attribute [local irreducible] OW RS
structure U64A (n : Nat) (w : World) (A : Option Addr) (xs : List Nat) : Prop where
 len : 8 * xs.length ≤ 140737488355000
 in_ : ∀ x ∈ xs, x < 2 ^ 64
 row : RowS n w 1 (fun w g o (x : Nat) => w.cell? ⟨g, o, none⟩ = some (.int .u64 (x : Int))) A xs
theorem U64A.low {n : Nat} {X : Nat → Prop} {w w' : World} {A : Option Addr} {xs : List Nat} (h : U64A n w A xs) (k : Low n X w w') : U64A n w' A xs := ⟨h.len, h.in_, h.row.low fun _ _ _ hg hc => k.cell hg hc⟩
theorem Per.u64A {n : Nat} {X : Nat → Prop} {w : World} {A : Option Addr} {xs : List Nat} (h : U64A n w A xs) (hX : ∀ k, X k → n ≤ k) : Per X w (fun z => U64A n z A xs) := fun _ hb => h.low ⟨hb, hX⟩
theorem U64A.up {n m : Nat} {w : World} {A : Option Addr} {xs : List Nat} (h : U64A n w A xs) (hm : n ≤ m) : U64A m w A xs := ⟨h.len, h.in_, h.row.up hm fun _ _ _ hc => hc⟩
theorem U64A.cell {n : Nat} {w : World} {A : Option Addr} {xs : List Nat} (h : U64A n w A xs) {j : Nat} {x : Nat} (hj : xs[j]? = some x) : ∃ g o, A = some ⟨g, o, none⟩ ∧ g < n ∧ w.cell? ⟨g, o + j, none⟩ = some (.int .u64 (x : Int)) := by
 obtain ⟨g, o, e, hg, hc⟩ := h.row.at hj;exact ⟨g, o, e, hg, by rwa [Nat.mul_one] at hc⟩
section
variable (w : World) (A : Option Addr) (c n0 : Nat) (xs : List Int) (hx : IntsA n0 w A xs)
include hx
end
theorem xg {x y : Nat} (hx : x < 2 ^ 64) (hy : y < 2 ^ 64) : IntKind.u64.wrap (BitVec.ofInt IntKind.u64.bits (x : Int) &&& BitVec.ofInt IntKind.u64.bits (y : Int)).toNat = ((x &&& y : Nat) : Int) := by
 have e : (BitVec.ofInt IntKind.u64.bits (x : Int) &&& BitVec.ofInt IntKind.u64.bits (y : Int)).toNat = x &&& y := by
  show (BitVec.ofInt 64 (x : Int) &&& BitVec.ofInt 64 (y : Int)).toNat = x &&& y
  rw [zfz, zfz, BitVec.toNat_and, BitVec.toNat_ofNat, BitVec.toNat_ofNat, Nat.mod_eq_of_lt (by omega), Nat.mod_eq_of_lt (by omega)]
 rw [e];have h1 : x &&& y ≤ x := Nat.and_le_left;have h2 : x < 18446744073709551616 := hx;exact kc (by omega)
theorem zuk {x k : Nat} (hk : k < 64) : ((x : Int).fdiv (2 ^ (min ((k : Nat) : Int).toNat IntKind.u64.bits)) : Int) = ((x >>> k : Nat) : Int) := by
 have e : min ((k : Nat) : Int).toNat IntKind.u64.bits = k := by
  show min k 64 = k
  omega
 rw [e, Nat.shiftRight_eq_div_pow, Int.fdiv_eq_ediv_of_nonneg _ (by exact Int.le_of_lt (Int.pow_pos (by decide)))];simp
theorem zaz (x k : Nat) : ((((x >>> k &&& 1 : Nat)) : Int) == 1) = x.testBit k := by
 unfold Nat.testBit;rw [Nat.and_comm 1];have h : x >>> k &&& 1 = 0 ∨ x >>> k &&& 1 = 1 := by
  have : x >>> k &&& 1 ≤ 1 := Nat.and_le_right;omega
 rcases h with h | h <;> rw [h] <;> rfl
section
variable (w : World) (A : Option Addr) (c n0 : Nat) (ws : List Nat) (hx : U64A n0 w A ws)
include hx
end
end Go.Proofs.YtppdgjlmeahimaaDoor
namespace Go.Proofs.YtppdgjlmeahimaaDoor
open Go.RowKit
set_option maxRecDepth 100000
instance decI64 (x : Int) : Decidable (I64 x) := by unfold I64; infer_instance
def kg (is : List (LIns × Option Addr × Nat)) : List Value := is.flatMap fun x => gh x.1 x.2.1 x.2.2
theorem insCs_at : ∀ {is : List (LIns × Option Addr × Nat)} {j i : Nat} {x : LIns × Option Addr × Nat} {v : Value}, is[j]? = some x → (gh x.1 x.2.1 x.2.2)[i]? = some v → (kg is)[j * 7 + i]? = some v
 | [], _, _, _, _, h, _ => by cases h
 | y :: is, 0, i, x, v, h, hv => by
  obtain rfl := Option.some.inj h;show (gh _ _ _ ++ kg is)[_]? = _
  have hi : i < (gh y.1 y.2.1 y.2.2).length := (List.getElem?_eq_some_iff.1 hv).1;rw [List.getElem?_append_left (by omega), Nat.zero_mul, Nat.zero_add, hv]
 | y :: is, j + 1, i, x, v, h, hv => by
  show (gh _ _ _ ++ kg is)[_]? = _
  have hl : (gh y.1 y.2.1 y.2.2).length = 7 := rfl;rw [List.getElem?_append_right (by omega), hl, show (j + 1) * 7 + i - 7 = j * 7 + i by omega];exact insCs_at (by simpa using h) hv
theorem insA_of {w : World} {n g : Nat} {is : List (LIns × Option Addr × Nat)} (hg : g < n) (hc : ∀ j v, (kg is)[j]? = some v → w.cell? ⟨g, j, none⟩ = some v) (hl : 72 * is.length ≤ 140737488351232) (hi : ∀ x ∈ is, InsI x.1 ∧ 8 * x.1.l.length ≤ 140737488351232 ∧ IntsA n w x.2.1 x.1.l) : InsA n w (some ⟨g, 0, none⟩) (is.map (·.1)) := by
 refine ⟨by rw [List.length_map]; exact hl, fun _ => ⟨g, 0, rfl, hg, fun j x hx => ?_⟩⟩;rw [List.getElem?_map] at hx;cases hy : is[j]? with
 | none => rw [hy] at hx; cases hx
 | some y =>
  rw [hy] at hx;obtain rfl := Option.some.inj hx;obtain ⟨h1, h2, h3⟩ := hi y (List.mem_of_getElem? hy);refine ⟨h1, y.2.1, y.2.2, h2, h3, fun i v hv => ?_⟩;rw [Nat.zero_add];exact hc _ _ (insCs_at hy hv)
theorem IntsA.nil (n : Nat) (w : World) (A : Option Addr) : IntsA n w A [] := ⟨by decide, fun x h => (by cases h), fun h => absurd rfl h⟩
theorem RegsA.nil (n : Nat) (w : World) (A : Option Addr) : RegsA n w A [] := ⟨by decide, fun x h => (by cases h), fun h => absurd rfl h⟩
theorem StrsA.nil (n : Nat) (w : World) (A : Option Addr) : StrsA n w A [] := ⟨by decide, fun x h => (by cases h), fun h => absurd rfl h⟩
theorem ConsA.nil (n : Nat) (w : World) (A : Option Addr) : ConsA n w A [] := ⟨by decide, fun x h => (by cases h), fun h => absurd rfl h⟩
theorem InsA.nil (n : Nat) (w : World) (A : Option Addr) : InsA n w A [] := ⟨by decide, fun h => absurd rfl h⟩
theorem cons_one {w : World} {n g : Nat} {k : Int} {s : ByteArray} (hg : g < n) (h : Blk w g 37 #[.int .i64 k, .string s]) (hk : I64 k) (hs : s.size ≤ maxLen) : ConsA n w (some ⟨g, 0, none⟩) [(k, s)] := by
 refine ⟨by rw [List.length_singleton]; decide, fun x hx => ?_, fun _ => ⟨g, 0, rfl, hg, fun j x hx => ?_⟩⟩
 · rw [List.mem_singleton] at hx; subst hx; exact ⟨hk, hs⟩
 · match j, hx with
   | 0, hx =>
    obtain rfl := Option.some.inj hx;intro i v hv;show w.cell? ⟨g, 0 + 0 * 2 + i, none⟩ = _
    rw [show 0 + 0 * 2 + i = i by omega, h.cell, List.getElem?_toArray];exact hv
   | j + 1, hx => cases hx
theorem xz {w : World} {base n c s : Nat} {e : TypeId} {A : Option Addr} {xs : List Value} (h : w.ownsRow base e s (.slice A n c) n xs) (h0 : 0 < n) : ∃ g, A = some ⟨g, 0, none⟩ ∧ base ≤ g ∧ g < w.heap.size ∧ ∀ j u, xs[j]? = some u → w.cell? ⟨g, j, none⟩ = some u := by
 rcases h.2 with ⟨_, rfl⟩ | ⟨g, cap, cur, hv, hg, hh, hn, _, hs, ht⟩
 · omega
 · cases hv
   refine ⟨g, rfl, hg, (Array.getElem?_eq_some_iff.1 hh).1, fun j u hj => ?_⟩;unfold World.cell?;simp only [hh, Option.isSome_none, Bool.false_eq_true, if_false]
   rw [← ht, List.getElem?_take] at hj;split at hj
   · rw [← hj, Array.getElem?_toList]
   · cases hj
theorem fill4x7 (a0 a1 a2 a3 a4 a5 a6 a7 a8 a9 a10 a11 a12 a13 a14 a15 a16 a17 a18 a19 a20 a21 a22 a23 a24 a25 a26 a27 : Value) : Instr.fill (fun i => some (i * 7, 7)) ((Array.range (4 * 7)).map ((if 4 * 7 = 0 then #[] else (Value.agg #[.int .i64 0, .int .i64 0, .int .i64 0, .int .i64 0, .int .i64 0, .int .i64 0, .slice none 0 0]).cells)[· % (if 4 * 7 = 0 then #[] else (Value.agg #[.int .i64 0, .int .i64 0, .int .i64 0, .int .i64 0, .int .i64 0, .int .i64 0, .slice none 0 0]).cells).size]!)) [(0, .agg #[a0, a1, a2, a3, a4, a5, a6]), (1, .agg #[a7, a8, a9, a10, a11, a12, a13]), (2, .agg #[a14, a15, a16, a17, a18, a19, a20]), (3, .agg #[a21, a22, a23, a24, a25, a26, a27])] = some #[a0, a1, a2, a3, a4, a5, a6, a7, a8, a9, a10, a11, a12, a13, a14, a15, a16, a17, a18, a19, a20, a21, a22, a23, a24, a25, a26, a27] := by
 rw [qk];kernel_rfl
theorem fill1x7 (a0 a1 a2 a3 a4 a5 a6 : Value) : Instr.fill (fun i => some (i * 7, 7)) ((Array.range (1 * 7)).map ((if 1 * 7 = 0 then #[] else (Value.agg #[.int .i64 0, .int .i64 0, .int .i64 0, .int .i64 0, .int .i64 0, .int .i64 0, .slice none 0 0]).cells)[· % (if 1 * 7 = 0 then #[] else (Value.agg #[.int .i64 0, .int .i64 0, .int .i64 0, .int .i64 0, .int .i64 0, .int .i64 0, .slice none 0 0]).cells).size]!)) [(0, .agg #[a0, a1, a2, a3, a4, a5, a6])] = some #[a0, a1, a2, a3, a4, a5, a6] := by
 rw [qk];kernel_rfl
def thrP (g3 g5 : Nat) : Pl := ⟨none, 0, some ⟨g3, 0, none⟩, 1, some ⟨g5, 0, none⟩, 4, none, 0⟩
def ThrB (w : World) (g3 g5 : Nat) : Prop := Blk w g3 37 #[.int .i64 1, .string ⟨#[49]⟩] ∧ Blk w g5 41 (kg (thrF.ins.map fun i => (i, none, 0))).toArray
theorem Per.thrB {X : Nat → Prop} {w : World} {g3 g5 : Nat} (h : ThrB w g3 g5) (h3 : ¬ X g3) (h5 : ¬ X g5) : Per X w (fun z => ThrB z g3 g5) := (Per.blk h.1 h3).and (Per.blk h.2 h5)
theorem thr_mem {w : World} {g3 g5 : Nat} (h3 : Blk w g3 37 #[.int .i64 1, .string ⟨#[49]⟩]) (h5 : Blk w g5 41 (kg (thrF.ins.map fun i => (i, none, 0))).toArray) : FnA w.heap.size w (thrP g3 g5) thrF := by
 refine ⟨by decide, by decide, by decide, by decide, by decide, StrsA.nil _ _ _, cons_one h3.lt h3 (by decide) (by decide), ?_, RegsA.nil _ _ _, Nat.le_refl _⟩;have h := insA_of (w := w) (n := w.heap.size) (g := g5) (is := thrF.ins.map fun i => (i, none, 0)) h5.lt (fun j v hv => by rw [h5.cell, List.getElem?_toArray]; exact hv) (by decide) (fun x hx => by
  simp only [thrF, List.map_cons, List.map_nil, List.mem_cons, List.not_mem_nil, or_false] at hx
  rcases hx with rfl | rfl | rfl | rfl <;> exact ⟨⟨by decide, by decide, by decide, by decide, by decide, by decide⟩, by decide, IntsA.nil _ _ _⟩)
 exact h
theorem ThrB.fn {w : World} {g3 g5 : Nat} (h : ThrB w g3 g5) : FnA w.heap.size w (thrP g3 g5) thrF := thr_mem h.1 h.2
theorem zek {w : World} {g n : Nat} {xs : List Int} (hb : Blk w g 3 (yq xs).toArray) (hg : g < n) (hl : 8 * xs.length ≤ 140737488355000) (hi : ∀ x ∈ xs, I64 x) : IntsA n w (some ⟨g, 0, none⟩) xs :=
 ⟨hl, hi, fun _ => ⟨g, 0, rfl, hg, fun j x hx => by
  show w.cell? ⟨g, 0 + j * 1, none⟩ = _
  rw [hb.cell, List.getElem?_toArray, Nat.zero_add, Nat.mul_one];unfold yq;rw [List.getElem?_map, hx]; rfl⟩⟩
section
variable {P : Program} {N : Nat} {Q : Exit → Act → World → Prop} {σ : Env} {w0 : World} {l : List Oper} {F : Nat → Fx} {q : Nat} {Z : Nat → Prop}
def Known1 (ops : Array Oper) (Z : Nat → Prop) (F : Nat → Fx) (w0 : World) (vs : Nat → Value) (X : Nat → Prop) (w : World) (i : Nat) : Prop :=
 Ext Z w0 w ∧ (∀ k, X k → k < w.heap.size) ∧ ∀ j ∈ qi ops i, Left X w (F j) (vs j)
theorem Known1.dep {ops : Array Oper} {vs : Nat → Value} {X : Nat → Prop} {w : World} {i : Nat} (K : Known1 ops Z F w0 vs X w i) (j : Nat) (h : memN j (qi ops i) = true) (_ : True = True) (_ : True = True) : Left X w (F j) (vs j) := K.2.2 j (vr.1 h)
def Step1 (P : Program) (N : Nat) (ops : Array Oper) (Q : Exit → Act → World → Prop) (σ : Env) (q : Nat) (Z : Nat → Prop) (F : Nat → Fx) (w0 : World) (i : Nat) (o : Oper) : Prop :=
 ∀ vs X w, Known1 ops Z F w0 vs X w i → (Nat.beq i q = true → Ext No w0 w) → OW P N ops Q o (jy σ ops vs i) w (fun v w' => match Nat.beq i q with
  | true => Ext Z w w' ∧ Left No w' (F i) v
  | false => Below w.heap.size w w' ∧ Left X w' (F i) v)
def Steps1 (P : Program) (N : Nat) (ops : Array Oper) (Q : Exit → Act → World → Prop) (σ : Env) (q : Nat) (Z : Nat → Prop) (F : Nat → Fx) (w0 : World) : Nat → List Oper → Prop
 | _, [] => True
 | i, o :: l => Step1 P N ops Q σ q Z F w0 i o ∧ Steps1 P N ops Q σ q Z F w0 (i + 1) l
def Yet (listed : Array Bool) (q : Nat) (Z : Nat → Prop) (k : Nat) : Prop := ¬ Ran listed q ∧ Z k
structure Mid1 (N : Nat) (l : List Oper) (σ : Env) (w0 : World) (q : Nat) (Z : Nat → Prop) (F : Nat → Fx) (listed : Array Bool) (a : Act) (w : World) (vs : Nat → Value) : Prop where
 size : listed.size = l.length
 defers : a.defers = []
 tmps : a.tmps.size = N
 kept : ∀ t v, lk t (cutE (dstL l) σ) = some v → a.tmps[t]? = some v
 ran : ∀ i d, Ran listed i → xe l.toArray i = some d → a.tmps[d]? = some (vs i)
 old : ∀ i d v, ¬ Ran listed i → xe l.toArray i = some d → lk d σ = some v → a.tmps[d]? = some v
 down : ∀ i, Ran listed i → ∀ j ∈ qi l.toArray i, Ran listed j
 ext : Ext (fun k => Ran listed q ∧ Z k) w0 w
 facts : ∀ i, Ran listed i → Left (Yet listed q Z) w (F i) (vs i)
theorem Mid1.at_ {listed : Array Bool} {a : Act} {w : World} {vs : Nat → Value} (m : Mid1 N l σ w0 q Z F listed a w vs) {i : Nat} (hi : ¬ Ran listed i) (hd : ∀ j ∈ qi l.toArray i, Ran listed j) : At N (jy σ l.toArray vs i) a := by
 refine ⟨m.defers, m.tmps, fun t v h => ?_⟩;rcases kt h with h | h
 · obtain ⟨j, hj, hjd, rfl⟩ := zgq h;exact m.ran j t (hd j hj) hjd
 · rcases kt h with h | h
   · obtain ⟨j, _, hjd, hji, hv⟩ := znk h;exact m.old j t v (fun hr => hi (m.down j hr i hji)) hjd hv
   · exact m.kept t v h
theorem Mid1.step (hrow : ob 0 l [] = true) {listed : Array Bool} {a : Act} {w w' : World} {vs : Nat → Value} (m : Mid1 N l σ w0 q Z F listed a w vs) {i : Nat} {o : Oper} (ho : l[i]? = some o) (hi : ¬ Ran listed i) (hd : ∀ j ∈ qi l.toArray i, Ran listed j)
 (hN : ∀ d, o.dst = some d → d < N) (v : Value) (hext : Ext (fun k => Ran (listed.setIfInBounds i true) q ∧ Z k) w0 w')
 (hfacts : ∀ j, Ran listed j → Left (Yet (listed.setIfInBounds i true) q Z) w' (F j) (vs j)) (hfact : Left (Yet (listed.setIfInBounds i true) q Z) w' (F i) v) :
 Mid1 N l σ w0 q Z F (listed.setIfInBounds i true) (a.put o.dst v) w' (fun j => if j = i then v else vs j) := by
 have hil : i < listed.size := by rw [m.size]; exact (List.getElem?_eq_some_iff.1 ho).1
 have hne : ∀ {j}, Ran listed j → j ≠ i := fun h e => hi (e ▸ h);have hput : ∀ t, o.dst ≠ some t → ∀ v', a.tmps[t]? = some v' → (a.put o.dst v).tmps[t]? = some v' := by
  intro t ht v' h;cases hd : o.dst with
  | none => exact h
  | some d =>
   have : d ≠ t := fun e => ht (by rw [hd, e]);simpa [Act.put, Array.getElem?_setIfInBounds_ne this] using h
 refine ⟨by simpa using m.size, ?_, ?_, ?_, ?_, ?_, ?_, hext, ?_⟩
 · cases hd : o.dst <;> exact m.defers
 · cases hd : o.dst
   · exact m.tmps
   · simpa [Act.put] using m.tmps
 · intro t u h;refine hput t (fun e => ?_) u (m.kept t u h);exact (zgk h).2 (mem_dstL (List.mem_of_getElem? ho) e)
 · intro j d hj hjd;rcases (vo hil).1 hj with rfl | hj
   · rw [ou ho] at hjd;have hlt := hN d hjd;rw [if_pos rfl, hjd];have : d < a.tmps.size := by rw [m.tmps]; exact hlt
     simp [Act.put, this]
   · rw [if_neg (hne hj)];refine hput d (fun e => hne hj ?_) _ (m.ran j d hj hjd);exact zov hrow hjd (by rw [ou ho]; exact e)
 · intro j d u hj hjd hu;have hj' : ¬ Ran listed j := fun h => hj ((vo hil).2 (Or.inr h));have hji : j ≠ i := fun e => hj ((vo hil).2 (Or.inl e));refine hput d (fun e => hji ?_) _ (m.old j d u hj' hjd hu);exact zov hrow hjd (by rw [ou ho]; exact e)
 · intro j hj k hk;refine (vo hil).2 (Or.inr ?_);rcases (vo hil).1 hj with rfl | hj
   · exact hd k hk
   · exact m.down j hj k hk
 · intro j hj;rcases (vo hil).1 hj with rfl | hj
   · rw [if_pos rfl]; exact hfact
   · rw [if_neg (hne hj)]; exact hfacts j hj
end
end Go.Proofs.YtppdgjlmeahimaaDoor
namespace Go.Proofs.YtppdgjlmeahimaaDoor
open Go.RowKit
set_option maxRecDepth 100000
attribute [local irreducible] OW RS
theorem zqk (w : World) : Calls Tryd.prog 18 #[] w fun e w' => ∃ g3 g5, e = .returned (fnV (thrP g3 g5) thrF) ∧ ThrB w' g3 g5 ∧ w.heap.size ≤ g3 ∧ w.heap.size ≤ g5 ∧ Below w.heap.size w w' := by
 refine qw Tryd.func18 rfl Tryd.ntmps18 rfl ?_;have HF : Per (No) w (fun _ => True) := Per.true_;have LW := erx (No) w;have XLW := grx (No) w;have E := erx (No) w;refine srx (za rfl (qa zr27 ?_));intro gb1 w2 Bb1 Eb1 Gb1;have Gb1 : _ ≤ gb1 := Nat.le_trans E.size Gb1;have GLb1 := Nat.le_trans LW.size Gb1;replace E := E.trans Eb1.no;replace HF := HF.cons (yk Gb1)
 replace E := E.cons (some gb1);replace XLW := Mut.grow XLW (fun k e => Or.inr (Nat.le_trans LW.size ((yk Gb1) k e)));refine rnx (srx (za rfl (jn (cs := #[.int .i64 1, .string ⟨#[49]⟩]) pl37 zr37 rfl rfl (za rfl (yu (cs := #[.int .i64 1, .string ⟨#[49]⟩]) Tryd.underlying23 sz37 zr37 (by decide) rfl (by rw [qk]; rfl) ?_)))));intro gb3 w4 Bb3 Eb3 Gb3
 have Db3_b1 : Apart (some gb3) (some gb1) := Apart.of_lt (zuq Bb1.lt) Gb3;have Db1_b3 := Db3_b1.symm;have Gb3 : _ ≤ gb3 := Nat.le_trans E.size Gb3;have GLb3 := Nat.le_trans LW.size Gb3;replace Bb1 := Bb1.extN Eb3 NotIn.nil;replace E := E.trans Eb3.no;replace HF := HF.cons (yk Gb3);replace E := E.cons (some gb3)
 replace XLW := Mut.grow XLW (fun k e => Or.inr (Nat.le_trans LW.size ((yk Gb3) k e)));replace HF := HF.on E;replace LW := LW.step E XLW;have SB : ∀ q9, Mut [(some gb1)] q9 → Mut [(some gb3), (some gb1)] q9 := (Mut.skip (Mut.keep Mut.nil_));replace HF := HF.less SB;replace XLW := fun k h => XLW k (SB k h);clear SB;replace E := erx (Mut [(some gb1)]) w4
 replace HF := HF.and (Per.blkN Bb3 (NotIn.cons Db3_b1 NotIn.nil))
 refine za rfl (jn (cs := #[.int .i64 3, .int .i64 0, .int .i64 0, .int .i64 0, .int .i64 0, .int .i64 0, .slice none 0 0]) pl41 zix rfl rfl (za rfl (jn (cs := #[.int .i64 3, .int .i64 1, .int .i64 0, .int .i64 0, .int .i64 0, .int .i64 0, .slice none 0 0]) pl41 zix rfl rfl (za rfl (jn (cs := #[.int .i64 14, .int .i64 2, .int .i64 0, .int .i64 1, .int .i64 0, .int .i64 1, .slice none 0 0]) pl41 zix rfl rfl (za rfl (jn (cs := #[.int .i64 41, .int .i64 0, .int .i64 2, .int .i64 0, .int .i64 0, .int .i64 0, .slice none 0 0]) pl41 zix rfl rfl (za rfl (yu (cs := #[.int .i64 3, .int .i64 0, .int .i64 0, .int .i64 0, .int .i64 0, .int .i64 0, .slice none 0 0, .int .i64 3, .int .i64 1, .int .i64 0, .int .i64 0, .int .i64 0, .int .i64 0, .slice none 0 0, .int .i64 14, .int .i64 2, .int .i64 0, .int .i64 1, .int .i64 0, .int .i64 1, .slice none 0 0, .int .i64 41, .int .i64 0, .int .i64 2, .int .i64 0, .int .i64 0, .int .i64 0, .slice none 0 0]) Tryd.underlying24 vv zix (by decide) rfl (fill4x7 (.int .i64 3) (.int .i64 0) (.int .i64 0) (.int .i64 0) (.int .i64 0) (.int .i64 0) (.slice none 0 0) (.int .i64 3) (.int .i64 1) (.int .i64 0) (.int .i64 0) (.int .i64 0) (.int .i64 0) (.slice none 0 0) (.int .i64 14) (.int .i64 2) (.int .i64 0) (.int .i64 1) (.int .i64 0) (.int .i64 1) (.slice none 0 0) (.int .i64 41) (.int .i64 0) (.int .i64 2) (.int .i64 0) (.int .i64 0) (.int .i64 0) (.slice none 0 0)) ?_)))))))))
 intro gb5 w6 Bb5 Eb5 Gb5;have Db5_b1 : Apart (some gb5) (some gb1) := Apart.of_lt (zuq Bb1.lt) Gb5;have Db1_b5 := Db5_b1.symm;have Gb5 : _ ≤ gb5 := Nat.le_trans E.size Gb5;have GLb5 := Nat.le_trans LW.size Gb5;replace Bb1 := Bb1.extN Eb5 NotIn.nil;replace E := E.trans Eb5.no;replace HF := HF.cons (yk Gb5);replace E := E.cons (some gb5)
 replace XLW := Mut.grow XLW (fun k e => Or.inr (Nat.le_trans LW.size ((yk Gb5) k e)));replace HF := HF.on E;replace LW := LW.step E XLW;have SB : ∀ q9, Mut [(some gb1)] q9 → Mut [(some gb5), (some gb1)] q9 := (Mut.skip (Mut.keep Mut.nil_));replace HF := HF.less SB;replace XLW := fun k h => XLW k (SB k h);clear SB;replace E := erx (Mut [(some gb1)]) w6
 replace HF := HF.and (Per.blkN Bb5 (NotIn.cons Db5_b1 NotIn.nil));refine za rfl (jn (cs := #[.string ⟨#[]⟩, .int .i64 0, .int .i64 3, .int .i64 0, .bool false, .int .i64 0, .slice none 0 0, .slice (some ⟨gb3, 0, none⟩) 1 1, .slice (some ⟨gb5, 0, none⟩) 4 4, .slice none 0 0]) pl27 zr27 rfl rfl (yx (qy vq rfl rfl Bb1 rfl rfl rfl ?_)));intro w7 Bx Eb1
 replace Bb1 : Blk w7 gb1 27 #[.string ⟨#[]⟩, .int .i64 0, .int .i64 3, .int .i64 0, .bool false, .int .i64 0, .slice none 0 0, .slice (some ⟨gb3, 0, none⟩) 1 1, .slice (some ⟨gb5, 0, none⟩) 4 4, .slice none 0 0] := Bx;replace E := E.step1 Eb1 Mut.head;replace HF := HF.on E;replace LW := LW.step E XLW;have SB : ∀ q9, No q9 → Mut [(some gb1)] q9 := (Mut.skip Mut.nil_);replace HF := HF.less SB
 replace XLW := fun k h => XLW k (SB k h);clear SB;replace E := erx (No) w7;replace HF := HF.and (Per.blkN Bb1 NotIn.nil);refine rnx (yc (yb (rs := [.cell 0 27]) (vs := [_]) rfl ⟨⟨_, rfl, zmv Tryd.underlying27 rfl vq (HF.on E).here.2 rfl⟩, trivial⟩ ?_));exact ⟨_, _, rfl, ⟨(HF.on E).here.1.1.2, (HF.on E).here.1.2⟩, GLb3, GLb5, (LW.step E XLW).toBelow⟩
end Go.Proofs.YtppdgjlmeahimaaDoor

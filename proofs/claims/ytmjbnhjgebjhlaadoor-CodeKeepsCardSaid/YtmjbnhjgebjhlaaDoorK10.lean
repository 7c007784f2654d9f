/- Texts of this claim. -/
import Derived.Test.YtmjbnhjgebjhlaaDoorK9
import Derived.Test.YtmjbnhjgebjhlaaDoorProg
import Derived.Lib.ConvBytes
import Derived.Lib.SmallJoins
namespace Go.Proofs.YtmjbnhjgebjhlaaDoor
open Go.RowKit
set_option maxRecDepth 100000
def LoopW (P : Program) (c : Code) (Q : Exit → Act → World → Prop) (a : Act) (w : World) : Prop := ∀ b k cs, ∃ e a' w', Q e a' w' ∧ Arrives P (lone (b.at a (.inLoop c :: k)) cs w) b k cs e a' w'
theorem loopW_of {P : Program} {c : Code} {Q : Exit → Act → World → Prop} {a : Act} {w : World} (h : c.wp P (Exit.then (LoopW P c Q) Q) a w) (b : Frame) (k : List Item) (cs : List Frame) :
 ∃ e a' w', Q e a' w' ∧ Arrives P (lone (b.at a (.code c :: .inLoop c :: k)) cs w) b k cs e a' w' := by
 obtain ⟨e, a₁, w₁, hq, harr⟩ := h b (.inLoop c :: k) cs;cases e with
 | normal =>
  obtain ⟨e₂, a₂, w₂, hq₂, harr₂⟩ := hq b k cs;exact ⟨e₂, a₂, w₂, hq₂, .of_steps harr harr₂⟩
 | exit id => exact ⟨_, a₁, w₁, hq, .pass (x := .inLoop c) rfl (fun _ _ => .inl (by simp)) harr⟩
 | goto l => exact ⟨_, a₁, w₁, hq, .pass (x := .inLoop c) rfl (fun _ _ => .inl (by simp)) harr⟩
 | ret => exact ⟨_, a₁, w₁, hq, .pass (x := .inLoop c) rfl (fun _ _ => .inl (by simp)) harr⟩
 | panic ch => exact ⟨_, a₁, w₁, hq, .pass (x := .inLoop c) rfl (fun _ _ => .inl (by simp)) harr⟩
 | outgrown => exact ⟨_, a₁, w₁, hq, .pass (x := .inLoop c) rfl (fun _ _ => .inl (by simp)) harr⟩
section
variable {P : Program} {N : Nat} {ops : Array Oper} {Q : Exit → Act → World → Prop} {σ : Env} {w : World} {ty : TypeId} {pos : String} {af : Array Edge} {dst : Option Nat} {Post : Value → World → Prop}
theorem cw_unroll {c : Code} (h : CW P N c (Exit.then (LoopW P c Q) Q) σ w) : CW P N (.loop c) Q σ w := fun a ha b k cs => by
 obtain ⟨e, a', w', hq, harr⟩ := loopW_of (h a ha) b k cs;exact ⟨e, a', w', hq, .of_steps (.one step_loop) harr⟩
/-! ### floating-point numbers -/
theorem ow_fV {op : BinOp} {T U : TypeId} {x y : Operand} {m n z : Nat} (ho : op = .add ∨ op = .sub ∨ op = .mul ∨ op = .quo) (hx : ev σ x = some (.float .f64 m)) (hy : ev σ y = some (.float .f64 n)) (hz : fop op m n = some z)
 (k : Post (.float .f64 z) w) : OW P N ops Q ⟨dst, .binOp op T x y U, ty, pos, af, none⟩ σ w Post :=
 ow_float ho hx hy (fun r w' h => by
  rcases h with ⟨h1, rfl⟩ | ⟨h1, _⟩
  · rw [hz] at h1; cases h1; exact k
  · rw [hz] at h1; cases h1)
/-! ### functions that the model gives itself -/
theorem run_f64bits (b : Nat) (w : World) : (Extern.MathFloatBits.float64bits #[.float .f64 b]).run P w = .ok (.int .u64 ((b : Nat) : Int)) w := rfl
theorem run_frombits (b : Nat) (w : World) : (Extern.MathFloatBits.float64frombits #[.int .u64 ((b : Nat) : Int)]).run P w = .ok (.float .f64 b) w := rfl
theorem ow_bits {f : FuncId} {ts : Array TypeId} {x : Operand} {b : Nat} (hf : Ext_ P f Extern.MathFloatBits.float64bits) (hx : ev σ x = some (.float .f64 b)) (k : Post (.int .u64 ((b : Nat) : Int)) w) : OW P N ops Q ⟨dst, .call ⟨.value (.func f), #[x], ts⟩, ty, pos, af, none⟩ σ w Post :=
 ow_ext (xs := [x]) (args := [.float .f64 b]) hf (by simp [evs, hx]) (run_f64bits b w) k
theorem jh {f : FuncId} {ts : Array TypeId} {x : Operand} {b : Nat} (hf : Ext_ P f Extern.MathFloatBits.float64frombits) (hx : ev σ x = some (.int .u64 ((b : Nat) : Int))) (k : Post (.float .f64 b) w) : OW P N ops Q ⟨dst, .call ⟨.value (.func f), #[x], ts⟩, ty, pos, af, none⟩ σ w Post :=
 ow_ext (xs := [x]) (args := [.int .u64 ((b : Nat) : Int)]) hf (by simp [evs, hx]) (run_frombits b w) k
def fround (way : Ieee.Toward) (b : Nat) : Nat := FloatKind.f64.encode ((FloatKind.f64.decode b).integral way)
/-! ### strings that are written out -/
theorem bytes_list (a : Array UInt8) : (⟨a⟩ : ByteArray).toList = a.toList := by rw [ByteArray.toList_eq]
theorem ow_min {x y : Operand} {t1 t2 : TypeId} {q q2 : IntKind} {m n : Int} (hx : ev σ x = some (.int q m)) (hy : ev σ y = some (.int q2 n))
 (k : Post (.int q (if n < m then n else m)) w) : OW P N ops Q ⟨dst, .call ⟨.builtin .min, #[x, y], #[t1, t2]⟩, ty, pos, af, none⟩ σ w Post :=
 qb (fun ρ ha => by simp [execOp, resolve, invoke, builtin, Builtin.min_, Builtin.min2, ha hx, ha hy, go_sem]) k
theorem yh {x i : Operand} {T : TypeId} {s : ByteArray} {q : IntKind} {m : Int} {j : Nat} {b : Nat} (hd : P.underlying T = some .string) (hx : ev σ x = some (.string s)) (hi : ev σ i = some (.int q m)) (hm : m = (j : Int)) (hb : (s.data[j]?).map (·.toNat) = some b)
 (k : Post (.int .u8 (b : Int)) w) : OW P N ops Q ⟨dst, .index T x i, ty, pos, af, none⟩ σ w Post := by
 obtain ⟨c, h1, rfl⟩ := Option.map_eq_some_iff.1 hb;exact gj hd hx hi hm (show s[j]? = some c by
  have h2 : s[j]? = s.data[j]? := rfl;rw [h2, h1]) k
theorem xm {x i : Operand} {T e : TypeId} {g o n s : Nat} {q : IntKind} {m : Int} {j : Nat} (hd : P.underlying T = some (.array n e)) (hs : qj P e s) (hx : ev σ x = some (.pointer (some ⟨g, o, none⟩))) (hi : ev σ i = some (.int q m)) (hm : m = (j : Int)) (hj : j < n)
 (k : Post (.pointer (some ⟨g, o + j * s, none⟩)) w) : OW P N ops Q ⟨dst, .indexAddr T x i, ty, pos, af, none⟩ σ w Post :=
 qb (fun ρ ha => by
  subst hm;have h1 : ¬ n ≤ j := by omega
  simp [execOp, ha hx, ha hi, Instr.indexAt, Instr.sureAddr, asIntOf, run_underlying hd, jk hs, h1, hj, Addr.add_eq, go_sem]) k
/-! ### an error that is none -/
theorem run_equalN {T : TypeId} {ms : Array (String × TypeId)} (hd : P.underlying T = some (.interface ms)) : (Op.equal T .nilIface .nilIface).run P w = .ok true w := by
 have e : Op.maxDepth = 9999 + 1 := rfl;have key : ∀ d : Nat, (Op.equalIn (d + 1) T .nilIface .nilIface).run P w = .ok true w := by
  intro d;rw [Op.equalIn];simp only [Sem.run_bind, run_underlying hd, Result.andThen_ok]
  rfl
 unfold Op.equal;rw [e];exact key 9999
theorem ow_neqN {T U : TypeId} {x : Operand} {ms : Array (String × TypeId)} (hd : P.underlying T = some (.interface ms)) (hx : ev σ x = some .nilIface) (k : Post (.bool false) w) : OW P N ops Q ⟨dst, .binOp .neq T x (.const .nilIface) U, ty, pos, af, none⟩ σ w Post :=
 qb (fun ρ ha => by
  have e := run_equalN (P := P) (w := w) hd;have hc : ρ (.const .nilIface) = .nilIface := ha rfl;simp only [execOp, ha hx, hc, eqGuard, binOp]
  simp [e, go_sem]) k
def RowL (w : World) (g : Nat) (xs : List Value) : Prop := ∀ j v, xs[j]? = some v → w.cell? ⟨g, j, none⟩ = some v
end
abbrev Gives (f : FuncId) (args : Array Value) (v : Value) : Prop := ∀ w, Calls Tryd.prog f args w fun e w' => e = .returned v ∧ Below w.heap.size w w'
section
variable {P : Program} {N : Nat} {Q : Exit → Act → World → Prop} {σ : Env} {w : World} {l : List Oper}
def trL (k n : Nat) : Array Bool := (List.replicate k true ++ List.replicate (n - k) false).toArray
def AK (P : Program) (N k : Nat) (l : List Oper) (Q : Exit → Act → World → Prop) (σ : Env) (w : World) : Prop := ∀ a, At N σ a → wpAny P .any l.toArray Q (l.length - k) (trL k l.length) a w
theorem cw_any {id : Nat} (hm : P.follows .mixedOrders = true) (h : AK P N 0 l Q σ w.drew) : CW P N (.region id l.toArray true) Q σ w := fun a ha => by
 refine wp_region_any hm ?_;have := h a ha;unfold trL at this;simpa using this
theorem trL_get {k n j : Nat} {d : Bool} (hj : j < n) (hk : k ≤ n) : (trL k n).getD j d = decide (j < k) := by
 unfold trL;by_cases h : j < k
 · simp [Array.getD_eq_getD_getElem?, List.getElem?_append, h]
 · have h2 : j - k < n - k := by omega
   simp [Array.getD_eq_getD_getElem?, List.getElem?_append, h, List.getElem?_replicate, h2]
theorem trL_set {k n : Nat} (h : k < n) : (trL k n).setIfInBounds k true = trL (k + 1) n := by
 unfold trL;apply Array.toList_inj.1
 rw [Array.toList_setIfInBounds];have e : n - k = (n - (k + 1)) + 1 := by omega
 rw [e, List.replicate_succ, List.replicate_succ', List.append_assoc];simp
def quiet (o : Oper) : Bool := match o.guard with
 | some _ => false
 | none => match o.op with
  | .move _ => true
  | .assign _ => true
  | .extract _ _ => true
  | _ => false
theorem quiet_yields {ops : Array Oper} {o : Oper} {a : Act} {w : World} {K : Act → World → Prop} (hq : quiet o = true) (h : o.wp P a w K Q ∨ (o.asks P a w ∧ LetsOut Q)) : ∃ v, Yields P ops o v a ∧ K (a.put o.dst v) w := by
 obtain ⟨dst, op, type, pos, after, guard⟩ := o;cases guard with
 | some g => simp [quiet] at hq
 | none =>
  cases op <;> first | (simp [quiet] at hq; done) | skip
  case move x =>
   refine ⟨a.eval x, .inl ⟨by simp [Region.wanted], fun w => by simp [execOp, go_sem]⟩, ?_⟩;rcases h with h | ⟨h, _⟩
   · simpa [Oper.wp, execOp, go_sem, Oper.upon] using h
   · exact absurd h (by simp [Oper.asks, execOp, Sem.runT, Sem.events, pure, bind])
  case assign x =>
   refine ⟨a.eval x, .inl ⟨by simp [Region.wanted], fun w => by simp [execOp, go_sem]⟩, ?_⟩;rcases h with h | ⟨h, _⟩
   · simpa [Oper.wp, execOp, go_sem, Oper.upon] using h
   · exact absurd h (by simp [Oper.asks, execOp, Sem.runT, Sem.events, pure, bind])
  case extract x i =>
   rcases h with h | ⟨h, _⟩
   · unfold Oper.wp at h;simp only [execOp, Instr.extract] at h
     split at h
     · rename_i vs hx
       split at h
       · rename_i v hv
         refine ⟨v, .inl ⟨by simp [Region.wanted], fun w => by simp only [execOp, hx, Instr.extract, hv]; rfl⟩, ?_⟩;simpa [go_sem, Oper.upon] using h
       · simp [go_sem, Oper.upon, stuck] at h
     · simp [go_sem, Oper.upon, stuck] at h
   · exfalso
     unfold Oper.asks at h;simp only [execOp, Instr.extract] at h
     split at h
     · split at h
       · simp [Sem.runT, Sem.events, Sem.bind, pure, bind] at h
       · simp [Sem.runT, Sem.events, Sem.bind, pure, bind, stuck] at h
     · simp [Sem.runT, Sem.events, Sem.bind, pure, bind, stuck] at h
def yiv (l : List Oper) : Nat → Nat → Bool
 | _, 0 => true
 | k, m + 1 => (match Region.ready .any l.toArray (trL k l.length) with
  | [] => false
  | [j] => Nat.beq j k
  | r => oj k r && (match l.toArray[k]? with
   | some o => quiet o
   | none => false) && Region.free .any l.toArray (trL k l.length) k) && yiv l (k + 1) m
theorem any_of_list (hn : Region.noSelect l.toArray = true) (hQ : ∀ c (a : Act) d v w, Q (.panic c) (a.put d v) w → Q (.panic c) a w) :
 ∀ (m k : Nat), k + m = l.length → yiv l k m = true → ∀ a w, wpList P l.toArray Q (l.drop k) a w → wpAny P .any l.toArray Q m (trL k l.length) a w := by
 intro m;induction m with
 | zero =>
  intro k hk _ a w h;have hk : k = l.length := by omega
  subst hk;rw [List.drop_length] at h;refine ⟨List.eq_nil_iff_forall_not_mem.2 fun j hj => ?_, h⟩;obtain ⟨h0, o, ho, _⟩ := mem_ready.1 hj;have hlt : j < l.length := by simpa using (Array.getElem?_eq_some_iff.1 ho).1
  rw [trL_get hlt (Nat.le_refl _)] at h0;simp [hlt] at h0
 | succ m ih =>
  intro k hk hs a w h;have hkl : k < l.length := by omega
  simp only [yiv, Bool.and_eq_true] at hs
  rw [List.drop_eq_getElem_cons hkl] at h;have hok : l.toArray[k]? = some l[k] := by simp [hkl]
  have hnext := fun a w h => ih (k + 1) (by omega) hs.2 a w h;rw [← trL_set hkl] at hnext;have hone : wpOp P l.toArray Q k (wpAny P .any l.toArray Q m ((trL k l.length).setIfInBounds k true)) a w := by
   unfold wpOp;rw [hok];simp only []
   unfold wpList at h;split
   · rename_i hw
     rw [if_pos hw] at h;exact h.imp (Oper.wp_mono hnext) id
   · rename_i hw
     rw [if_neg hw] at h;exact hnext _ _ h
  have h1 := hs.1;split at h1
  · cases h1
  · rename_i j hr
    have hj : j = k := Nat.eq_of_beq_eq_true h1;subst hj;exact wpAny_all hr (by simp) fun i hi => by rw [List.mem_singleton.1 hi]; exact hone
  · rename_i hr hr1
    rw [hok] at h1;simp only [Bool.and_eq_true] at h1
    have hq := h1.1.2;unfold wpList at h;have hg : Region.wanted l[k] (yielded l.toArray a.tmps) = true := by
     unfold quiet at hq;split at hq
     · cases hq
     · rename_i hg; simp [Region.wanted, hg]
    rw [if_pos hg] at h;obtain ⟨v, hy, hv⟩ := quiet_yields (ops := l.toArray) hq h;exact wpAny_take hok hn h1.2 (by simpa using ve.1 h1.1.1) (fun c a w h => hQ c a _ _ w h) hy (hnext _ _ hv)
theorem ak_of_rs {k : Nat} (hs : (yiv l k (l.length - k) && Region.noSelect l.toArray && Nat.ble k l.length) = true) (hQ : ∀ c (a : Act) d v w, Q (.panic c) (a.put d v) w → Q (.panic c) a w)
 (h : RS P N l.toArray Q (l.drop k) σ w) : AK P N k l Q σ w := fun a ha => by
 simp only [Bool.and_eq_true] at hs
 have := Nat.le_of_ble_eq_true hs.2;exact any_of_list hs.1.2 hQ _ k (by omega) hs.1.1 a w (h a ha)
def covers (ops : Array Oper) : Nat → List Nat → Bool
 | 0, _ => true
 | j + 1, S => oj j S && covers ops j (S ++ qw ops j)
def gateOK (l : List Oper) (m : Nat) : Bool := Nat.ble m l.length && xr 0 (l.take m) [] && ((l.take m).all fun o => match o.guard with
 | some (g, _) => Nat.blt g m
 | none => true) && (List.range (l.length - m)).all fun t => (qw l.toArray (m + t)).any (fun d => Nat.ble m d) || covers l.toArray m (qw l.toArray (m + t))
theorem covers_all {ops : Array Oper} {L : Nat → Prop} (hd : ∀ i, L i → ∀ j ∈ qw ops i, L j) : ∀ (m : Nat) (S : List Nat), covers ops m S = true → (∀ j ∈ S, L j) → ∀ j, j < m → L j := by
 intro m;induction m with
 | zero => intro S _ _ j hj; omega
 | succ m ih =>
  intro S hc hS j hj;simp only [covers, Bool.and_eq_true] at hc
  have hm := hS m (ve.1 hc.1);rcases Nat.lt_or_ge j m with h | h
  · refine ih _ hc.2 (fun j hj => ?_) j h;rcases List.mem_append.1 hj with h | h
    · exact hS j h
    · exact hd m hm j h
  · have : j = m := by omega
    subst this; exact hm
theorem upon_then {o : Oper} {a : Act} {K K' Z : Act → World → Prop} (h : ∀ a w, K a w → K' a w) : ∀ {r : Result Next}, o.upon P a K (Exit.then Z Q) r → o.upon P a K' Q r := by
 intro r hh;cases r with
 | ok n w' =>
  cases n <;> simp only [Oper.upon] at hh ⊢ <;>
   first
    | exact h _ _ hh
    | exact Calls.mono hh (fun e w'' he => by cases e <;> first | exact h _ _ he | exact he)
    | exact Rows.mono hh (fun _ _ he => h _ _ he)
    | exact hh
 | halt x w' => cases x <;> simp only [Oper.upon] at hh ⊢ <;> exact hh
end
section
variable {P : Program} {N : Nat} {Q : Exit → Act → World → Prop} {σ : Env} {l : List Oper}
theorem aw_drawn {w : World} (Y : Nat → Prop) (hY : ∀ k, Y k → k < w.heap.size) (bs : List Bx) (os : List Ox) (F : Nat → Fx) (hok : (xr 0 l [] && bxOK bs && bxWF l bs bs && dstOK N l && oxOK bs os) = true) (hos : zhk Y w os) (hin : ∀ o ∈ os, l[o.st]? ≠ none)
 (hsteps : yax P N l.toArray Q σ bs os F w 0 l)
 (hend : ∀ vs w', Ext (Mut (xq os)) w w' → AllOut σ l.toArray vs w' os → yaz Y bs F vs w' 0 l → zfx P σ l.toArray vs w w' bs → zmz vs bs → EW N Q .normal (envEnd σ l vs) w') : AK P N 0 l Q σ w := by
 simp only [Bool.and_eq_true] at hok
 obtain ⟨⟨⟨⟨hrow, hbx⟩, hwf⟩, hdl⟩, hox⟩ := hok;have hoat : ∀ {r : List Ox}, zhk Y w r → ∀ o ∈ r, Y o.g ∧ Blk w o.g o.T o.cs := by
  intro r;induction r with
  | nil => intro _ o ho; cases ho
  | cons x r ih =>
   intro h o ho;rcases List.mem_cons.1 ho with rfl | ho
   · exact ⟨h.1.1, h.1.2.1⟩
   · exact ih h.2 o ho
 have hopw : ∀ {r : List Ox}, zhk Y w r → oxOK bs r = true → ∀ a ∈ r, ∀ b ∈ r, a ≠ b → a.g ≠ b.g ∧ a.st ≠ b.st := by
  intro r;induction r with
  | nil => intro _ _ a ha; cases ha
  | cons x r ih =>
   intro h hk a ha b hb hab;simp only [oxOK, Bool.and_eq_true, List.all_eq_true, Bool.not_eq_true'] at hk
   rcases List.mem_cons.1 ha with rfl | ha'
   · rcases List.mem_cons.1 hb with rfl | hb'
     · exact absurd rfl hab
     · exact ⟨h.1.2.2 b hb', fun e => by have := hk.1.2 b hb'; rw [e] at this; simp at this⟩
   · rcases List.mem_cons.1 hb with rfl | hb'
     · exact ⟨fun e => h.1.2.2 a ha' e.symm, fun e => by have := hk.1.2 a ha'; rw [e] at this; simp at this⟩
     · exact ih h.2 hk.2 a ha' b hb' hab
 have hos1 : ∀ {r : List Ox}, oxOK bs r = true → ∀ o ∈ r, kz bs o.st = none ∧ ka bs o.st = none := by
  intro r;induction r with
  | nil => intro _ o ho; cases ho
  | cons x r ih =>
   intro hk o ho;simp only [oxOK, Bool.and_eq_true] at hk
   rcases List.mem_cons.1 ho with rfl | ho
   · exact ⟨by simpa using hk.1.1.1, by simpa using hk.1.1.2⟩
   · exact ih hk.2 o ho
 intro a ha;rw [show trL 0 l.length = Array.replicate l.toArray.size false by simp [trL]];have m0 : Mid P N Y l σ w bs os F (Array.replicate l.toArray.size false) a w (fun _ => undef) Y := by
  have hno : ∀ i, ¬ Ran (Array.replicate l.toArray.size false) i := fun i h => by
   unfold Ran at h;by_cases hi : i < l.length <;> simp [hi] at h
  exact ⟨by simp, ha.defers, ha.size, fun t v h => ha.get t v (zbz h).1, fun i d h => absurd h (hno i), fun i d v _ _ h => ha.get d v h, fun i h => absurd h (hno i), Ext.refl _ _, hY, fun _ h => h, hY,
   fun i h => absurd h (hno i), fun b _ h => absurd h (hno _), fun o ho => ⟨fun _ => (hoat hos o ho).2, fun h => absurd h (hno _)⟩, fun o ho => (hoat hos o ho).1, fun b _ c _ h => absurd h (hno _)⟩
 refine wpAny_mid (l := l) hrow hbx hwf (zyv hdl) (fun o ho h => by rw [(hos1 hox o ho).1] at h; cases h) (fun o ho h => by rw [(hos1 hox o ho).2] at h; cases h) (hopw hos hox) hsteps ?_ _ _ _ _ _ _ ?_ m0
 · intro listed a w' vs X hall m;have hlen : ∀ i (o : Oper), l[i]? = some o → Ran listed i := fun i o h => hall i (List.getElem?_eq_some_iff.1 h).1;refine hend vs w' m.ext ?_ ?_ ?_ ?_ a ?_
   · have hst : ∀ o ∈ os, l[o.st]? ≠ none → Ran listed o.st := fun o _ h => hall _ (by
      rcases Nat.lt_or_ge o.st l.length with h1 | h1
      · exact h1
      · exact absurd (List.getElem?_eq_none h1) h)
     have key : ∀ r : List Ox, (∀ b ∈ r, b ∈ os) → AllOut σ l.toArray vs w' r := by
      intro r;induction r with
      | nil => intro _; trivial
      | cons b r ih =>
       intro hr;refine ⟨?_, ih fun c hc => hr c (List.mem_cons.2 (Or.inr hc))⟩;have hb := hr b (List.mem_cons.2 (Or.inl rfl));exact (m.outs b hb).2 (hst b hb (hin b hb))
     exact key os (fun _ h => h)
   · have key : ∀ (r : List Oper) (k : Nat), (∀ (i : Nat) (o : Oper), r[i]? = some o → l[k + i]? = some o) → yaz Y bs F vs w' k r := by
      intro r;induction r with
      | nil => intro k _; trivial
      | cons o r ih =>
       intro k hk;refine ⟨?_, ih (k + 1) (fun i o' h => by have := hk (i + 1) o' (by simpa using h); rwa [show k + (i + 1) = k + 1 + i by omega] at this)⟩;split
       · rename_i hb hf
         exact (m.facts k (hlen k o (by simpa using hk 0 o rfl)) hb hf).less m.outer
       · trivial
     exact key l 0 (fun i o h => by simpa using h)
   · have key : ∀ r : List Bx, (∀ b ∈ r, b ∈ bs) → zfx P σ l.toArray vs w w' r := by
      intro r;induction r with
      | nil => intro _; trivial
      | cons b r ih =>
       intro hr;refine ⟨?_, ih fun c hc => hr c (List.mem_cons.2 (Or.inr hc))⟩;have hb := hr b (List.mem_cons.2 (Or.inl rfl));obtain ⟨w1, w2⟩ := zqx hwf hb;have hst : Ran listed b.st := by
        unfold qw at w1;split at w1
        · rename_i o ho; exact hlen b.st o (by simpa using ho)
        · cases w1
       obtain ⟨g, cs, h1, h2, h20, h3, _, h5⟩ := m.boxes b hb (m.down _ hst _ w1);obtain ⟨v, y, rfl, h6, h7⟩ := h5 hst;exact ⟨g, v, y, h1, h20, h3, h6, h7⟩
     exact key bs (fun _ h => h)
   · have key : ∀ r : List Bx, (∀ b ∈ r, b ∈ bs) → bxOK r = true → zmz vs r := by
      intro r;induction r with
      | nil => intro _ _; trivial
      | cons b r ih =>
       intro hr hok;have hok' := hok;simp only [bxOK, Bool.and_eq_true, List.all_eq_true, Bool.not_eq_true'] at hok
       refine ⟨fun c hc => ?_, ih (fun c hc => hr c (List.mem_cons.2 (Or.inr hc))) hok.2⟩;have hb := hr b (List.mem_cons.2 (Or.inl rfl));have hc' := hr c (List.mem_cons.2 (Or.inr hc));have hran : ∀ b ∈ bs, Ran listed b.at_ := by
        intro b hb;obtain ⟨w1, w2⟩ := zqx hwf hb;have hst : Ran listed b.st := by
         unfold qw at w1;split at w1
         · rename_i o ho; exact hlen b.st o (by simpa using ho)
         · cases w1
        exact m.down _ hst _ w1
       refine m.apart b hb c hc' (hran b hb) (hran c hc') (fun e => ?_);have := (hok.1 c hc).1;rw [e] at this;simp at this
     exact key bs (fun _ h => h) hbx
   · refine ⟨m.defers, m.tmps, fun t v h => ?_⟩;rcases gm h with h | h
     · obtain ⟨j, _, hjd, rfl⟩ := zbx h;obtain ⟨o, ho, _⟩ := zkk hjd;exact m.ran j t (hlen j o ho) hjd
     · exact m.kept t v h
 · simp
end
section
variable {P : Program} {N : Nat} {Q : Exit → Act → World → Prop} {σ : Env} {w : World} {l : List Oper}
theorem any_prefix {m : Nat} (hg : gateOK l m = true) : ∀ (f : Nat) (ls : List Bool) (a : Act) (w : World), ls.length = m → ls.count false = f →
 (∀ i, Ran ls.toArray i → ∀ j ∈ qw l.toArray i, Ran ls.toArray j) →
 wpAny P .any (l.take m).toArray (Exit.then (fun a w => wpAny P .any l.toArray Q (l.length - m) (trL m l.length) a w) Q) f ls.toArray a w →
 wpAny P .any l.toArray Q (f + (l.length - m)) (ls ++ List.replicate (l.length - m) false).toArray a w := by
 unfold gateOK at hg;simp only [Bool.and_eq_true] at hg
 obtain ⟨⟨⟨hml, hrow⟩, hgd⟩, hcov⟩ := hg;have hml := Nat.le_of_ble_eq_true hml;have htk : ∀ i, i < m → (l.take m).toArray[i]? = l.toArray[i]? := fun i hi => by simp [List.getElem?_take, hi]
 have hget : ∀ (ls : List Bool) (i : Nat) (d : Bool), ls.length = m → i < m → (ls ++ List.replicate (l.length - m) false).toArray.getD i d = ls.toArray.getD i d := by
  intro ls i d hl hi;simp [Array.getD_eq_getD_getElem?, List.getElem?_append, hl, hi]
 have hget2 : ∀ (ls : List Bool) (i : Nat), ls.length = m → m ≤ i → (ls ++ List.replicate (l.length - m) false).toArray.getD i false = false := by
  intro ls i hl hi;have hni : ¬ i < m := by omega
  simp only [Array.getD_eq_getD_getElem?, List.getElem?_toArray, List.getElem?_append, hl, hni, if_false, List.getElem?_replicate]
  split <;> rfl
 have hfull : ∀ ls : List Bool, ls.length = m → (∀ i, i < m → Ran ls.toArray i) → ls.count false = 0 := by
  intro ls hl h;refine List.count_eq_zero.2 fun hf => ?_;obtain ⟨i, hi, he⟩ := List.getElem_of_mem hf;have := h i (by omega);unfold Ran at this;simp [hi, he] at this
 intro f;induction f with
 | zero =>
  intro ls a w hl hc hd h;have hall : ls = List.replicate m true := by
   refine List.eq_replicate_iff.2 ⟨hl, fun b hb => ?_⟩;cases b with
   | true => rfl
   | false => exact absurd hb (List.count_eq_zero.1 hc)
  have h2 := h.2;rw [Nat.zero_add, hall];exact h2
 | succ f ih =>
  intro ls a w hl hc hd h;rw [Nat.succ_add];refine ⟨fun hr => ?_, fun i hi => ?_⟩
  · exfalso
    have hall : ∀ i, i < m → Ran ls.toArray i := by
     intro i;induction i using Nat.strongRecOn with
     | _ i ihi =>
      intro him;rcases Classical.em (Ran ls.toArray i) with h' | h'
      · exact h'
      · exfalso
        have : i ∈ Region.ready .any l.toArray (ls ++ List.replicate (l.length - m) false).toArray := by
         have hil : i < l.length := by omega
         refine mem_ready.2 ⟨?_, l[i], by simp [hil], fun e he hb => ?_⟩
         · rw [hget ls i true hl him];unfold Ran at h';have : i < ls.length := by omega
           simp [this] at h' ⊢
           exact h'
         · have hlt := (kx hrow (i := i) (o := l[i]) (by simp [List.getElem?_take, him, hil])).1 e.on (zez (by simpa using he) hb);have hei : e.on < i := by omega
           rw [hget ls e.on false hl (by omega)];exact ihi e.on hei (by omega)
        rw [hr] at this;cases this
    have := hfull ls hl hall;omega
  · obtain ⟨h0, o, ho, hdep⟩ := mem_ready.1 hi;rcases Nat.lt_or_ge i m with him | him
    · have hdl : ∀ j ∈ qw l.toArray i, Ran ls.toArray j := by
       intro j hj;have ho' : l[i]? = some o := by simpa using ho
       unfold qw at hj;rw [ho] at hj;obtain ⟨e, he, hb, rfl⟩ := oa hj;have hlt := (kx hrow (i := i) (o := o) (by simp [List.getElem?_take, him, ho'])).1 e.on (zez he hb);have := hdep e (by simpa using he) hb;rwa [hget ls e.on false hl (by omega)] at this
      rw [hget ls i true hl him] at h0;have hi1 : i ∈ Region.ready .any (l.take m).toArray ls.toArray := by
       refine mem_ready.2 ⟨h0, o, by rw [htk i him]; exact ho, fun e he hb => ?_⟩;refine hdl e.on ?_;unfold qw;rw [ho];exact zez (by simpa using he) hb
      have h1 := h.2 i hi1;have hset : ((ls ++ List.replicate (l.length - m) false).toArray.setIfInBounds i true) = (ls.set i true ++ List.replicate (l.length - m) false).toArray := by
       apply Array.toList_inj.1
       rw [Array.toList_setIfInBounds];simp [List.set_append, hl, him]
      have hset1 : ls.toArray.setIfInBounds i true = (ls.set i true).toArray := by
       apply Array.toList_inj.1
       rw [Array.toList_setIfInBounds]
      rw [hset1] at h1;rw [hset];have hlsi : ls[i]? = some false := by
       have hil : i < ls.length := by omega
       have e : ls[i] = false := by simpa [hil] using h0
       simp [hil, e]
      have hK : ∀ a w, wpAny P .any (l.take m).toArray (Exit.then (fun a w => wpAny P .any l.toArray Q (l.length - m) (trL m l.length) a w) Q) f (ls.set i true).toArray a w →
       wpAny P .any l.toArray Q (f + (l.length - m)) (ls.set i true ++ List.replicate (l.length - m) false).toArray a w := by
       intro a w h;refine ih (ls.set i true) a w (by simpa using hl) (by have := zpk ls i hlsi; omega) ?_ h;have hup : ∀ j, Ran ls.toArray j → Ran (ls.set i true).toArray j := by
        intro j hj;unfold Ran at hj ⊢;rw [← hset1];exact getD_set_true hj
       intro j hj k hk;rcases Classical.em (j = i) with rfl | hji
       · exact hup k (hdl k hk)
       · refine hup k (hd j ?_ k hk);unfold Ran at hj ⊢;rw [← hset1, getD_set_ne false (Ne.symm hji)] at hj;exact hj
      unfold wpOp at h1 ⊢;rw [htk i him, ho] at h1;rw [ho];simp only [] at h1 ⊢
      have hy : Region.wanted o (yielded (l.take m).toArray a.tmps) = Region.wanted o (yielded l.toArray a.tmps) := by
       unfold Region.wanted;cases hgo : o.guard with
       | none => rfl
       | some gw =>
        obtain ⟨g, want⟩ := gw;have hmem : o ∈ l.take m := by
         have ho' : l[i]? = some o := by simpa using ho
         exact List.mem_of_getElem? (i := i) (by simp [List.getElem?_take, him, ho'])
        have := (List.all_eq_true.1 hgd) o hmem;rw [hgo] at this;have hgm : g < m := Nat.le_of_ble_eq_true this;simp only [yielded, htk g hgm]
      rw [← hy];split
      · rename_i hw
        rw [if_pos hw] at h1;rcases h1 with h1 | ⟨h1, h2⟩
        · exact .inl (upon_then hK h1)
        · exact .inr ⟨h1, h2⟩
      · rename_i hw
        rw [if_neg hw] at h1;exact hK _ _ h1
    · exfalso
      have hil : i < l.length := by simpa using (Array.getElem?_eq_some_iff.1 ho).1
      have hdl : ∀ j ∈ qw l.toArray i, (ls ++ List.replicate (l.length - m) false).toArray.getD j false = true := by
       intro j hj;unfold qw at hj;rw [ho] at hj;obtain ⟨e, he, hb, rfl⟩ := oa hj;exact hdep e (by simpa using he) hb
      have hc2 := (List.all_eq_true.1 hcov) (i - m) (List.mem_range.2 (by omega));rw [show m + (i - m) = i by omega, Bool.or_eq_true] at hc2;rcases hc2 with hc2 | hc2
      · obtain ⟨j, hj, hmj⟩ := List.any_eq_true.1 hc2;have := hdl j hj;rw [hget2 ls j hl (Nat.le_of_ble_eq_true hmj)] at this;cases this
      · have hall := covers_all (L := fun j => (Ran ls.toArray j)) hd m _ hc2 (fun j hj => by
         have := hdl j hj;rcases Nat.lt_or_ge j m with h' | h'
         · rwa [hget ls j false hl h'] at this
         · rw [hget2 ls j hl h'] at this; cases this)
        have := hfull ls hl hall;omega
theorem ak_cut (m : Nat) (hg : gateOK l m = true) (h : AK P N 0 (l.take m) (Exit.then (fun a w => wpAny P .any l.toArray Q (l.length - m) (trL m l.length) a w) Q) σ w) : AK P N 0 l Q σ w := fun a ha => by
 have hml : m ≤ l.length := by
  unfold gateOK at hg;simp only [Bool.and_eq_true] at hg
  exact Nat.le_of_ble_eq_true hg.1.1.1
 have hlen : (l.take m).length = m := by simp [hml]
 have h1 := h a ha;have := any_prefix hg m (List.replicate m false) a w (by simp) (by simp) (fun i hi => by
  unfold Ran at hi;by_cases h' : i < m <;> simp [h'] at hi) (by
   unfold trL at h1;rw [hlen] at h1;simpa [trL] using h1)
 rw [List.replicate_append_replicate] at this;have e : m + (l.length - m) = l.length := by omega
 rw [e] at this;unfold trL;simpa using this
theorem ew_ak {m : Nat} (h : AK P N m l Q σ w) : EW N (Exit.then (fun a w => wpAny P .any l.toArray Q (l.length - m) (trL m l.length) a w) Q) .normal σ w := fun a ha => h a ha
end
section
variable {P : Program} {N : Nat} {ops : Array Oper} {Q : Exit → Act → World → Prop} {σ : Env} {w : World} {ty : TypeId} {pos : String} {af : Array Edge} {dst : Option Nat} {Post : Value → World → Prop}
theorem ow_sliceH {T e : TypeId} {x y : Operand} {g n c s h : Nat} {q : IntKind} {m : Int} (hd : P.underlying T = some (.slice e)) (hs : qj P e s) (hx : ev σ x = some (.slice (some ⟨g, 0, none⟩) n c)) (hy : ev σ y = some (.int q m)) (hm : m = (h : Int)) (hc : h ≤ c)
 (k : Post (.slice (some ⟨g, 0, none⟩) h c) w) : OW P N ops Q ⟨dst, .slice T x none (some y) none, ty, pos, af, none⟩ σ w Post :=
 ow_slice (l := 0) (h := h) hd hs hx rfl ⟨q, by rw [hy, hm]⟩ (Nat.zero_le _) hc (by
  rw [Nat.sub_zero, Nat.sub_zero, Nat.zero_mul];split
  · exact k
  · exact k)
end
section
variable {P : Program} {N : Nat} {ops : Array Oper} {Q : Exit → Act → World → Prop} {σ : Env} {w : World} {ty : TypeId} {pos : String} {af : Array Edge} {dst : Option Nat} {Post : Value → World → Prop}
theorem ow_i2f {T U : TypeId} {x : Operand} {n : Int} {q : IntKind} (hd : P.underlying U = some (.float .f64)) (hs : (P.underlying T).isSome = true) (hx : ev σ x = some (.int q n)) (k : Post (.float .f64 (FloatKind.f64.nearest n)) w) : OW P N ops Q ⟨dst, .convert T U x, ty, pos, af, none⟩ σ w Post :=
 qb (fun ρ ha => by
  have h : (convert T U (.int q n)).run P w = .ok (.float .f64 (FloatKind.f64.nearest n)) w := by
   obtain ⟨s, hs'⟩ := Option.isSome_iff_exists.1 hs;cases s <;> simp [convert, run_underlying hs', run_underlying hd, Conv.intToFloat]
  simp only [execOp, ha hx, Sem.run_bind, h, Result.andThen_ok, Sem.run_pure]) k
structure NRes (r : Nat) (w w' : World) : Prop where
 isn : isN r = true
 ext : Ext No w w'
 lt : r < 18446744073709551616
end
section
variable {P : Program} {N : Nat} {ops : Array Oper} {Q : Exit → Act → World → Prop} {σ : Env} {w : World} {ty : TypeId} {pos : String} {af : Array Edge} {dst : Option Nat} {Post : Value → World → Prop}
theorem ow_mkI {T : TypeId} {x : Operand} {v : Value} (hc : P.concrete T = true) (hx : ev σ x = some v) (k : Post (.iface T v) w) : OW P N ops Q ⟨dst, .makeInterface T x, ty, pos, af, none⟩ σ w Post :=
 qb (fun ρ ha => by
  have h := run_makeInterface (P := P) w T v hc;simp only [execOp, ha hx, Sem.run_bind, h, Result.andThen_ok, Sem.run_pure]) k
end
/-! ### loops -/
inductive Ends {α : Type} (done : α → Bool) (step : α → α) : α → α → Prop
 | stop {s : α} : done s = true → Ends done step s s
 | next {s t : α} : done s = false → Ends done step (step s) t → Ends done step s t
noncomputable def qv {α : Type} (done : α → Bool) (step : α → α) (s : α) : α := @Classical.epsilon α ⟨s⟩ (Ends done step s)
theorem vb {α : Type} {done : α → Bool} {step : α → α} {s : α} (h : done s = false) : qv done step s = qv done step (step s) := by
 have e : Ends done step s = Ends done step (step s) := funext fun t => propext ⟨fun h' => by
  cases h' with
  | stop h1 => rw [h] at h1; cases h1
  | next _ h1 => exact h1, fun h' => .next h h'⟩
 unfold qv;rw [e]
theorem qe {α : Type} {done : α → Bool} {step : α → α} {s : α} (h : done s = true) : qv done step s = s := by
 have h1 : Ends done step s (qv done step s) := @Classical.epsilon_spec _ (Ends done step s) ⟨s, .stop h⟩;generalize qv done step s = t at h1
 cases h1 with
 | stop _ => rfl
 | next h2 _ => rw [h] at h2; cases h2
section
variable {P : Program} {Q : Exit → Act → World → Prop} {a : Act} {w : World} {body : Code}
theorem step_scope {b : Frame} {k : List Item} {cs : List Frame} : step P (lone (b.at a (.code (.scope body) :: k)) cs w) = .next (lone (b.at a (.code body :: .inScope body :: k)) cs w) :=
 step_lone_go (by simp [stepG, stepG.exec, Frame.at])
theorem zuv {b : Frame} {k : List Item} {cs : List Frame} : step P (lone (b.at a (.inScope body :: k)) cs w) = .next (lone (b.at a k) cs w) :=
 step_lone_go (by simp [stepG, stepG.exec, Frame.at])
def jz (P : Program) (body : Code) (Q : Exit → Act → World → Prop) : Nat → Exit → Act → World → Prop
 | 0, .goto l, a, w => findLabel body l = none ∧ Q (.goto l) a w
 | n + 1, .goto l, a, w => (findLabel body l = none ∧ Q (.goto l) a w) ∨ ∃ rest, findLabel body l = some rest ∧ rest.wp P (jz P body Q n) a w
 | _, e, a, w => Q e a w
theorem scope_key : ∀ (n : Nat) (c : Code) (a : Act) (w : World), c.wp P (jz P body Q n) a w → ∀ b k cs, ∃ e a' w', Q e a' w' ∧ Arrives P (lone (b.at a (.code c :: .inScope body :: k)) cs w) b k cs e a' w' := by
 intro n;induction n with
 | zero =>
  intro c a w h b k cs;obtain ⟨e, a₁, w₁, hq, harr⟩ := h b (.inScope body :: k) cs;cases e with
  | normal => exact ⟨.normal, a₁, w₁, hq, Steps.trans harr (.one zuv)⟩
  | exit id => exact ⟨.exit id, a₁, w₁, hq, fun k' hk => harr k' (by simp [exitTo, hk])⟩
  | goto l => exact ⟨_, a₁, w₁, hq.2, fun k' hk => harr k' (by simp [gotoIn, hq.1, hk])⟩
  | ret => exact ⟨_, a₁, w₁, hq, harr⟩
  | panic ch => exact ⟨_, a₁, w₁, hq, harr⟩
  | outgrown => exact ⟨_, a₁, w₁, hq, harr⟩
 | succ n ih =>
  intro c a w h b k cs;obtain ⟨e, a₁, w₁, hq, harr⟩ := h b (.inScope body :: k) cs;cases e with
  | normal => exact ⟨.normal, a₁, w₁, hq, Steps.trans harr (.one zuv)⟩
  | exit id => exact ⟨.exit id, a₁, w₁, hq, fun k' hk => harr k' (by simp [exitTo, hk])⟩
  | goto l =>
   rcases hq with ⟨h1, hq⟩ | ⟨rest, h1, h2⟩
   · exact ⟨_, a₁, w₁, hq, fun k' hk => harr k' (by simp [gotoIn, h1, hk])⟩
   · obtain ⟨e2, a2, w2, hq2, harr2⟩ := ih rest a₁ w₁ h2 b k cs;exact ⟨e2, a2, w2, hq2, .of_steps (harr _ (by simp [gotoIn, h1])) harr2⟩
  | ret => exact ⟨_, a₁, w₁, hq, harr⟩
  | panic ch => exact ⟨_, a₁, w₁, hq, harr⟩
  | outgrown => exact ⟨_, a₁, w₁, hq, harr⟩
theorem wp_scope (n : Nat) (h : body.wp P (jz P body Q n) a w) : (Code.scope body).wp P Q a w := fun b k cs =>
 let ⟨e, a', w', q, r⟩ := scope_key n body a w h b k cs
 ⟨e, a', w', q, .of_steps (.one step_scope) r⟩
end
section
variable {P : Program} {N : Nat} {Q : Exit → Act → World → Prop} {σ : Env} {w : World} {body : Code} {n : Nat}
theorem cw_scope (n : Nat) (h : CW P N body (jz P body Q n) σ w) : CW P N (.scope body) Q σ w := fun a ha => wp_scope n (h a ha)
theorem jr (h : EW N Q .ret σ w) : EW N (jz P body Q n) .ret σ w := by cases n <;> exact h
theorem ew_scope_goto {l : Nat} {rest : Code} (hl : findLabel body l = some rest) (h : CW P N rest (jz P body Q n) σ w) : EW N (jz P body Q (n + 1)) (.goto l) σ w := fun a ha => .inr ⟨rest, hl, h a ha⟩
theorem zcq {l : Nat} (h : EW N Q (.goto l) σ w) : CW P N (.goto l) Q σ w := fun a ha => wp_goto (h a ha)
theorem cw_label {l : Nat} (h : EW N Q .normal σ w) : CW P N (.label l) Q σ w := fun a ha => wp_label (h a ha)
theorem jq {K : Act → World → Prop} {l : Nat} (h : EW N Q (.goto l) σ w) : EW N (Exit.then K Q) (.goto l) σ w := h
end
section
variable {P : Program} {N : Nat} {ops : Array Oper} {Q : Exit → Act → World → Prop} {σ : Env} {w : World} {ty : TypeId} {pos : String} {af : Array Edge} {dst : Option Nat} {Post : Value → World → Prop}
theorem qi {T T' : TypeId} {x y : Operand} {g o : Nat} {cs cs' : Array Value} {v : Value} (hs : qj P T 1) (hx : ev σ x = some (.pointer (some ⟨g, o, none⟩))) (hy : ev σ y = some v) (hb : Blk w g T' cs) (hv : v.cells = #[v]) (h1 : kj [v] = true) (hle : o < cs.size) (he : cs.setIfInBounds o v = cs')
 (k : ∀ w', Blk w' g T' cs' → Ext (Mut [some g]) w w' → Post undef w') : OW P N ops Q ⟨dst, .store T x y, ty, pos, af, none⟩ σ w Post := by
 refine qz hs hx hy hb (by rw [hv]; rfl) (by rw [hv]; exact h1) (by omega) (fun w' hb' he' => k w' ?_ he');rw [hv] at hb';rw [← he];exact hb'
end
section
variable {P : Program} {N : Nat} {ops : Array Oper} {Q : Exit → Act → World → Prop} {σ : Env} {w : World} {ty : TypeId} {pos : String} {af : Array Edge} {dst : Option Nat} {Post : Value → World → Prop}
theorem qo {x i : Operand} {T e : TypeId} {g n : Nat} {q : IntKind} {m : Int} {j : Nat} (hd : P.underlying T = some (.array n e)) (hs : qj P e 1) (hx : ev σ x = some (.pointer (some ⟨g, 0, none⟩))) (hi : ev σ i = some (.int q m)) (hm : m = (j : Int)) (hj : j < n)
 (k : Post (.pointer (some ⟨g, j, none⟩)) w) : OW P N ops Q ⟨dst, .indexAddr T x i, ty, pos, af, none⟩ σ w Post :=
 xm hd hs hx hi hm hj (by rw [Nat.mul_one, Nat.zero_add]; exact k)
theorem zrk {x i : Operand} {T e : TypeId} {g n c : Nat} {q : IntKind} {m : Int} {j : Nat} (hd : P.underlying T = some (.slice e)) (hs : qj P e 1) (hx : ev σ x = some (.slice (some ⟨g, 0, none⟩) n c)) (hi : ev σ i = some (.int q m)) (hm : m = (j : Int)) (hj : j < n)
 (k : Post (.pointer (some ⟨g, j, none⟩)) w) : OW P N ops Q ⟨dst, .indexAddr T x i, ty, pos, af, none⟩ σ w Post :=
 vd hd hs hx hi hm hj (by rw [Nat.mul_one, Nat.zero_add]; exact k)
theorem ow_sliceA0 {T e : TypeId} {x y z : Operand} {g n s h : Nat} {q q' : IntKind} {m : Int} (hd : P.underlying T = some (.array n e)) (hs : qj P e s) (hx : ev σ x = some (.pointer (some ⟨g, 0, none⟩))) (hz : ev σ z = some (.int q' ((0 : Nat) : Int))) (hy : ev σ y = some (.int q m)) (hm : m = (h : Int)) (hn : h ≤ n)
 (k : Post (.slice (some ⟨g, 0, none⟩) h n) w) : OW P N ops Q ⟨dst, .slice T x (some z) (some y) none, ty, pos, af, none⟩ σ w Post := by
 subst hm;exact qb (fun ρ ha => by
  simp only [execOp, Instr.sliceAt, Option.map_none, Option.map_some, ha hx, Sem.run_bind, run_underlying hd, Result.andThen_ok, Instr.sureAddr, Instr.sliceBounds, Sem.run_pure, jk hs, Option.isSome_none, Bool.false_eq_true, if_false, og ha y q h n _ hy hn, og ha z q' 0 h _ hz (Nat.zero_le _)]
  simp [Addr.add]) k
end
section
variable {P : Program} {N : Nat} {ops : Array Oper} {Q : Exit → Act → World → Prop} {σ : Env} {w : World} {ty : TypeId} {pos : String} {af : Array Edge} {dst : Option Nat} {Post : Value → World → Prop}
theorem ow_buildA {T e : TypeId} {n s : Nat} {z : Value} {ps : List (Nat × Operand)} {vs : List (Nat × Value)} {cs : Array Value} (hd : P.underlying T = some (.array n e)) (hs : qj P e s) (hz : jo P T z) (hv : evp σ ps = some vs) (hf : Instr.fill (fun i => some (i * s, s)) z.cells vs = some cs)
 (k : Post (.agg cs) w) : OW P N ops Q ⟨dst, .build T ps.toArray, ty, pos, af, none⟩ σ w Post :=
 qb (fun ρ ha => by
  have h2 := ylq ha hv;have h3 : (ps.toArray.map fun (i, x) => (i, ρ x)) = vs.toArray := by rw [List.map_toArray, h2]
  simp only [execOp, Instr.build, h3, Sem.run_bind, zvq hz, Result.andThen_ok, run_underlying hd, jk hs, hf, Sem.run_pure]) k
end
section
variable {P : Program} {N : Nat} {ops : Array Oper} {Q : Exit → Act → World → Prop} {σ : Env} {w : World} {ty : TypeId} {pos : String} {af : Array Edge} {dst : Option Nat} {Post : Value → World → Prop}
theorem zwq : ∀ (l : List Value) (cs : Array Value) (o j : Nat), (gi cs o l)[j]? = if o ≤ j ∧ j < o + l.length ∧ j < cs.size then l[j - o]? else cs[j]?
 | [], cs, o, j => by
  simp only [gi, List.length_nil, Nat.add_zero]
  rw [if_neg (by omega)]
 | v :: l, cs, o, j => by
  rw [gi, zwq l];simp only [Array.size_setIfInBounds, List.length_cons]
  by_cases h1 : j = o
  · subst h1;rw [if_neg (by omega)];by_cases h2 : j < cs.size
    · rw [if_pos ⟨Nat.le_refl _, by omega, h2⟩, Nat.sub_self];simp [h2]
    · rw [if_neg (by omega)];simp [h2]
  · by_cases h2 : o + 1 ≤ j ∧ j < o + 1 + l.length ∧ j < cs.size
    · rw [if_pos h2, if_pos (by omega), show j - o = (j - (o + 1)) + 1 by omega];simp
    · rw [if_neg h2, if_neg (by omega), Array.getElem?_setIfInBounds_ne (by omega)]
theorem putCells_full (cs : Array Value) (l : List Value) (h : l.length = cs.size) : gi cs 0 l = l.toArray := by
 apply Array.ext_getElem?
 intro j;rw [zwq];by_cases hj : j < cs.size
 · rw [if_pos ⟨Nat.zero_le _, by omega, hj⟩]; simp
 · rw [if_neg (by omega), Array.getElem?_eq_none (by omega), List.getElem?_toArray, List.getElem?_eq_none (by omega)]
theorem od {T T' : TypeId} {x y : Operand} {g : Nat} {cs : Array Value} {v : Value} {n : Nat} (hs : qj P T n) (hx : ev σ x = some (.pointer (some ⟨g, 0, none⟩))) (hy : ev σ y = some v) (hb : Blk w g T' cs) (hn : v.cells.size = n) (h1 : kj v.cells.toList = true) (hle : n = cs.size)
 (k : ∀ w', Blk w' g T' v.cells → Ext (Mut [some g]) w w' → Post undef w') : OW P N ops Q ⟨dst, .store T x y, ty, pos, af, none⟩ σ w Post :=
 qz hs hx hy hb hn h1 (by omega) (fun w' hb' he => k w' (by
  rw [putCells_full _ _ (by rw [Array.length_toList]; omega)] at hb';simpa using hb') he)
theorem zxz {T : TypeId} {d : TypeDesc} {x : Operand} {g o : Nat} {cs : Array Value} {n : Nat} (hd : P.underlying T = some d) (hp : TypeDesc.plain d = false) (hs : qj P T n) (hx : ev σ x = some (.pointer (some ⟨g, o, none⟩))) (hn : cs.size = n)
 (hc : ∀ j v, cs[j]? = some v → w.cell? ⟨g, o + j, none⟩ = some v) (k : Post (.agg cs) w) : OW P N ops Q ⟨dst, .load T x, ty, pos, af, none⟩ σ w Post :=
 ow_loadN hd hp hs hx hn (fun j v hj => by rw [Addr.add_eq]; exact hc j v hj) k
end
def lastOK (l : List Oper) (m : Nat) : Bool := Nat.beq (m + 1) l.length && xr 0 (l.take m) [] && (l.take m).all fun o => match o.guard with
 | some (g, _) => Nat.blt g m
 | none => true
section
variable {P : Program} {N : Nat} {Q : Exit → Act → World → Prop} {σ : Env} {w : World} {l : List Oper}
end
section
variable {P : Program} {N : Nat} {Q : Exit → Act → World → Prop} {σ : Env} {w0 : World} {l : List Oper} {F : Nat → Fx} {q : Nat} {Z : Nat → Prop}
def Known1 (ops : Array Oper) (Z : Nat → Prop) (F : Nat → Fx) (w0 : World) (vs : Nat → Value) (X : Nat → Prop) (w : World) (i : Nat) : Prop :=
 Ext Z w0 w ∧ (∀ k, X k → k < w.heap.size) ∧ ∀ j ∈ qw ops i, Left X w (F j) (vs j)
theorem Known1.dep {ops : Array Oper} {vs : Nat → Value} {X : Nat → Prop} {w : World} {i : Nat} (K : Known1 ops Z F w0 vs X w i) (j : Nat) (h : oj j (qw ops i) = true) (_ : True = True) (_ : True = True) : Left X w (F j) (vs j) := K.2.2 j (ve.1 h)
def Step1 (P : Program) (N : Nat) (ops : Array Oper) (Q : Exit → Act → World → Prop) (σ : Env) (q : Nat) (Z : Nat → Prop) (F : Nat → Fx) (w0 : World) (i : Nat) (o : Oper) : Prop :=
 ∀ vs X w, Known1 ops Z F w0 vs X w i → (Nat.beq i q = true → Ext No w0 w) → OW P N ops Q o (jv σ ops vs i) w (fun v w' => match Nat.beq i q with
  | true => Ext Z w w' ∧ Left No w' (F i) v
  | false => Below w.heap.size w w' ∧ Left X w' (F i) v)
def Steps1 (P : Program) (N : Nat) (ops : Array Oper) (Q : Exit → Act → World → Prop) (σ : Env) (q : Nat) (Z : Nat → Prop) (F : Nat → Fx) (w0 : World) : Nat → List Oper → Prop
 | _, [] => True
 | i, o :: l => Step1 P N ops Q σ q Z F w0 i o ∧ Steps1 P N ops Q σ q Z F w0 (i + 1) l
def Yet (listed : Array Bool) (q : Nat) (Z : Nat → Prop) (k : Nat) : Prop := ¬ Ran listed q ∧ Z k
structure Mid1 (N : Nat) (l : List Oper) (σ : Env) (w0 : World) (q : Nat) (Z : Nat → Prop) (F : Nat → Fx) (listed : Array Bool) (a : Act) (w : World) (vs : Nat → Value) : Prop where
 size : listed.size = l.length
 defers : a.defers = []
 tmps : a.tmps.size = N
 kept : ∀ t v, lk t (cutE (dstL l) σ) = some v → a.tmps[t]? = some v
 ran : ∀ i d, Ran listed i → xe l.toArray i = some d → a.tmps[d]? = some (vs i)
 old : ∀ i d v, ¬ Ran listed i → xe l.toArray i = some d → lk d σ = some v → a.tmps[d]? = some v
 down : ∀ i, Ran listed i → ∀ j ∈ qw l.toArray i, Ran listed j
 ext : Ext (fun k => Ran listed q ∧ Z k) w0 w
 facts : ∀ i, Ran listed i → Left (Yet listed q Z) w (F i) (vs i)
theorem Mid1.at_ {listed : Array Bool} {a : Act} {w : World} {vs : Nat → Value} (m : Mid1 N l σ w0 q Z F listed a w vs) {i : Nat} (hi : ¬ Ran listed i) (hd : ∀ j ∈ qw l.toArray i, Ran listed j) : At N (jv σ l.toArray vs i) a := by
 refine ⟨m.defers, m.tmps, fun t v h => ?_⟩;rcases gm h with h | h
 · obtain ⟨j, hj, hjd, rfl⟩ := zbx h;exact m.ran j t (hd j hj) hjd
 · rcases gm h with h | h
   · obtain ⟨j, _, hjd, hji, hv⟩ := zov h;exact m.old j t v (fun hr => hi (m.down j hr i hji)) hjd hv
   · exact m.kept t v h
theorem Mid1.step (hrow : xr 0 l [] = true) {listed : Array Bool} {a : Act} {w w' : World} {vs : Nat → Value} (m : Mid1 N l σ w0 q Z F listed a w vs) {i : Nat} {o : Oper} (ho : l[i]? = some o) (hi : ¬ Ran listed i) (hd : ∀ j ∈ qw l.toArray i, Ran listed j)
 (hN : ∀ d, o.dst = some d → d < N) (v : Value) (hext : Ext (fun k => Ran (listed.setIfInBounds i true) q ∧ Z k) w0 w')
 (hfacts : ∀ j, Ran listed j → Left (Yet (listed.setIfInBounds i true) q Z) w' (F j) (vs j)) (hfact : Left (Yet (listed.setIfInBounds i true) q Z) w' (F i) v) :
 Mid1 N l σ w0 q Z F (listed.setIfInBounds i true) (a.put o.dst v) w' (fun j => if j = i then v else vs j) := by
 have hil : i < listed.size := by rw [m.size]; exact (List.getElem?_eq_some_iff.1 ho).1
 have hne : ∀ {j}, Ran listed j → j ≠ i := fun h e => hi (e ▸ h);have hput : ∀ t, o.dst ≠ some t → ∀ v', a.tmps[t]? = some v' → (a.put o.dst v).tmps[t]? = some v' := by
  intro t ht v' h;cases hd : o.dst with
  | none => exact h
  | some d =>
   have : d ≠ t := fun e => ht (by rw [hd, e]);simpa [Act.put, Array.getElem?_setIfInBounds_ne this] using h
 refine ⟨by simpa using m.size, ?_, ?_, ?_, ?_, ?_, ?_, hext, ?_⟩
 · cases hd : o.dst <;> exact m.defers
 · cases hd : o.dst
   · exact m.tmps
   · simpa [Act.put] using m.tmps
 · intro t u h;refine hput t (fun e => ?_) u (m.kept t u h);exact (zbz h).2 (mem_dstL (List.mem_of_getElem? ho) e)
 · intro j d hj hjd;rcases (vp hil).1 hj with rfl | hj
   · rw [kw ho] at hjd;have hlt := hN d hjd;rw [if_pos rfl, hjd];have : d < a.tmps.size := by rw [m.tmps]; exact hlt
     simp [Act.put, this]
   · rw [if_neg (hne hj)];refine hput d (fun e => hne hj ?_) _ (m.ran j d hj hjd);exact zhz hrow hjd (by rw [kw ho]; exact e)
 · intro j d u hj hjd hu;have hj' : ¬ Ran listed j := fun h => hj ((vp hil).2 (Or.inr h));have hji : j ≠ i := fun e => hj ((vp hil).2 (Or.inl e));refine hput d (fun e => hji ?_) _ (m.old j d u hj' hjd hu);exact zhz hrow hjd (by rw [kw ho]; exact e)
 · intro j hj k hk;refine (vp hil).2 (Or.inr ?_);rcases (vp hil).1 hj with rfl | hj
   · exact hd k hk
   · exact m.down j hj k hk
 · intro j hj;rcases (vp hil).1 hj with rfl | hj
   · rw [if_pos rfl]; exact hfact
   · rw [if_neg (hne hj)]; exact hfacts j hj
end
section
variable {P : Program} {N : Nat} {Q : Exit → Act → World → Prop} {σ : Env} {w0 : World} {l : List Oper} {T : List Nat} {ss : List (List Nat)} {G : List Bool → List Value → World → Prop} {V : List ((Nat → Value) → Value → Prop)} {B : World → Prop}
def zjv : List (List Nat) → Nat → List Nat
 | [], _ => []
 | s :: _, 0 => s
 | _ :: l, i + 1 => zjv l i
def allB (p : Nat → Bool) : List Nat → Bool
 | [] => true
 | i :: l => p i && allB p l
theorem zzv {p : Nat → Bool} : ∀ {l : List Nat}, allB p l = true → ∀ i ∈ l, p i = true
 | x :: l, h, i, hi => by
  simp only [allB, Bool.and_eq_true] at h
  rcases List.mem_cons.1 hi with rfl | hi
  · exact h.1
  · exact zzv h.2 i hi
def anyB (p : Nat → Bool) : List Nat → Bool
 | [] => false
 | i :: l => p i || anyB p l
theorem anyB_mem {p : Nat → Bool} : ∀ {l : List Nat}, anyB p l = true → ∃ i ∈ l, p i = true
 | x :: l, h => by
  simp only [anyB, Bool.or_eq_true] at h
  rcases h with h | h
  · exact ⟨x, List.mem_cons.2 (Or.inl rfl), h⟩
  · obtain ⟨i, hi, e⟩ := anyB_mem h;exact ⟨i, List.mem_cons.2 (Or.inr hi), e⟩
def seenOK (l : List Oper) (ss : List (List Nat)) : Bool := allB (fun i => allB (fun k => oj k (qw l.toArray i) || anyB (fun d => oj k (zjv ss d)) (qw l.toArray i)) (zjv ss i)) (List.range l.length)
theorem OW.mono {ops : Array Oper} {o : Oper} {w : World} {A B : Value → World → Prop} (h : OW P N ops Q o σ w A) (k : ∀ v w', A v w' → B v w') : OW P N ops Q o σ w B := fun a ha => by
 have h := h a ha;split
 · rename_i hw
   rw [if_pos hw] at h;refine Oper.wp_mono ?_ h;rintro a' w' ⟨v, e, hp⟩;exact ⟨v, e, k v w' hp⟩
 · rename_i hw
   rw [if_neg hw] at h;exact k _ _ h
def valS (vs : Nat → Value) (i : Nat) (v : Value) : Nat → Value := fun j => match Nat.beq j i with
 | true => v
 | false => vs j
def ranS (R : Nat → Bool) (i : Nat) : Nat → Bool := fun j => match Nat.beq j i with
 | true => true
 | false => R j
theorem valS_same (vs : Nat → Value) (i : Nat) (v : Value) : valS vs i v i = v := by unfold valS; simp
theorem valS_other (vs : Nat → Value) {i j : Nat} (v : Value) (h : j ≠ i) : valS vs i v j = vs j := by
 unfold valS;split
 · rename_i e; exact absurd (Nat.eq_of_beq_eq_true e) h
 · rfl
theorem ranS_other (R : Nat → Bool) {i j : Nat} (h : j ≠ i) : ranS R i j = R j := by
 unfold ranS;split
 · rename_i e; exact absurd (Nat.eq_of_beq_eq_true e) h
 · rfl
def vAt : List ((Nat → Value) → Value → Prop) → Nat → (Nat → Value) → Value → Prop
 | [], _ => fun _ _ => True
 | V :: _, 0 => V
 | _ :: l, i + 1 => vAt l i
def LocV (ss : List (List Nat)) : Nat → List ((Nat → Value) → Value → Prop) → Prop
 | _, [] => True
 | i, V :: l => (∀ vs us v, (∀ k, oj k (zjv ss i) = true → vs k = us k) → V vs v → V us v) ∧ LocV ss (i + 1) l
theorem locV_at : ∀ {V : List ((Nat → Value) → Value → Prop)} {i : Nat}, LocV ss i V → ∀ (k : Nat) vs us v, (∀ j, oj j (zjv ss (i + k)) = true → vs j = us j) → vAt V k vs v → vAt V k us v
 | [], _, _, _, _, _, _, _, _ => trivial
 | _ :: _, _, h, 0, vs, us, v, hk, hv => h.1 vs us v hk hv
 | _ :: _, i, h, k + 1, vs, us, v, hk, hv => locV_at h.2 k vs us v (by rwa [show i + 1 + k = i + (k + 1) by omega]) hv
def ranB (listed : Array Bool) (j : Nat) : Bool := listed.getD j false
theorem ranB_set {listed : Array Bool} {i : Nat} (hil : i < listed.size) : ranB (listed.setIfInBounds i true) = ranS (ranB listed) i := funext fun j => by
 unfold ranB ranS;split
 · rename_i e
   have e := Nat.eq_of_beq_eq_true e;subst e;simp [hil]
 · rename_i e
   have e : ¬ i = j := fun h => by subst h; simp at e
   simp [Array.getD_eq_getD_getElem?, Array.getElem?_setIfInBounds_ne e]
def Step2 (P : Program) (N : Nat) (ops : Array Oper) (Q : Exit → Act → World → Prop) (σ : Env) (T : List Nat) (ss : List (List Nat)) (G : List Bool → List Value → World → Prop) (V : List ((Nat → Value) → Value → Prop)) (B : World → Prop) (i : Nat) (o : Oper) : Prop :=
 match oj i T with
 | true => ∀ (R : Nat → Bool) vs w, G (T.map R) (T.map vs) w → R i = false → (∀ j, oj j (zjv ss i) = true → R j = true) → (∀ j, R j = true → ∀ k, oj k (zjv ss j) = true → R k = true) → (∀ j, oj j (zjv ss i) = true → vAt V j vs (vs j)) → OW P N ops Q o (jv σ ops vs i) w (fun v w' => G (T.map (ranS R i)) (T.map (valS vs i v)) w' ∧ vAt V i vs v)
 | false => ∀ vs w, B w → (∀ j, oj j (zjv ss i) = true → vAt V j vs (vs j)) → OW P N ops Q o (jv σ ops vs i) w (fun v w' => w' = w ∧ vAt V i vs v)
def Steps2 (P : Program) (N : Nat) (ops : Array Oper) (Q : Exit → Act → World → Prop) (σ : Env) (T : List Nat) (ss : List (List Nat)) (G : List Bool → List Value → World → Prop) (V : List ((Nat → Value) → Value → Prop)) (B : World → Prop) : Nat → List Oper → Prop
 | _, [] => True
 | i, o :: l => Step2 P N ops Q σ T ss G V B i o ∧ Steps2 P N ops Q σ T ss G V B (i + 1) l
theorem steps2_at {ops : Array Oper} : ∀ {l : List Oper} {k : Nat}, Steps2 P N ops Q σ T ss G V B k l → ∀ {i : Nat} {o : Oper}, l[i]? = some o → Step2 P N ops Q σ T ss G V B (k + i) o
 | [], _, _, i, o, h => by simp at h
 | x :: l, k, hs, 0, o, h => by simp only [List.getElem?_cons_zero, Option.some.injEq] at h; subst h; exact hs.1
 | x :: l, k, hs, i + 1, o, h => by
  have := steps2_at hs.2 (i := i) (o := o) (by simpa using h);rwa [show k + 1 + i = k + (i + 1) by omega] at this
structure Mid2 (N : Nat) (l : List Oper) (σ : Env) (T : List Nat) (G : List Bool → List Value → World → Prop) (V : List ((Nat → Value) → Value → Prop)) (listed : Array Bool) (a : Act) (w : World) (vs : Nat → Value) : Prop where
 size : listed.size = l.length
 defers : a.defers = []
 tmps : a.tmps.size = N
 kept : ∀ t v, lk t (cutE (dstL l) σ) = some v → a.tmps[t]? = some v
 ran : ∀ i d, Ran listed i → xe l.toArray i = some d → a.tmps[d]? = some (vs i)
 old : ∀ i d v, ¬ Ran listed i → xe l.toArray i = some d → lk d σ = some v → a.tmps[d]? = some v
 down : ∀ i, Ran listed i → ∀ j ∈ qw l.toArray i, Ran listed j
 phi : G (T.map (ranB listed)) (T.map vs) w
 vals : ∀ i, Ran listed i → vAt V i vs (vs i)
theorem Mid2.at_ {listed : Array Bool} {a : Act} {w : World} {vs : Nat → Value} (m : Mid2 N l σ T G V listed a w vs) {i : Nat} (hi : ¬ Ran listed i) (hd : ∀ j ∈ qw l.toArray i, Ran listed j) : At N (jv σ l.toArray vs i) a := by
 refine ⟨m.defers, m.tmps, fun t v h => ?_⟩;rcases gm h with h | h
 · obtain ⟨j, hj, hjd, rfl⟩ := zbx h;exact m.ran j t (hd j hj) hjd
 · rcases gm h with h | h
   · obtain ⟨j, _, hjd, hji, hv⟩ := zov h;exact m.old j t v (fun hr => hi (m.down j hr i hji)) hjd hv
   · exact m.kept t v h
theorem seen_ran (hrow : xr 0 l [] = true) (hss : seenOK l ss = true) {listed : Array Bool} (hd : ∀ i, Ran listed i → ∀ j ∈ qw l.toArray i, Ran listed j) : ∀ i, i < l.length → (∀ j ∈ qw l.toArray i, Ran listed j) → ∀ k ∈ zjv ss i, Ran listed k := by
 intro i;induction i using Nat.strongRecOn with
 | _ i ih =>
  intro hi hr k hk;have h := zzv (zzv hss i (List.mem_range.2 hi)) k hk;simp only [Bool.or_eq_true] at h
  rcases h with h | h
  · exact hr k (ve.1 h)
  · obtain ⟨d, hdm, hkd⟩ := anyB_mem h;have hlt := (kx hrow (i := i) (o := l[i]) (by simp [hi])).1 d (by
     have := hdm;rwa [ycv (show l[i]? = some l[i] by simp [hi])] at this)
    exact ih d (by omega) (by omega) (hd d (hr d hdm)) k (ve.1 hkd)
theorem wpAny_mid2 (hrow : xr 0 l [] = true) (hdl : ∀ (i : Nat) (o : Oper) (d : Nat), l[i]? = some o → o.dst = some d → d < N) (hss : seenOK l ss = true)
 (hV : LocV ss 0 V) (hB : ∀ R vs w, G R vs w → B w)
 (hsteps : Steps2 P N l.toArray Q σ T ss G V B 0 l) (hend : ∀ listed a w vs, (∀ i, i < l.length → Ran listed i) → Mid2 N l σ T G V listed a w vs → Q .normal a w) :
 ∀ (fuel : Nat) (listed : Array Bool) (a : Act) (w : World) (vs : Nat → Value), listed.toList.count false ≤ fuel → Mid2 N l σ T G V listed a w vs → wpAny P .any l.toArray Q fuel listed a w := by
 have hall : ∀ (listed : Array Bool) (a : Act) (w : World) (vs : Nat → Value), Mid2 N l σ T G V listed a w vs → Region.ready .any l.toArray listed = [] → Q .normal a w := by
  intro listed a w vs m hr;refine hend listed a w vs (fun i hi => ?_) m;induction i using Nat.strongRecOn with
  | _ i ih =>
   rcases Classical.em (Ran listed i) with h | h
   · exact h
   · exfalso
     have hil : i < listed.size := by rw [m.size]; exact hi
     have : i ∈ Region.ready .any l.toArray listed := by
      refine mem_ready.2 ⟨?_, l[i], by simp [hi], fun e he hb => ?_⟩
      · unfold Ran at h;simp [hil] at h ⊢
        exact h
      · have hlt := (kx hrow (i := i) (o := l[i]) (by simp [hi])).1 e.on (zez (by simpa using he) hb);exact ih e.on (by omega) (by omega)
     rw [hr] at this;cases this
 intro fuel;induction fuel with
 | zero =>
  intro listed a w vs hc m;have hr : Region.ready .any l.toArray listed = [] := by
   apply List.eq_nil_iff_forall_not_mem.2
   intro j hj;have h0 := (mem_ready.1 hj).1;have hlt := (yjk h0).2;have : false ∈ listed.toList := by
    have e : listed[j] = false := by simpa [hlt] using h0
    rw [← e]; exact Array.getElem_mem_toList hlt
   have := List.count_pos_iff.2 this;omega
  exact ⟨hr, hall listed a w vs m hr⟩
 | succ fuel ih =>
  intro listed a w vs hc m;refine ⟨hall listed a w vs m, fun i hi => ?_⟩;obtain ⟨h0, o, ho, hdep⟩ := mem_ready.1 hi;have ho' : l[i]? = some o := by simpa using ho
  obtain ⟨hni, hil⟩ := yjk h0;have hil' : i < l.length := by rw [m.size] at hil; exact hil
  have hd : ∀ j ∈ qw l.toArray i, Ran listed j := by
   intro j hj;rw [ycv ho'] at hj;obtain ⟨e, he, hb, rfl⟩ := oa hj;exact hdep e (by simpa using he) hb
  have hcount : (listed.setIfInBounds i true).toList.count false ≤ fuel := by
   have hf : listed.toList[i]? = some false := by
    have e : listed[i] = false := by simpa [hil] using h0
    simp [hil, e]
   have := zpk listed.toList i hf;rw [Array.toList_setIfInBounds];omega
  have hat := m.at_ hni hd;have hs := steps2_at hsteps ho';rw [Nat.zero_add] at hs;have hseen := seen_ran hrow hss m.down i hil' hd;have hsv : ∀ j, oj j (zjv ss i) = true → vAt V j vs (vs j) := fun j hj => m.vals j (hseen j (ve.1 hj));have hne : ∀ {j}, Ran listed j → j ≠ i := fun h e => hni (e ▸ h)
  have hput : ∀ v t, o.dst ≠ some t → ∀ v', a.tmps[t]? = some v' → (a.put o.dst v).tmps[t]? = some v' := by
   intro v t ht v' h;cases hd : o.dst with
   | none => exact h
   | some d =>
    have : d ≠ t := fun e => ht (by rw [hd, e]);simpa [Act.put, Array.getElem?_setIfInBounds_ne this] using h
  have hup : ∀ v {j}, Ran listed j → valS vs i v j = vs j := fun v j hj => valS_other vs v (hne hj);have hk := m.phi;have main : ∀ v w', G (T.map (ranS (ranB listed) i)) (T.map (valS vs i v)) w' → vAt V i vs v → wpAny P .any l.toArray Q fuel (listed.setIfInBounds i true) (a.put o.dst v) w' := by
   intro v w' hp hv;refine ih _ _ _ (valS vs i v) hcount ⟨by simpa using m.size, ?_, ?_, ?_, ?_, ?_, ?_, by rw [ranB_set hil]; exact hp, ?_⟩
   · cases hd : o.dst <;> exact m.defers
   · cases hd : o.dst
     · exact m.tmps
     · simpa [Act.put] using m.tmps
   · intro t u h;refine hput v t (fun e => ?_) u (m.kept t u h);exact (zbz h).2 (mem_dstL (List.mem_of_getElem? ho') e)
   · intro j d hj hjd;rcases (vp hil).1 hj with rfl | hj
     · rw [kw ho'] at hjd;have hlt := hdl _ _ d ho' hjd;rw [valS_same, hjd];have : d < a.tmps.size := by rw [m.tmps]; exact hlt
       simp [Act.put, this]
     · rw [hup v hj];refine hput v d (fun e => hne hj ?_) _ (m.ran j d hj hjd);exact zhz hrow hjd (by rw [kw ho']; exact e)
   · intro j d u hj hjd hu;have hj' : ¬ Ran listed j := fun h => hj ((vp hil).2 (Or.inr h));have hji : j ≠ i := fun e => hj ((vp hil).2 (Or.inl e));refine hput v d (fun e => hji ?_) _ (m.old j d u hj' hjd hu);exact zhz hrow hjd (by rw [kw ho']; exact e)
   · intro j hj k hk;refine (vp hil).2 (Or.inr ?_);rcases (vp hil).1 hj with rfl | hj
     · exact hd k hk
     · exact m.down j hj k hk
   · intro j hj;rcases (vp hil).1 hj with rfl | hj
     · rw [valS_same];exact locV_at hV j vs _ v (fun k hk => (hup v (hseen k (by rw [Nat.zero_add] at hk; exact ve.1 hk))).symm) hv
     · rw [hup v hj];have hjl : j < l.length := by rw [← m.size]; exact Nat.lt_of_not_le fun h => by unfold Ran at hj; simp [Array.getD_eq_getD_getElem?, Array.getElem?_eq_none h] at hj
       exact locV_at hV j vs _ _ (fun k hk => (hup v (seen_ran hrow hss m.down j hjl (m.down j hj) k (by rw [Nat.zero_add] at hk; exact ve.1 hk))).symm) (m.vals j hj)
  have hw : OW P N l.toArray Q o (jv σ l.toArray vs i) w (fun v w' => G (T.map (ranS (ranB listed) i)) (T.map (valS vs i v)) w' ∧ vAt V i vs v) := by
   unfold Step2 at hs;split at hs
   · refine hs _ vs w hk (by unfold ranB Ran at *; exact Bool.eq_false_iff.2 hni) (fun j hj => hseen j (ve.1 hj)) (fun j hj k hkk => ?_) hsv;have hjl : j < l.length := by rw [← m.size]; exact Nat.lt_of_not_le fun h => by unfold ranB at hj; simp [Array.getD_eq_getD_getElem?, Array.getElem?_eq_none h] at hj
     exact seen_ran hrow hss m.down j hjl (m.down j hj) k (ve.1 hkk)
   · rename_i hnot
     refine OW.mono (hs vs w (hB _ _ w hk) hsv) ?_;rintro v w' ⟨rfl, hv⟩;refine ⟨?_, hv⟩;have hji : ∀ j ∈ T, j ≠ i := fun j hj e => by rw [e] at hj; rw [ve.2 hj] at hnot; cases hnot
     rw [List.map_congr_left (fun j hj => ranS_other (ranB listed) (hji j hj)), List.map_congr_left (fun j hj => valS_other vs v (hji j hj))];exact hk
  have hw := hw a hat;unfold wpOp;rw [ho];simp only []
  split
  · rename_i hwn
    rw [if_pos hwn] at hw;left
    refine Oper.wp_mono ?_ hw;rintro a' w' ⟨v, rfl, hp⟩;exact main v w' hp.1 hp.2
  · rename_i hwn
    rw [if_neg hwn] at hw;exact main _ _ hw.1 hw.2
def AllV (V : List ((Nat → Value) → Value → Prop)) (vs : Nat → Value) : Nat → Nat → Prop
 | _, 0 => True
 | i, k + 1 => vAt V i vs (vs i) ∧ AllV V vs (i + 1) k
theorem aw_acc (T : List Nat) (ss : List (List Nat)) (G : List Bool → List Value → World → Prop) (V : List ((Nat → Value) → Value → Prop)) (B : World → Prop) (hok : (xr 0 l [] && dstOK N l && seenOK l ss && allB (fun j => Nat.blt j l.length) T) = true)
 (hV : LocV ss 0 V) (hB : ∀ R vs w, G R vs w → B w) (h0 : ∀ vs : Nat → Value, G (T.map fun _ => false) (T.map vs) w0) (hsteps : Steps2 P N l.toArray Q σ T ss G V B 0 l)
 (hend : ∀ vs w', G (T.map fun _ => true) (T.map vs) w' → AllV V vs 0 l.length → EW N Q .normal (envEnd σ l vs) w') : AK P N 0 l Q σ w0 := by
 simp only [Bool.and_eq_true] at hok
 obtain ⟨⟨⟨hrow, hdl⟩, hss⟩, hT⟩ := hok;intro a ha;rw [show trL 0 l.length = Array.replicate l.toArray.size false by simp [trL]];have hno : ∀ i, ¬ Ran (Array.replicate l.toArray.size false) i := fun i h => by
  unfold Ran at h;by_cases hi : i < l.length <;> simp [hi] at h
 have m0 : Mid2 N l σ T G V (Array.replicate l.toArray.size false) a w0 (fun _ => undef) :=
  ⟨by simp, ha.defers, ha.size, fun t v h => ha.get t v (zbz h).1, fun i d h => absurd h (hno i), fun i d v _ _ h => ha.get d v h, fun i h => absurd h (hno i), by
   rw [show ranB (Array.replicate l.toArray.size false) = fun _ => false from funext fun i => Bool.eq_false_iff.2 (hno i)]; exact h0 _, fun i h => absurd h (hno i)⟩
 refine wpAny_mid2 (l := l) hrow (zyv hdl) hss hV hB hsteps ?_ _ _ _ _ _ ?_ m0
 · intro listed a w' vs hall m;have hlen : ∀ i (o : Oper), l[i]? = some o → Ran listed i := fun i o h => hall i (List.getElem?_eq_some_iff.1 h).1;have hR : T.map (ranB listed) = T.map fun _ => true := List.map_congr_left fun j hj => hall j (Nat.le_of_ble_eq_true (zzv hT j hj));refine hend vs w' (hR ▸ m.phi) ?_ a ?_
   · have key : ∀ (k i : Nat), i + k ≤ l.length → AllV V vs i k := by
      intro k;induction k with
      | zero => intro i _; trivial
      | succ k ih => intro i hi; exact ⟨m.vals i (hall i (by omega)), ih (i + 1) (by omega)⟩
     exact key l.length 0 (by omega)
   · refine ⟨m.defers, m.tmps, fun t v h => ?_⟩;rcases gm h with h | h
     · obtain ⟨j, _, hjd, rfl⟩ := zbx h;obtain ⟨o, ho, _⟩ := zkk hjd;exact m.ran j t (hlen j o ho) hjd
     · exact m.kept t v h
 · simp
end
theorem mut1 {g k : Nat} (h : Mut [some g] k) : k = g := by
 rcases h with h | h
 · exact Option.some.inj h
 · exact h.elim
theorem cell_z {a b : World} {Z : Nat → Prop} {g o : Nat} {v : Value} (h : Ext Z a.drew b) (hz : ¬ Z g) (hc : a.cell? ⟨g, o, none⟩ = some v) : b.cell? ⟨g, o, none⟩ = some v :=
 (((Ext.refl Z _).drew.trans h).cell (World.block_lt_of_cell? _ _ hc) hz).trans hc
theorem cell_no {a b : World} {ad : Addr} {v : Value} (h : Ext No a.drew b) (hc : a.cell? ad = some v) : b.cell? ad = some v := (((Ext.refl No _).drew.trans h).cell (World.block_lt_of_cell? _ _ hc) (fun hx => hx.elim)).trans hc
theorem Ext.noL (a : Nat) {w1 w2 : World} (h : Ext No w1 w2) : Ext (fun q => a ≤ q) w1 w2 := h.mono fun _ h _ => h.elim
section
variable {w w' : World} {X : Nat → Prop} {base base' n n' s s' : Nat} {e e' : TypeId} {v v' : Value} {xs xs' : List Value}
theorem ob {a : Option Nat} {k : Nat} (h : Mut [a] k) : a = some k := by
 rcases h with h | h
 · exact h.symm
 · exact h.elim
theorem zxx {g : Nat} (h : w.ownsRow base e s v n xs) (hg : v.ownBlock = some g) : ∃ cur, Blk w g e cur := by
 rcases h.2 with ⟨rfl, _⟩ | ⟨g', cap, cur, rfl, _, hh, _⟩
 · cases hg
 · obtain rfl : g' = g := by injection hg
   exact ⟨cur, hh⟩
theorem yx (h : w.ownsRow base e s v n xs) (k : Ext X w w') (hn : ∀ g, v.ownBlock = some g → ¬ X g) : w'.ownsRow base e s v n xs := by
 rcases h.2 with h0 | ⟨g, cap, cur, rfl, hb, hh, r⟩
 · exact ⟨h.1, Or.inl h0⟩
 · exact ⟨h.1, Or.inr ⟨g, cap, cur, rfl, hb, Blk.ext (show Blk w g e cur from hh) k (hn g rfl), r⟩⟩
theorem blk_type {g : Nat} {t t' : TypeId} {cs cs' : Array Value} (h : Blk w g t cs) (h' : Blk w g t' cs') : t = t' := by
 unfold Blk at h h';rw [h] at h';injection h' with h'
 injection h' with h1 h2 h3
theorem zfk (h : w.ownsRow base e s v n xs) (h' : w.ownsRow base' e' s' v' n' xs') (hne : e ≠ e') (k : Ext (Mut [v'.ownBlock]) w w') : w'.ownsRow base e s v n xs :=
 yx h k fun g hg hx => by
  obtain ⟨c1, h1⟩ := zxx h hg;obtain ⟨c2, h2⟩ := zxx h' (ob hx);exact hne (blk_type h1 h2)
theorem yfx {g : Nat} {t : TypeId} {cs : Array Value} (h : Blk w g t cs) (h' : w.ownsRow base' e' s' v' n' xs') (hne : t ≠ e') (k : Ext (Mut [v'.ownBlock]) w w') : Blk w' g t cs :=
 h.ext k fun hx => by
  obtain ⟨c2, h2⟩ := zxx h' (ob hx);exact hne (blk_type h h2)
theorem oh {g : Nat} {t : TypeId} {cs : Array Value} (h : w.ownsRow base e s v n xs) (h' : Blk w g t cs) (hne : e ≠ t) (k : Ext (Mut [some g]) w w') : w'.ownsRow base e s v n xs :=
 yx h k fun g' hg hx => by
  obtain ⟨c1, h1⟩ := zxx h hg;obtain rfl : g' = g := mut1 hx;exact hne (blk_type h1 h')
end
section
variable {P : Program} {N : Nat} {ops : Array Oper} {Q : Exit → Act → World → Prop} {σ : Env} {w : World} {ty : TypeId} {pos : String} {af : Array Edge} {dst : Option Nat} {Post : Value → World → Prop}
theorem zfv {T e : TypeId} {x y : Operand} {z : Value} {size bytes base n n' B m c : Nat} {v : Value} {xs news xs' : List Value} {A : Option Addr} (hd : P.underlying T = some (.slice e)) (hi : zmx P e z size bytes) (hzs : z.cells.size = size) (hsz : 0 < size)
 (hx : ev σ x = some v) (hown : w.ownsRow base e size v n xs) (hy : ev σ y = some (.slice A m c)) (hr : Reads w B size A m news) (h1 : ∀ u ∈ news, u.oneCell' = true) (hn : n + m = n') (hxs : xs ++ news = xs') (h63 : n' ≤ maxLen) (hbytes : n' * bytes ≤ 140737488355328) (hbase : base ≤ w.heap.size)
 (k : ∀ A' c' w', w'.ownsRow base e size (.slice A' n' c') n' xs' → Ext (Mut [v.ownBlock]) w w' → (∀ k, (Value.slice A' n' c').ownBlock = some k → v.ownBlock = some k ∨ w.heap.size ≤ k) → Post (.slice A' n' c') w') : OW P N ops Q ⟨dst, .call ⟨.builtin .append, #[x, y], #[T, T]⟩, ty, pos, af, none⟩ σ w Post := by
 subst hn hxs;refine jj hd hi hzs hsz hx hown hy hr h1 h63 hbytes hbase fun v' w' g1 g2 g3 => ?_;obtain ⟨A', c', rfl⟩ := vf g1;exact k A' c' w' g1 g2 g3
end
theorem own_ge {w : World} {b n s : Nat} {e : TypeId} {v : Value} {xs : List Value} (h : w.ownsRow b e s v n xs) : ∀ q, Mut [v.ownBlock] q → b ≤ q := fun q hq => gu h q (ob hq)
theorem zkz {w : World} {base n c s : Nat} {e : TypeId} {A : Option Addr} {xs : List Value} (h : w.ownsRow base e s (.slice A n c) n xs) (h0 : 0 < n) : ∃ g, A = some ⟨g, 0, none⟩ ∧ base ≤ g ∧ g < w.heap.size ∧ ∀ j u, xs[j]? = some u → w.cell? ⟨g, j, none⟩ = some u := by
 rcases h.2 with ⟨_, rfl⟩ | ⟨g, cap, cur, hv, hg, hh, hn, _, hs, ht⟩
 · omega
 · cases hv
   refine ⟨g, rfl, hg, (Array.getElem?_eq_some_iff.1 hh).1, fun j u hj => ?_⟩;unfold World.cell?;simp only [hh, Option.isSome_none, Bool.false_eq_true, if_false]
   rw [← ht, List.getElem?_take] at hj;split at hj
   · rw [← hj, Array.getElem?_toList]
   · cases hj
section
variable {P : Program} {N : Nat} {ops : Array Oper} {Q : Exit → Act → World → Prop} {σ : Env} {w : World} {ty : TypeId} {pos : String} {af : Array Edge} {dst : Option Nat} {Post : Value → World → Prop}
theorem ow_storeOS {T e : TypeId} {x y : Operand} {g base n c s o : Nat} {v : Value} {xs xs' : List Value} (hs : qj P T 1) (hx : ev σ x = some (.pointer (some ⟨g, o, none⟩))) (hy : ev σ y = some v) (ho : w.ownsRow base e s (.slice (some ⟨g, 0, none⟩) n c) n xs) (hj : o < n * s) (hv : v.cells = #[v]) (h1 : kj [v] = true) (he : xs.set o v = xs')
 (k : ∀ w', w'.ownsRow base e s (.slice (some ⟨g, 0, none⟩) n c) n xs' → Ext (Mut [some g]) w w' → Post undef w') : OW P N ops Q ⟨dst, .store T x y, ty, pos, af, none⟩ σ w Post := by
 subst he;rcases ho.2 with ⟨h0, _⟩ | ⟨g', cap, cur, hv', hb, hh, hn, hm, hsz, ht⟩
 · cases h0
 · cases hv'
   have hcs : o < cur.size := by
    have h2 := congrArg List.length ht;rw [List.length_take, ho.1, Array.length_toList] at h2;omega
   refine qi (cs' := cur.setIfInBounds o v) hs hx hy (show Blk w g e cur from hh) hv h1 hcs rfl fun w' hb' he' => k w' ⟨by rw [List.length_set]; exact ho.1, Or.inr ⟨g, c, _, rfl, hb, hb', hn, hm, by rw [Array.size_setIfInBounds]; exact hsz, ?_⟩⟩ he';rw [Array.toList_setIfInBounds, List.take_set, ht]
end
def zdz (w : World) (g o : Nat) (cs : List Value) : Prop := ∀ j v, cs[j]? = some v → w.cell? ⟨g, o + j, none⟩ = some v
def RowS {α : Type} (n : Nat) (w : World) (s : Nat) (R : World → Nat → Nat → α → Prop) (A : Option Addr) (xs : List α) : Prop :=
 xs ≠ [] → ∃ g o, A = some ⟨g, o, none⟩ ∧ g < n ∧ ∀ j x, xs[j]? = some x → R w g (o + j * s) x
def Low (n : Nat) (X : Nat → Prop) (w w' : World) : Prop := Ext X w w' ∧ ∀ k, X k → n ≤ k
theorem Low.cell {n : Nat} {X : Nat → Prop} {w w' : World} (h : Low n X w w') {g o : Nat} {v : Value} (hg : g < n) (hc : w.cell? ⟨g, o, none⟩ = some v) : w'.cell? ⟨g, o, none⟩ = some v :=
 (h.1.cell (World.block_lt_of_cell? w _ hc) (fun hx => by have h1 : n ≤ g := h.2 _ hx; omega)).trans hc
theorem Low.cells {n : Nat} {X : Nat → Prop} {w w' : World} (h : Low n X w w') {g o : Nat} {cs : List Value} (hg : g < n) (hc : zdz w g o cs) : zdz w' g o cs := fun j v hj => h.cell hg (hc j v hj)
theorem RowS.low {α : Type} {n s : Nat} {w w' : World} {R : World → Nat → Nat → α → Prop} {A : Option Addr} {xs : List α} (h : RowS n w s R A xs) (hR : ∀ g o x, g < n → R w g o x → R w' g o x) : RowS n w' s R A xs := fun h0 => by
 obtain ⟨g, o, e, hg, hc⟩ := h h0;exact ⟨g, o, e, hg, fun j x hj => hR _ _ _ hg (hc j x hj)⟩
theorem RowS.at {α : Type} {n s : Nat} {w : World} {R : World → Nat → Nat → α → Prop} {A : Option Addr} {xs : List α} (h : RowS n w s R A xs) {j : Nat} {x : α} (hj : xs[j]? = some x) : ∃ g o, A = some ⟨g, o, none⟩ ∧ g < n ∧ R w g (o + j * s) x := by
 obtain ⟨g, o, e, hg, hc⟩ := h (fun e => by rw [e] at hj; simp at hj);exact ⟨g, o, e, hg, hc j x hj⟩
def I64 (x : Int) : Prop := -9223372036854775808 ≤ x ∧ x ≤ 9223372036854775807
structure IntsA (n : Nat) (w : World) (A : Option Addr) (xs : List Int) : Prop where
 len : 8 * xs.length ≤ 140737488355000
 in_ : ∀ x ∈ xs, I64 x
 row : RowS n w 1 (fun w g o x => w.cell? ⟨g, o, none⟩ = some (.int .i64 x)) A xs
def insV (x : LIns) (B : Option Addr) (c : Nat) : List Value := [.int .i64 x.op, .int .i64 x.d, .int .i64 x.a, .int .i64 x.b, .int .i64 x.t, .int .i64 x.k, .slice B x.l.length c]
structure InsI (x : LIns) : Prop where
 op : I64 x.op
 d : I64 x.d
 a : I64 x.a
 b : I64 x.b
 t : I64 x.t
 k : I64 x.k
structure InsAt (n : Nat) (w : World) (g o : Nat) (x : LIns) : Prop where
 i64 : InsI x
 cells : ∃ B c, 8 * x.l.length ≤ 140737488351232 ∧ IntsA n w B x.l ∧ zdz w g o (insV x B c)
structure InsA (n : Nat) (w : World) (A : Option Addr) (xs : List LIns) : Prop where
 len : 72 * xs.length ≤ 140737488351304
 row : RowS n w 7 (InsAt n) A xs
structure RegI (r : LReg) : Prop where
 fr : I64 r.fr
 to : I64 r.to
 tg : I64 r.tg
 d : I64 r.d
def regV (r : LReg) : List Value := [.int .i64 r.fr, .int .i64 r.to, .int .i64 r.tg, .int .i64 r.d]
structure RegsA (n : Nat) (w : World) (A : Option Addr) (xs : List LReg) : Prop where
 len : 32 * xs.length ≤ 140737488351232
 in_ : ∀ x ∈ xs, RegI x
 row : RowS n w 4 (fun w g o x => zdz w g o (regV x)) A xs
structure StrsA (n : Nat) (w : World) (A : Option Addr) (xs : List ByteArray) : Prop where
 len : 16 * xs.length ≤ 140737488351232
 in_ : ∀ x ∈ xs, x.size ≤ maxLen
 row : RowS n w 1 (fun w g o x => w.cell? ⟨g, o, none⟩ = some (.string x)) A xs
structure ConsA (n : Nat) (w : World) (A : Option Addr) (xs : List (Int × ByteArray)) : Prop where
 len : 24 * xs.length ≤ 140737488351232
 in_ : ∀ x ∈ xs, I64 x.1 ∧ x.2.size ≤ maxLen
 row : RowS n w 2 (fun w g o x => zdz w g o [.int .i64 x.1, .string x.2]) A xs
structure Pl where
 an : Option Addr
 cn : Nat
 ac : Option Addr
 cc : Nat
 ai : Option Addr
 ci : Nat
 ar : Option Addr
 cr : Nat
structure FnA (n : Nat) (w : World) (p : Pl) (f : LFn) : Prop where
 params : I64 f.params
 regs : I64 f.regs
 frees : I64 f.frees
 bound : I64 f.bound
 name : f.name.size ≤ maxLen
 names : StrsA n w p.an f.names
 consts : ConsA n w p.ac f.consts
 ins : InsA n w p.ai f.ins
 rgs : RegsA n w p.ar f.rgs
 size : n ≤ w.heap.size
section
variable {n : Nat} {X : Nat → Prop} {w w' : World} {A : Option Addr}
theorem IntsA.low {xs : List Int} (h : IntsA n w A xs) (k : Low n X w w') : IntsA n w' A xs := ⟨h.len, h.in_, h.row.low fun _ _ _ hg hc => k.cell hg hc⟩
theorem InsAt.low {g o : Nat} {x : LIns} (h : InsAt n w g o x) (hg : g < n) (k : Low n X w w') : InsAt n w' g o x := by
 obtain ⟨h1, B, c, h2, h3, h4⟩ := h;exact ⟨h1, B, c, h2, h3.low k, k.cells hg h4⟩
theorem InsA.low {xs : List LIns} (h : InsA n w A xs) (k : Low n X w w') : InsA n w' A xs := ⟨h.len, h.row.low fun _ _ _ hg hc => hc.low hg k⟩
theorem RegsA.low {xs : List LReg} (h : RegsA n w A xs) (k : Low n X w w') : RegsA n w' A xs := ⟨h.len, h.in_, h.row.low fun _ _ _ hg hc => k.cells hg hc⟩
theorem StrsA.low {xs : List ByteArray} (h : StrsA n w A xs) (k : Low n X w w') : StrsA n w' A xs := ⟨h.len, h.in_, h.row.low fun _ _ _ hg hc => k.cell hg hc⟩
theorem ConsA.low {xs : List (Int × ByteArray)} (h : ConsA n w A xs) (k : Low n X w w') : ConsA n w' A xs := ⟨h.len, h.in_, h.row.low fun _ _ _ hg hc => k.cells hg hc⟩
theorem FnA.low {p : Pl} {f : LFn} (h : FnA n w p f) (k : Low n X w w') : FnA n w' p f :=
 ⟨h.params, h.regs, h.frees, h.bound, h.name, h.names.low k, h.consts.low k, h.ins.low k, h.rgs.low k, Nat.le_trans h.size k.1.size⟩
theorem Per.ints {xs : List Int} (h : IntsA n w A xs) (hX : ∀ k, X k → n ≤ k) : Per X w (fun z => IntsA n z A xs) := fun _ hb => h.low ⟨hb, hX⟩
theorem Per.regs {xs : List LReg} (h : RegsA n w A xs) (hX : ∀ k, X k → n ≤ k) : Per X w (fun z => RegsA n z A xs) := fun _ hb => h.low ⟨hb, hX⟩
theorem Per.fnA {p : Pl} {f : LFn} (h : FnA n w p f) (hX : ∀ k, X k → n ≤ k) : Per X w (fun z => FnA n z p f) := fun _ hb => h.low ⟨hb, hX⟩
theorem RowS.up {α : Type} {s m : Nat} {R R' : World → Nat → Nat → α → Prop} {xs : List α} (h : RowS n w s R A xs) (hm : n ≤ m) (hR : ∀ g o x, R w g o x → R' w g o x) : RowS m w s R' A xs := fun h0 => by
 obtain ⟨g, o, e, hg, hc⟩ := h h0;exact ⟨g, o, e, by omega, fun j x hj => hR _ _ _ (hc j x hj)⟩
theorem IntsA.up {m : Nat} {xs : List Int} (h : IntsA n w A xs) (hm : n ≤ m) : IntsA m w A xs := ⟨h.len, h.in_, h.row.up hm fun _ _ _ hc => hc⟩
theorem InsAt.up {m g o : Nat} {x : LIns} (h : InsAt n w g o x) (hm : n ≤ m) : InsAt m w g o x := by
 obtain ⟨h1, B, c, h2, h3, h4⟩ := h;exact ⟨h1, B, c, h2, h3.up hm, h4⟩
theorem InsA.up {m : Nat} {xs : List LIns} (h : InsA n w A xs) (hm : n ≤ m) : InsA m w A xs := ⟨h.len, h.row.up hm fun _ _ _ hc => hc.up hm⟩
theorem RegsA.up {m : Nat} {xs : List LReg} (h : RegsA n w A xs) (hm : n ≤ m) : RegsA m w A xs := ⟨h.len, h.in_, h.row.up hm fun _ _ _ hc => hc⟩
theorem StrsA.up {m : Nat} {xs : List ByteArray} (h : StrsA n w A xs) (hm : n ≤ m) : StrsA m w A xs := ⟨h.len, h.in_, h.row.up hm fun _ _ _ hc => hc⟩
theorem ConsA.up {m : Nat} {xs : List (Int × ByteArray)} (h : ConsA n w A xs) (hm : n ≤ m) : ConsA m w A xs := ⟨h.len, h.in_, h.row.up hm fun _ _ _ hc => hc⟩
theorem FnA.up {m : Nat} {p : Pl} {f : LFn} (h : FnA n w p f) (hm : n ≤ m) (hs : m ≤ w.heap.size) : FnA m w p f :=
 ⟨h.params, h.regs, h.frees, h.bound, h.name, h.names.up hm, h.consts.up hm, h.ins.up hm, h.rgs.up hm, hs⟩
theorem IntsA.cell {xs : List Int} (h : IntsA n w A xs) {j : Nat} {x : Int} (hj : xs[j]? = some x) : ∃ g o, A = some ⟨g, o, none⟩ ∧ g < n ∧ w.cell? ⟨g, o + j, none⟩ = some (.int .i64 x) := by
 obtain ⟨g, o, e, hg, hc⟩ := h.row.at hj;exact ⟨g, o, e, hg, by rwa [Nat.mul_one] at hc⟩
theorem IntsA.reads {xs : List Int} (h : IntsA n w A xs) {B : Nat} (hB : n ≤ B) : Reads w B 1 A xs.length (xs.map fun x => .int .i64 x) := by
 refine ⟨by simp, fun h0 => ?_⟩;obtain ⟨g, o, e, hg, hc⟩ := h.row (fun e => by rw [e] at h0; simp at h0);refine ⟨_, e, by show g < B; omega, fun j u hj => ?_⟩;rw [Lib.add_plain];rw [List.getElem?_map] at hj;cases hx : xs[j]? with
 | none => rw [hx] at hj; cases hj
 | some x =>
  rw [hx] at hj;obtain rfl := Option.some.inj hj;have := hc j x hx;rwa [Nat.mul_one] at this
end
def fnV (p : Pl) (f : LFn) : Value := .agg #[.string f.name, .int .i64 f.params, .int .i64 f.regs, .int .i64 f.frees, .bool f.gen, .int .i64 f.bound, .slice p.an f.names.length p.cn, .slice p.ac f.consts.length p.cc, .slice p.ai f.ins.length p.ci, .slice p.ar f.rgs.length p.cr]
end Go.Proofs.YtmjbnhjgebjhlaaDoor
namespace Go.Proofs.YtmjbnhjgebjhlaaDoor
open Go.RowKit
set_option maxRecDepth 100000
attribute [local irreducible] OW RS
def flC : Array Value := #[.int .i64 0, .int .i64 1024, .int .i64 32770, .int .i64 2050, .int .i64 6, .int .i64 2, .int .i64 4098, .int .i64 4100, .int .i64 4096, .int .i64 2, .int .i64 6, .int .i64 12, .int .i64 4, .int .i64 8194, .int .i64 32782, .int .i64 32774, .int .i64 32782, .int .i64 6, .int .i64 16, .int .i64 20, .int .i64 20, .int .i64 38, .int .i64 4102, .int .i64 4108, .int .i64 14, .int .i64 140, .int .i64 12, .int .i64 262, .int .i64 34, .int .i64 34, .int .i64 34, .int .i64 66, .int .i64 12, .int .i64 12, .int .i64 4100, .int .i64 36, .int .i64 16898, .int .i64 4130, .int .i64 6, .int .i64 22, .int .i64 6, .int .i64 4, .int .i64 4, .int .i64 14, .int .i64 32770]
theorem flC_eq : flC = (flT.map (fun z => Value.int .i64 ((z : Nat) : Int))).toArray := rfl
theorem flC_at {j : Nat} (h : j < 45) : flC[j]? = some (.int .i64 ((flT.getD j 0 : Nat) : Int)) := by
 have key : ∀ i : Fin 45, flT[i.val]? = some (flT.getD i.val 0) := by decide +kernel
 rw [flC_eq, List.getElem?_toArray, List.getElem?_map, key ⟨j, h⟩];rfl
theorem fl_or {j : Nat} (h : j < 45) : IntKind.i64.wrap (BitVec.ofInt IntKind.i64.bits ((flT.getD j 0 : Nat) : Int) ||| BitVec.ofInt IntKind.i64.bits 1).toNat = ((flT.getD j 0 ||| 1 : Nat) : Int) := by
 have key : ∀ i : Fin 45, IntKind.i64.wrap (BitVec.ofInt IntKind.i64.bits ((flT.getD i.val 0 : Nat) : Int) ||| BitVec.ofInt IntKind.i64.bits 1).toNat = ((flT.getD i.val 0 ||| 1 : Nat) : Int) := by decide +kernel
 exact key ⟨j, h⟩
section
variable (w : World)
theorem ydq (op : Int) : Calls Tryd.prog 16 #[.int .i64 op] w fun e w' => e = .returned (.int .i64 ((flN op : Nat) : Int)) ∧ Below w.heap.size w w' := by
 refine yl Tryd.func16 rfl Tryd.ntmps16 rfl ?_;have LW := erx (No) w;have XLW := grx (No) w;have E := erx (No) w;refine srx (anx rfl (zf (srx (mvx rfl (za rfl (yt rfl rfl (mvx rfl (yo 6 rfl (fun h1 => ?_) (fun h1 => ?_)))))))))
 ·
  have h1 := of_decide_eq_true h1;have e : flN op = 0 := by unfold flN; rw [if_pos (.inl h1)]
  refine za rfl (zc rfl (za rfl (zc rfl (za rfl (zw rfl rfl (rnx (yi rfl (srx (anx rfl (zr (zd (zp (rs := [.tmp 2]) (vs := [_]) rfl ⟨rfl, trivial⟩ ?_))))))))))));exact ⟨by rw [e]; rfl, (LW.step E XLW).toBelow⟩
 ·
  have h1 := of_decide_eq_false h1;refine onx rfl (zq rfl (onx rfl (qq rfl rfl (za rfl (ya rfl rfl (rnx (zt rfl (fun h2 => ?_) (fun h2 => ?_))))))))
  ·
   have h2 := of_decide_eq_true h2;have e : flN op = 0 := by unfold flN; rw [if_pos (.inr h2)]
   refine srx (anx rfl (zr (zd (zp (rs := [.tmp 2]) (vs := [_]) rfl ⟨rfl, trivial⟩ ?_))));exact ⟨by rw [e]; rfl, (LW.step E XLW).toBelow⟩
  ·
   have h2 := of_decide_eq_false h2;have e : flN op = flT.getD op.toNat 0 ||| 1 := by unfold flN; rw [if_neg (by omega)]
   refine zj (ze (srx (za rfl (ow_buildA (cs := flC) Tryd.underlying58 sz3 zr58 rfl (by kernel_rfl) (za rfl (jb zr58 ?_))))));intro gb1 w2 Bb1 Eb1 Gb1;have Gb1 : _ ≤ gb1 := Nat.le_trans E.size Gb1;have GLb1 := Nat.le_trans LW.size Gb1;replace E := E.trans Eb1.no;replace E := E.cons (some gb1)
   replace XLW := Mut.grow XLW (fun k e => Or.inr (Nat.le_trans LW.size ((yb Gb1) k e)));refine qf (qz sz58 rfl rfl Bb1 rfl rfl (Nat.le_of_ble_eq_true rfl) ?_);intro w3 Bx Eb1;replace Bb1 := Bx;replace E := E.step1 Eb1 Mut.head
   refine rnx (srx (mvx rfl (za rfl (qo (j := op.toNat) Tryd.underlying58 sz3 rfl rfl (by omega) (by omega) (za rfl (zl (cs := flC) Tryd.underlying3 rfl rfl Bb1 (flC_at (by omega)) (za rfl (kv rfl rfl (fl_or (by omega)) (anx rfl (zr (zp (rs := [.tmp 2]) (vs := [_]) rfl ⟨rfl, trivial⟩ ?_)))))))))));exact ⟨by rw [e]; rfl, (LW.step E XLW).toBelow⟩
end
end Go.Proofs.YtmjbnhjgebjhlaaDoor
namespace Go.Proofs.YtmjbnhjgebjhlaaDoor
open Go.RowKit
set_option maxRecDepth 100000
attribute [local irreducible] OW RS
def rL (op : Int) : Int := if (flN op).testBit 5 = true then -2 else if (flN op).testBit 6 = true then -3 else if (flN op).testBit 7 = true then 1 else if (flN op).testBit 8 = true then 2 else if (flN op).testBit 9 = true then -4 else -1
def rK (op : Int) : Int := if (flN op).testBit 10 = true then 1 else if (flN op).testBit 11 = true then 2 else if (flN op).testBit 12 = true then 3 else if (flN op).testBit 13 = true then 4 else if (flN op).testBit 14 = true then 5 else if (flN op).testBit 15 = true then 10 else 0
def rLo (op : Int) : Int := if op = 14 ∨ op = 15 ∨ op = 16 then 1 else 0
def rHi (op : Int) : Int := if op = 2 then 2 else if op = 14 then 7 else if op = 15 then 2 else if op = 16 then 10 else if op = 44 then 34 else 0
def rowV (op : Int) : Value := .agg #[.bool (flN op != 0), .bool (uD op), .bool (uA op), .bool (uB op), .bool (uT op), .int .i64 (rL op), .int .i64 (rK op), .int .i64 (rLo op), .int .i64 (rHi op)]
section
variable (w : World)
end
end Go.Proofs.YtmjbnhjgebjhlaaDoor
namespace Go.Proofs.YtmjbnhjgebjhlaaDoor
open Go.RowKit
set_option maxRecDepth 100000
def qx (xs : List Int) : List Value := xs.map fun x => .int .i64 x
theorem oo {xs : List Int} : ∀ u ∈ qx xs, u.oneCell' = true := fun u hu => by
 obtain ⟨x, _, rfl⟩ := List.mem_map.1 hu;rfl
abbrev OwnsI (w : World) (base : Nat) (A : Option Addr) (c : Nat) (xs : List Int) : Prop := w.ownsRow base 3 1 (.slice A xs.length c) xs.length (qx xs)
def ymq (w : World) (xs : List Int) : Ending → World → Prop := fun e w' => ∃ A c, e = .returned (.slice A xs.length c) ∧ OwnsI w' w.heap.size A c xs ∧ Below w.heap.size w w'
theorem qm {w w' : World} {xs : List Int} {n c : Nat} {A : Option Addr} {vs : List Value} (hn : n = xs.length) (hv : vs = qx xs) (ho : w'.ownsRow w.heap.size 3 1 (.slice A n c) n vs) (hb : Below w.heap.size w w') : ymq w xs (.returned (.slice A n c)) w' := by
 subst hn hv;exact ⟨A, c, rfl, ho, hb⟩
theorem ku {w : World} {g base n : Nat} {t : TypeId} {cs : Array Value} (h : Blk w g t cs) (hb : base ≤ g) (hn : cs.size = n) (hm : n ≤ maxLen) : w.ownsRow base t 1 (.slice (some ⟨g, 0, none⟩) n n) n cs.toList := by
 refine ⟨by simp [hn], Or.inr ⟨g, n, cs, rfl, hb, h, Nat.le_refl _, hm, by rw [hn, Nat.mul_one], ?_⟩⟩;rw [Nat.mul_one, ← hn, ← Array.length_toList, List.take_length]
theorem OwnsI.ints {w : World} {base c : Nat} {A : Option Addr} {xs : List Int} (h : OwnsI w base A c xs) (hl : 8 * xs.length ≤ 140737488355000) (hi : ∀ x ∈ xs, I64 x) : IntsA w.heap.size w A xs := by
 refine ⟨hl, hi, fun h0 => ?_⟩;obtain ⟨g, rfl, _, hg, hc⟩ := xh h (by cases xs with | nil => exact absurd rfl h0 | cons => simp);refine ⟨g, 0, rfl, hg, fun j x hj => ?_⟩;have := hc j (.int .i64 x) (by unfold qx; rw [List.getElem?_map, hj]; rfl);rwa [Nat.zero_add, Nat.mul_one]
theorem bv_nat (x : Nat) : BitVec.ofInt 64 (x : Int) = BitVec.ofNat 64 x := by
 apply BitVec.eq_of_toNat_eq
 rw [BitVec.toNat_ofInt, BitVec.toNat_ofNat];omega
theorem and_i64 {x y : Nat} (hx : x < 9223372036854775808) (hy : y < 9223372036854775808) : IntKind.i64.wrap (BitVec.ofInt IntKind.i64.bits (x : Int) &&& BitVec.ofInt IntKind.i64.bits (y : Int)).toNat = ((x &&& y : Nat) : Int) := by
 have e : (BitVec.ofInt IntKind.i64.bits (x : Int) &&& BitVec.ofInt IntKind.i64.bits (y : Int)).toNat = x &&& y := by
  show (BitVec.ofInt 64 (x : Int) &&& BitVec.ofInt 64 (y : Int)).toNat = x &&& y
  rw [bv_nat, bv_nat, BitVec.toNat_and, BitVec.toNat_ofNat, BitVec.toNat_ofNat, Nat.mod_eq_of_lt (by omega), Nat.mod_eq_of_lt (by omega)]
 rw [e];have : x &&& y ≤ x := Nat.and_le_left;exact zo (by omega)
theorem vh (op : Int) (y : Nat) (hy : y < 9223372036854775808) : IntKind.i64.wrap (BitVec.ofInt IntKind.i64.bits ((flN op : Nat) : Int) &&& BitVec.ofInt IntKind.i64.bits (y : Int)).toNat = ((flN op &&& y : Nat) : Int) :=
 and_i64 (by have := flN_lt op; omega) hy
theorem nat_ne (n : Nat) : (((n : Nat) : Int) != 0) = (n != 0) := by
 cases n with
 | zero => rfl
 | succ n =>
  have h1 : (((n + 1 : Nat) : Int) != 0) = true := by simp; omega
  rw [h1]; simp
theorem jf (n k : Nat) : ((((n &&& 2 ^ k : Nat)) : Int) != 0) = n.testBit k := by
 rw [nat_ne];cases h : n.testBit k
 · have : n &&& 2 ^ k = 0 := by
    apply Nat.eq_of_testBit_eq
    intro j;rw [Nat.testBit_and, Nat.testBit_two_pow, Nat.zero_testBit];by_cases hj : k = j
    · subst hj; rw [h]; rfl
    · simp [hj]
   rw [this]; rfl
 · have : n &&& 2 ^ k ≠ 0 := fun e => by
    have h1 : (n &&& 2 ^ k).testBit k = true := by rw [Nat.testBit_and, h, Nat.testBit_two_pow]; simp
    rw [e, Nat.zero_testBit] at h1;cases h1
   simp [this]
theorem next_wrap {x : Int} (h : I64 x) : (if IntKind.i64.wrap (x + 1) > x then IntKind.i64.wrap (x + 1) else x) = zkv x := by
 obtain ⟨h1, h2⟩ := h;unfold zkv;by_cases h3 : x < 9223372036854775807
 · rw [zo (by omega), if_pos (by omega), if_pos h3]
 · obtain rfl : x = 9223372036854775807 := by omega
   rw [if_neg h3];decide
def LIns.v (i : LIns) (B : Option Addr) (c : Nat) : Value := .agg #[.int .i64 i.op, .int .i64 i.d, .int .i64 i.a, .int .i64 i.b, .int .i64 i.t, .int .i64 i.k, .slice B i.l.length c]
end Go.Proofs.YtmjbnhjgebjhlaaDoor
namespace Go.Proofs.YtmjbnhjgebjhlaaDoor
open Go.RowKit
set_option maxRecDepth 100000
attribute [local irreducible] OW RS
theorem yfk (op : Int) : uL op = (flN op &&& 992 != 0) := rfl
theorem bitD (op : Int) : (flN op).testBit 1 = uD op := rfl
theorem bitA (op : Int) : (flN op).testBit 2 = uA op := rfl
theorem bitB (op : Int) : (flN op).testBit 3 = uB op := rfl
attribute [local irreducible] flN uD uA uB uT uL rL rK rLo rHi
section
variable (w : World) (i : LIns) (B : Option Addr) (c : Nat) (n0 : Nat) (hl : IntsA n0 w B i.l)
theorem gg {a b : Bool} {z : Bool} (h1 : uA i.op = a) (h2 : uB i.op = b) (h3 : (uL i.op && i.op != 35) = z) : qy i = (if a = true then [i.a] else []) ++ ((if b = true then [i.b] else []) ++ (if z = true then i.l else [])) := by
 unfold qy; rw [h1, h2, h3]
include hl
theorem yck (hn : n0 ≤ w.heap.size) : Calls Tryd.prog 8 #[.agg #[.int .i64 i.op, .int .i64 i.d, .int .i64 i.a, .int .i64 i.b, .int .i64 i.t, .int .i64 i.k, .slice B i.l.length c]] w (ymq w (qy i)) := by
 have hll := hl.len;refine yl Tryd.func8 rfl Tryd.ntmps8 rfl ?_;have HF : Per (No) w (fun _ => True) := Per.true_;have LW := erx (No) w;have XLW := grx (No) w;have E := erx (No) w;replace HF := HF.on E;replace LW := LW.step E XLW;replace E := erx (No) w;replace HF := HF.and (Per.ints hl (fun _ h => h.elim));refine srx (za rfl (jy rfl ?_));intro gb1 w2 Bb1 Eb1 Gb1
 have Gb1 : _ ≤ gb1 := Nat.le_trans E.size Gb1;have GLb1 := Nat.le_trans LW.size Gb1;replace E := E.trans Eb1.no;replace HF := HF.cons (yb Gb1);replace E := E.cons (some gb1);replace XLW := Mut.grow XLW (fun k e => Or.inr (Nat.le_trans LW.size ((yb Gb1) k e)));replace HF := HF.on E;replace LW := LW.step E XLW;have SB : ∀ q9, No q9 → Mut [(some gb1)] q9 := (Mut.skip Mut.nil_)
 replace HF := HF.less SB;replace XLW := fun k h => XLW k (SB k h);clear SB;replace E := erx (No) w2;replace HF := HF.and (Per.blkN Bb1 NotIn.nil);refine anx rfl (srx (za rfl (zb Tryd.underlying40 rfl sz3 (by decide) rfl (za rfl (zl Tryd.underlying3 rfl rfl (HF.on E).here.2 rfl (za rfl (zz en16 rfl ((ydq _ i.op).mono ?_))))))));rintro e w3 ⟨rfl, hb⟩
 refine ⟨_, rfl, ?_⟩;replace E := blx E hb;have Ol : World.ownsRow w3 w.heap.size 3 1 (.slice none 0 0) 0 ([]) := jd;replace HF := HF.cons (ju);replace E := E.cons ((Value.slice none 0 0).ownBlock);replace XLW := Mut.grow XLW (fun k e => Or.inr (Nat.le_trans LW.size ((ju) k e)))
 refine anx rfl (srx (anx rfl (zf (srx (mvx rfl (za rfl (vc rfl rfl (vh i.op 4 (by decide)) (za rfl (qn rfl rfl (rnx (zu 10 (.bool (uA i.op)) rfl ((by rw [show (4 : Nat) = 2 ^ 2 from rfl, jf, bitA] : (.bool (((flN i.op &&& 4 : Nat) : Int) != 0) : Value) = _)) (zt rfl (fun hA => ?_) (fun hA => ?_)))))))))))))
 ·
  refine zi (mvx rfl (za rfl (zb Tryd.underlying40 rfl sz3 (by decide) rfl (za rfl (zl Tryd.underlying3 rfl rfl (HF.on E).here.2 rfl (za rfl (qa (cs := #[.int .i64 i.a]) Tryd.underlying38 sz3 zr3 (by decide) rfl (by rw [qt]; rfl) ?_)))))));intro gb4 w5 Bb4 Eb4 Gb4
  have Db4_l : Apart (some gb4) ((Value.slice none 0 0).ownBlock) := Apart.of_lt (vk Ol) Gb4;have Dl_b4 := Db4_l.symm;have Gb4 : _ ≤ gb4 := Nat.le_trans E.size Gb4;have GLb4 := Nat.le_trans LW.size Gb4;replace Ol := ji Ol Eb4 NotIn.nil;replace E := E.trans Eb4.no;replace HF := HF.cons (yb Gb4);replace E := E.cons (some gb4)
  replace XLW := Mut.grow XLW (fun k e => Or.inr (Nat.le_trans LW.size ((yb Gb4) k e)));replace HF := HF.on E;replace LW := LW.step E XLW;have SB : ∀ q9, Mut [((Value.slice none 0 0).ownBlock)] q9 → Mut [(some gb4), ((Value.slice none 0 0).ownBlock)] q9 := (Mut.skip (Mut.keep Mut.nil_));replace HF := HF.less SB;replace XLW := fun k h => XLW k (SB k h);clear SB
  replace E := erx (Mut [((Value.slice none 0 0).ownBlock)]) w5;replace HF := HF.and (Per.blkN Bb4 (NotIn.cons Db4_l NotIn.nil));refine za rfl (jj (news := [.int .i64 i.a]) Tryd.underlying38 inf3 rfl (by decide) rfl Ol rfl (xg (HF.on E).here.2 ((HF.on E).here.2).lt rfl) (by simp [Value.oneCell']) (by unfold maxLen; omega) (by omega) (by exact Nat.le_trans LW.size E.size) ?_)
  intro v0 w7 On En KN;obtain ⟨Aq6, cq6, rfl⟩ := vf On;replace KN : ∀ q9, ((Value.slice Aq6 1 cq6).ownBlock) = some q9 → ((Value.slice none 0 0).ownBlock) = some q9 ∨ w5.heap.size ≤ q9 := KN
  have HY : Gro (Mut [((Value.slice Aq6 1 cq6).ownBlock)]) (Mut [((Value.slice none 0 0).ownBlock)]) w5 := (Mut.grow Mut.none_ (fun k e => (KN k e).elim (fun e => Or.inl (Mut.head k e)) (fun h => Or.inr (Nat.le_trans E.size h))));replace E := E.step1 En Mut.head;replace HF := HF.turn E HY
  have XT := fun q9 (h : (Mut [((Value.slice Aq6 1 cq6).ownBlock)]) q9) => (HY q9 h).elim (XLW q9) (fun h => Or.inr (Nat.le_trans LW.size h));replace LW := LW.step E XLW;replace XLW := XT;replace E := erx (Mut [((Value.slice Aq6 1 cq6).ownBlock)]) w7;clear HY;replace Ol : World.ownsRow w7 w.heap.size 3 1 (.slice Aq6 1 cq6) 1 ([.int .i64 i.a]) := by
   have e : (([]) : List Value) ++ ([.int .i64 i.a] : List Value) = [.int .i64 i.a] := rfl;rw [← e];exact On
  clear On KN En;refine anx rfl (zf (srx (mvx rfl (za rfl (vc rfl rfl (vh i.op 8 (by decide)) (za rfl (qn rfl rfl (rnx (zu 18 (.bool (uB i.op)) rfl ((by rw [show (8 : Nat) = 2 ^ 3 from rfl, jf, bitB] : (.bool (((flN i.op &&& 8 : Nat) : Int) != 0) : Value) = _)) (zt rfl (fun hB => ?_) (fun hB => ?_)))))))))))
  ·
   refine zi (mvx rfl (za rfl (zb Tryd.underlying40 rfl sz3 (by decide) rfl (za rfl (zl Tryd.underlying3 rfl rfl (HF.on E).here.1.2 rfl (za rfl (qa (cs := #[.int .i64 i.b]) Tryd.underlying38 sz3 zr3 (by decide) rfl (by rw [qt]; rfl) ?_)))))));intro gb8 w9 Bb8 Eb8 Gb8
   have Db8_l : Apart (some gb8) ((Value.slice Aq6 1 cq6).ownBlock) := Apart.of_lt (vk Ol) Gb8;have Dl_b8 := Db8_l.symm;have Gb8 : _ ≤ gb8 := Nat.le_trans E.size Gb8;have GLb8 := Nat.le_trans LW.size Gb8;replace Ol := ji Ol Eb8 NotIn.nil;replace E := E.trans Eb8.no;replace HF := HF.cons (yb Gb8);replace E := E.cons (some gb8)
   replace XLW := Mut.grow XLW (fun k e => Or.inr (Nat.le_trans LW.size ((yb Gb8) k e)));replace HF := HF.on E;replace LW := LW.step E XLW;have SB : ∀ q9, Mut [((Value.slice Aq6 1 cq6).ownBlock)] q9 → Mut [(some gb8), ((Value.slice Aq6 1 cq6).ownBlock)] q9 := (Mut.skip (Mut.keep Mut.nil_));replace HF := HF.less SB;replace XLW := fun k h => XLW k (SB k h);clear SB
   replace E := erx (Mut [((Value.slice Aq6 1 cq6).ownBlock)]) w9;replace HF := HF.and (Per.blkN Bb8 (NotIn.cons Db8_l NotIn.nil));refine za rfl (jj (news := [.int .i64 i.b]) Tryd.underlying38 inf3 rfl (by decide) rfl Ol rfl (xg (HF.on E).here.2 ((HF.on E).here.2).lt rfl) (by simp [Value.oneCell']) (by unfold maxLen; omega) (by omega) (by exact Nat.le_trans LW.size E.size) ?_)
   intro v0 w11 On En KN;obtain ⟨Aq10, cq10, rfl⟩ := vf On;replace KN : ∀ q9, ((Value.slice Aq10 2 cq10).ownBlock) = some q9 → ((Value.slice Aq6 1 cq6).ownBlock) = some q9 ∨ w9.heap.size ≤ q9 := KN
   have HY : Gro (Mut [((Value.slice Aq10 2 cq10).ownBlock)]) (Mut [((Value.slice Aq6 1 cq6).ownBlock)]) w9 := (Mut.grow Mut.none_ (fun k e => (KN k e).elim (fun e => Or.inl (Mut.head k e)) (fun h => Or.inr (Nat.le_trans E.size h))));replace E := E.step1 En Mut.head;replace HF := HF.turn E HY
   have XT := fun q9 (h : (Mut [((Value.slice Aq10 2 cq10).ownBlock)]) q9) => (HY q9 h).elim (XLW q9) (fun h => Or.inr (Nat.le_trans LW.size h));replace LW := LW.step E XLW;replace XLW := XT;replace E := erx (Mut [((Value.slice Aq10 2 cq10).ownBlock)]) w11;clear HY;replace Ol : World.ownsRow w11 w.heap.size 3 1 (.slice Aq10 2 cq10) 2 ([.int .i64 i.a, .int .i64 i.b]) := by
    have e : (([.int .i64 i.a]) : List Value) ++ ([.int .i64 i.b] : List Value) = [.int .i64 i.a, .int .i64 i.b] := rfl;rw [← e];exact On
   clear On KN En;refine anx rfl (zf (srx (mvx rfl (za rfl (vc rfl rfl (vh i.op 992 (by decide)) (za rfl (qn rfl rfl (mvx rfl ?_))))))));by_cases hu : flN i.op &&& 992 = 0
   ·
    have hL : (uL i.op && i.op != 35) = false := by rw [yfk, hu]; rfl
    refine yd 27 (.bool false) rfl ((by rw [hu]; rfl : (.bool (((flN i.op &&& 992 : Nat) : Int) != 0) : Value) = _)) (za rfl (zc rfl (za rfl (zc rfl (za rfl (zc rfl (za rfl (ya rfl rfl (rnx (zy rfl (zj (ze (srx (mvx rfl (anx rfl (zr ?_))))))))))))))));have e := gg i hA hB hL
    refine zp (rs := [.tmp 2]) (vs := [_]) rfl ⟨rfl, trivial⟩ ?_;exact qm (by rw [e]; simp) (by rw [e]; simp [qx]) Ol (LW.step E XLW).toBelow
   ·
    refine yd 27 (.bool true) rfl ((by rw [nat_ne]; simp [hu] : (.bool (((flN i.op &&& 992 : Nat) : Int) != 0) : Value) = _)) (onx rfl (zb Tryd.underlying40 rfl sz3 (by decide) rfl (onx rfl (zl Tryd.underlying3 rfl rfl (HF.on E).here.1.1.2 rfl (onx rfl (qn rfl rfl (za rfl (zw rfl rfl (rnx (zt rfl (fun h35 => ?_) (fun h35 => ?_)))))))))))
    ·
     have hL : (uL i.op && i.op != 35) = true := by rw [yfk, h35]; simp [hu]
     refine zi (mvx rfl (za rfl (zb Tryd.underlying40 rfl xy (by decide) rfl (za rfl (zl Tryd.underlying38 rfl rfl (HF.on E).here.1.1.2 rfl (za rfl (jj (news := qx i.l) Tryd.underlying38 inf3 rfl (by decide) rfl Ol rfl (((HF.on E).here.1.1.1.2).reads (Nat.le_trans hn (Nat.le_trans LW.size E.size))) (oo) (by unfold maxLen; omega) (by omega) (by exact Nat.le_trans LW.size E.size) ?_)))))))
     intro v0 w12 On En KN;obtain ⟨A3, c3, rfl⟩ := vf On;replace KN : ∀ q9, ((Value.slice A3 (2 + i.l.length) c3).ownBlock) = some q9 → ((Value.slice Aq10 2 cq10).ownBlock) = some q9 ∨ w11.heap.size ≤ q9 := KN
     have HY : Gro (Mut [((Value.slice A3 (2 + i.l.length) c3).ownBlock)]) (Mut [((Value.slice Aq10 2 cq10).ownBlock)]) w11 := (Mut.grow Mut.none_ (fun k e => (KN k e).elim (fun e => Or.inl (Mut.head k e)) (fun h => Or.inr (Nat.le_trans E.size h))));replace E := E.step1 En Mut.head
     have XT := fun q9 (h : (Mut [((Value.slice A3 (2 + i.l.length) c3).ownBlock)]) q9) => (HY q9 h).elim (XLW q9) (fun h => Or.inr (Nat.le_trans LW.size h));replace LW := LW.step E XLW;replace XLW := XT;replace E := erx (Mut [((Value.slice A3 (2 + i.l.length) c3).ownBlock)]) w12;clear HY
     replace Ol : World.ownsRow w12 w.heap.size 3 1 (.slice A3 (2 + i.l.length) c3) (2 + i.l.length) ([.int .i64 i.a, .int .i64 i.b] ++ qx i.l) := by
      have e : (([.int .i64 i.a, .int .i64 i.b]) : List Value) ++ (qx i.l : List Value) = [.int .i64 i.a, .int .i64 i.b] ++ qx i.l := rfl;rw [← e];exact On
     clear On KN En;have e := gg i hA hB hL;refine anx rfl (srx (mvx rfl (anx rfl (zr (zp (rs := [.tmp 2]) (vs := [_]) rfl ⟨rfl, trivial⟩ ?_)))));exact qm (by rw [e]; simp; try omega) (by rw [e]; simp [qx]) Ol (LW.step E XLW).toBelow
    ·
     have hL : (uL i.op && i.op != 35) = false := by rw [h35]; simp
     refine zj (ze (srx (mvx rfl (anx rfl (zr ?_)))));have e := gg i hA hB hL;refine zp (rs := [.tmp 2]) (vs := [_]) rfl ⟨rfl, trivial⟩ ?_;exact qm (by rw [e]; simp) (by rw [e]; simp [qx]) Ol (LW.step E XLW).toBelow
  ·
   refine zj (ze (zf (srx (mvx rfl (za rfl (vc rfl rfl (vh i.op 992 (by decide)) (za rfl (qn rfl rfl (mvx rfl ?_)))))))));by_cases hu : flN i.op &&& 992 = 0
   ·
    have hL : (uL i.op && i.op != 35) = false := by rw [yfk, hu]; rfl
    refine yd 27 (.bool false) rfl ((by rw [hu]; rfl : (.bool (((flN i.op &&& 992 : Nat) : Int) != 0) : Value) = _)) (za rfl (zc rfl (za rfl (zc rfl (za rfl (zc rfl (za rfl (ya rfl rfl (rnx (zy rfl (zj (ze (srx (mvx rfl (anx rfl (zr ?_))))))))))))))));have e := gg i hA hB hL
    refine zp (rs := [.tmp 2]) (vs := [_]) rfl ⟨rfl, trivial⟩ ?_;exact qm (by rw [e]; simp) (by rw [e]; simp [qx]) Ol (LW.step E XLW).toBelow
   ·
    refine yd 27 (.bool true) rfl ((by rw [nat_ne]; simp [hu] : (.bool (((flN i.op &&& 992 : Nat) : Int) != 0) : Value) = _)) (onx rfl (zb Tryd.underlying40 rfl sz3 (by decide) rfl (onx rfl (zl Tryd.underlying3 rfl rfl (HF.on E).here.1.2 rfl (onx rfl (qn rfl rfl (za rfl (zw rfl rfl (rnx (zt rfl (fun h35 => ?_) (fun h35 => ?_)))))))))))
    ·
     have hL : (uL i.op && i.op != 35) = true := by rw [yfk, h35]; simp [hu]
     refine zi (mvx rfl (za rfl (zb Tryd.underlying40 rfl xy (by decide) rfl (za rfl (zl Tryd.underlying38 rfl rfl (HF.on E).here.1.2 rfl (za rfl (jj (news := qx i.l) Tryd.underlying38 inf3 rfl (by decide) rfl Ol rfl (((HF.on E).here.1.1.2).reads (Nat.le_trans hn (Nat.le_trans LW.size E.size))) (oo) (by unfold maxLen; omega) (by omega) (by exact Nat.le_trans LW.size E.size) ?_)))))))
     intro v0 w13 On En KN;obtain ⟨A3, c3, rfl⟩ := vf On;replace KN : ∀ q9, ((Value.slice A3 (1 + i.l.length) c3).ownBlock) = some q9 → ((Value.slice Aq6 1 cq6).ownBlock) = some q9 ∨ w7.heap.size ≤ q9 := KN
     have HY : Gro (Mut [((Value.slice A3 (1 + i.l.length) c3).ownBlock)]) (Mut [((Value.slice Aq6 1 cq6).ownBlock)]) w7 := (Mut.grow Mut.none_ (fun k e => (KN k e).elim (fun e => Or.inl (Mut.head k e)) (fun h => Or.inr (Nat.le_trans E.size h))));replace E := E.step1 En Mut.head
     have XT := fun q9 (h : (Mut [((Value.slice A3 (1 + i.l.length) c3).ownBlock)]) q9) => (HY q9 h).elim (XLW q9) (fun h => Or.inr (Nat.le_trans LW.size h));replace LW := LW.step E XLW;replace XLW := XT;replace E := erx (Mut [((Value.slice A3 (1 + i.l.length) c3).ownBlock)]) w13;clear HY
     replace Ol : World.ownsRow w13 w.heap.size 3 1 (.slice A3 (1 + i.l.length) c3) (1 + i.l.length) ([.int .i64 i.a] ++ qx i.l) := by
      have e : (([.int .i64 i.a]) : List Value) ++ (qx i.l : List Value) = [.int .i64 i.a] ++ qx i.l := rfl;rw [← e];exact On
     clear On KN En;have e := gg i hA hB hL;refine anx rfl (srx (mvx rfl (anx rfl (zr (zp (rs := [.tmp 2]) (vs := [_]) rfl ⟨rfl, trivial⟩ ?_)))));exact qm (by rw [e]; simp; try omega) (by rw [e]; simp [qx]) Ol (LW.step E XLW).toBelow
    ·
     have hL : (uL i.op && i.op != 35) = false := by rw [h35]; simp
     refine zj (ze (srx (mvx rfl (anx rfl (zr ?_)))));have e := gg i hA hB hL;refine zp (rs := [.tmp 2]) (vs := [_]) rfl ⟨rfl, trivial⟩ ?_;exact qm (by rw [e]; simp) (by rw [e]; simp [qx]) Ol (LW.step E XLW).toBelow
 ·
  refine zj (ze (zf (srx (mvx rfl (za rfl (vc rfl rfl (vh i.op 8 (by decide)) (za rfl (qn rfl rfl (rnx (zu 18 (.bool (uB i.op)) rfl ((by rw [show (8 : Nat) = 2 ^ 3 from rfl, jf, bitB] : (.bool (((flN i.op &&& 8 : Nat) : Int) != 0) : Value) = _)) (zt rfl (fun hB => ?_) (fun hB => ?_))))))))))))
  ·
   refine zi (mvx rfl (za rfl (zb Tryd.underlying40 rfl sz3 (by decide) rfl (za rfl (zl Tryd.underlying3 rfl rfl (HF.on E).here.2 rfl (za rfl (qa (cs := #[.int .i64 i.b]) Tryd.underlying38 sz3 zr3 (by decide) rfl (by rw [qt]; rfl) ?_)))))));intro gb14 w15 Bb14 Eb14 Gb14
   have Db14_l : Apart (some gb14) ((Value.slice none 0 0).ownBlock) := Apart.of_lt (vk Ol) Gb14;have Dl_b14 := Db14_l.symm;have Gb14 : _ ≤ gb14 := Nat.le_trans E.size Gb14;have GLb14 := Nat.le_trans LW.size Gb14;replace Ol := ji Ol Eb14 NotIn.nil;replace E := E.trans Eb14.no;replace HF := HF.cons (yb Gb14);replace E := E.cons (some gb14)
   replace XLW := Mut.grow XLW (fun k e => Or.inr (Nat.le_trans LW.size ((yb Gb14) k e)));replace HF := HF.on E;replace LW := LW.step E XLW;have SB : ∀ q9, Mut [((Value.slice none 0 0).ownBlock)] q9 → Mut [(some gb14), ((Value.slice none 0 0).ownBlock)] q9 := (Mut.skip (Mut.keep Mut.nil_));replace HF := HF.less SB;replace XLW := fun k h => XLW k (SB k h);clear SB
   replace E := erx (Mut [((Value.slice none 0 0).ownBlock)]) w15;replace HF := HF.and (Per.blkN Bb14 (NotIn.cons Db14_l NotIn.nil))
   refine za rfl (jj (news := [.int .i64 i.b]) Tryd.underlying38 inf3 rfl (by decide) rfl Ol rfl (xg (HF.on E).here.2 ((HF.on E).here.2).lt rfl) (by simp [Value.oneCell']) (by unfold maxLen; omega) (by omega) (by exact Nat.le_trans LW.size E.size) ?_);intro v0 w17 On En KN;obtain ⟨Aq16, cq16, rfl⟩ := vf On
   replace KN : ∀ q9, ((Value.slice Aq16 1 cq16).ownBlock) = some q9 → ((Value.slice none 0 0).ownBlock) = some q9 ∨ w15.heap.size ≤ q9 := KN;have HY : Gro (Mut [((Value.slice Aq16 1 cq16).ownBlock)]) (Mut [((Value.slice none 0 0).ownBlock)]) w15 := (Mut.grow Mut.none_ (fun k e => (KN k e).elim (fun e => Or.inl (Mut.head k e)) (fun h => Or.inr (Nat.le_trans E.size h))))
   replace E := E.step1 En Mut.head;replace HF := HF.turn E HY;have XT := fun q9 (h : (Mut [((Value.slice Aq16 1 cq16).ownBlock)]) q9) => (HY q9 h).elim (XLW q9) (fun h => Or.inr (Nat.le_trans LW.size h));replace LW := LW.step E XLW;replace XLW := XT;replace E := erx (Mut [((Value.slice Aq16 1 cq16).ownBlock)]) w17;clear HY
   replace Ol : World.ownsRow w17 w.heap.size 3 1 (.slice Aq16 1 cq16) 1 ([.int .i64 i.b]) := by
    have e : (([]) : List Value) ++ ([.int .i64 i.b] : List Value) = [.int .i64 i.b] := rfl;rw [← e];exact On
   clear On KN En;refine anx rfl (zf (srx (mvx rfl (za rfl (vc rfl rfl (vh i.op 992 (by decide)) (za rfl (qn rfl rfl (mvx rfl ?_))))))));by_cases hu : flN i.op &&& 992 = 0
   ·
    have hL : (uL i.op && i.op != 35) = false := by rw [yfk, hu]; rfl
    refine yd 27 (.bool false) rfl ((by rw [hu]; rfl : (.bool (((flN i.op &&& 992 : Nat) : Int) != 0) : Value) = _)) (za rfl (zc rfl (za rfl (zc rfl (za rfl (zc rfl (za rfl (ya rfl rfl (rnx (zy rfl (zj (ze (srx (mvx rfl (anx rfl (zr ?_))))))))))))))));have e := gg i hA hB hL
    refine zp (rs := [.tmp 2]) (vs := [_]) rfl ⟨rfl, trivial⟩ ?_;exact qm (by rw [e]; simp) (by rw [e]; simp [qx]) Ol (LW.step E XLW).toBelow
   ·
    refine yd 27 (.bool true) rfl ((by rw [nat_ne]; simp [hu] : (.bool (((flN i.op &&& 992 : Nat) : Int) != 0) : Value) = _)) (onx rfl (zb Tryd.underlying40 rfl sz3 (by decide) rfl (onx rfl (zl Tryd.underlying3 rfl rfl (HF.on E).here.1.2 rfl (onx rfl (qn rfl rfl (za rfl (zw rfl rfl (rnx (zt rfl (fun h35 => ?_) (fun h35 => ?_)))))))))))
    ·
     have hL : (uL i.op && i.op != 35) = true := by rw [yfk, h35]; simp [hu]
     refine zi (mvx rfl (za rfl (zb Tryd.underlying40 rfl xy (by decide) rfl (za rfl (zl Tryd.underlying38 rfl rfl (HF.on E).here.1.2 rfl (za rfl (jj (news := qx i.l) Tryd.underlying38 inf3 rfl (by decide) rfl Ol rfl (((HF.on E).here.1.1.2).reads (Nat.le_trans hn (Nat.le_trans LW.size E.size))) (oo) (by unfold maxLen; omega) (by omega) (by exact Nat.le_trans LW.size E.size) ?_)))))))
     intro v0 w18 On En KN;obtain ⟨A3, c3, rfl⟩ := vf On;replace KN : ∀ q9, ((Value.slice A3 (1 + i.l.length) c3).ownBlock) = some q9 → ((Value.slice Aq16 1 cq16).ownBlock) = some q9 ∨ w17.heap.size ≤ q9 := KN
     have HY : Gro (Mut [((Value.slice A3 (1 + i.l.length) c3).ownBlock)]) (Mut [((Value.slice Aq16 1 cq16).ownBlock)]) w17 := (Mut.grow Mut.none_ (fun k e => (KN k e).elim (fun e => Or.inl (Mut.head k e)) (fun h => Or.inr (Nat.le_trans E.size h))));replace E := E.step1 En Mut.head
     have XT := fun q9 (h : (Mut [((Value.slice A3 (1 + i.l.length) c3).ownBlock)]) q9) => (HY q9 h).elim (XLW q9) (fun h => Or.inr (Nat.le_trans LW.size h));replace LW := LW.step E XLW;replace XLW := XT;replace E := erx (Mut [((Value.slice A3 (1 + i.l.length) c3).ownBlock)]) w18;clear HY
     replace Ol : World.ownsRow w18 w.heap.size 3 1 (.slice A3 (1 + i.l.length) c3) (1 + i.l.length) ([.int .i64 i.b] ++ qx i.l) := by
      have e : (([.int .i64 i.b]) : List Value) ++ (qx i.l : List Value) = [.int .i64 i.b] ++ qx i.l := rfl;rw [← e];exact On
     clear On KN En;have e := gg i hA hB hL;refine anx rfl (srx (mvx rfl (anx rfl (zr (zp (rs := [.tmp 2]) (vs := [_]) rfl ⟨rfl, trivial⟩ ?_)))));exact qm (by rw [e]; simp; try omega) (by rw [e]; simp [qx]) Ol (LW.step E XLW).toBelow
    ·
     have hL : (uL i.op && i.op != 35) = false := by rw [h35]; simp
     refine zj (ze (srx (mvx rfl (anx rfl (zr ?_)))));have e := gg i hA hB hL;refine zp (rs := [.tmp 2]) (vs := [_]) rfl ⟨rfl, trivial⟩ ?_;exact qm (by rw [e]; simp) (by rw [e]; simp [qx]) Ol (LW.step E XLW).toBelow
  ·
   refine zj (ze (zf (srx (mvx rfl (za rfl (vc rfl rfl (vh i.op 992 (by decide)) (za rfl (qn rfl rfl (mvx rfl ?_)))))))));by_cases hu : flN i.op &&& 992 = 0
   ·
    have hL : (uL i.op && i.op != 35) = false := by rw [yfk, hu]; rfl
    refine yd 27 (.bool false) rfl ((by rw [hu]; rfl : (.bool (((flN i.op &&& 992 : Nat) : Int) != 0) : Value) = _)) (za rfl (zc rfl (za rfl (zc rfl (za rfl (zc rfl (za rfl (ya rfl rfl (rnx (zy rfl (zj (ze (srx (mvx rfl (anx rfl (zr ?_))))))))))))))));have e := gg i hA hB hL
    refine zp (rs := [.tmp 2]) (vs := [_]) rfl ⟨rfl, trivial⟩ ?_;exact qm (by rw [e]; simp) (by rw [e]; simp [qx]) Ol (LW.step E XLW).toBelow
   ·
    refine yd 27 (.bool true) rfl ((by rw [nat_ne]; simp [hu] : (.bool (((flN i.op &&& 992 : Nat) : Int) != 0) : Value) = _)) (onx rfl (zb Tryd.underlying40 rfl sz3 (by decide) rfl (onx rfl (zl Tryd.underlying3 rfl rfl (HF.on E).here.2 rfl (onx rfl (qn rfl rfl (za rfl (zw rfl rfl (rnx (zt rfl (fun h35 => ?_) (fun h35 => ?_)))))))))))
    ·
     have hL : (uL i.op && i.op != 35) = true := by rw [yfk, h35]; simp [hu]
     refine zi (mvx rfl (za rfl (zb Tryd.underlying40 rfl xy (by decide) rfl (za rfl (zl Tryd.underlying38 rfl rfl (HF.on E).here.2 rfl (za rfl (jj (news := qx i.l) Tryd.underlying38 inf3 rfl (by decide) rfl Ol rfl (((HF.on E).here.1.2).reads (Nat.le_trans hn (Nat.le_trans LW.size E.size))) (oo) (by unfold maxLen; omega) (by omega) (by exact Nat.le_trans LW.size E.size) ?_)))))))
     intro v0 w19 On En KN;obtain ⟨A3, c3, rfl⟩ := vf On;replace KN : ∀ q9, ((Value.slice A3 (0 + i.l.length) c3).ownBlock) = some q9 → ((Value.slice none 0 0).ownBlock) = some q9 ∨ w3.heap.size ≤ q9 := KN
     have HY : Gro (Mut [((Value.slice A3 (0 + i.l.length) c3).ownBlock)]) (Mut [((Value.slice none 0 0).ownBlock)]) w2 := (Mut.grow Mut.none_ (fun k e => (KN k e).elim (fun e => Or.inl (Mut.head k e)) (fun h => Or.inr (Nat.le_trans E.size h))));replace E := E.step1 En Mut.head
     have XT := fun q9 (h : (Mut [((Value.slice A3 (0 + i.l.length) c3).ownBlock)]) q9) => (HY q9 h).elim (XLW q9) (fun h => Or.inr (Nat.le_trans LW.size h));replace LW := LW.step E XLW;replace XLW := XT;replace E := erx (Mut [((Value.slice A3 (0 + i.l.length) c3).ownBlock)]) w19;clear HY
     replace Ol : World.ownsRow w19 w.heap.size 3 1 (.slice A3 (0 + i.l.length) c3) (0 + i.l.length) ([] ++ qx i.l) := by
      have e : (([]) : List Value) ++ (qx i.l : List Value) = [] ++ qx i.l := rfl;rw [← e];exact On
     clear On KN En;have e := gg i hA hB hL;refine anx rfl (srx (mvx rfl (anx rfl (zr (zp (rs := [.tmp 2]) (vs := [_]) rfl ⟨rfl, trivial⟩ ?_)))));exact qm (by rw [e]; simp; try omega) (by rw [e]; simp [qx]) Ol (LW.step E XLW).toBelow
    ·
     have hL : (uL i.op && i.op != 35) = false := by rw [h35]; simp
     refine zj (ze (srx (mvx rfl (anx rfl (zr ?_)))));have e := gg i hA hB hL;refine zp (rs := [.tmp 2]) (vs := [_]) rfl ⟨rfl, trivial⟩ ?_;exact qm (by rw [e]; simp) (by rw [e]; simp [qx]) Ol (LW.step E XLW).toBelow
theorem writes_any (hn : n0 ≤ w.heap.size) : Calls Tryd.prog 9 #[.agg #[.int .i64 i.op, .int .i64 i.d, .int .i64 i.a, .int .i64 i.b, .int .i64 i.t, .int .i64 i.k, .slice B i.l.length c]] w (ymq w (qh i)) := by
 have hll := hl.len;refine yl Tryd.func9 rfl Tryd.ntmps9 rfl ?_;have HF : Per (No) w (fun _ => True) := Per.true_;have LW := erx (No) w;have XLW := grx (No) w;have E := erx (No) w;replace HF := HF.on E;replace LW := LW.step E XLW;replace E := erx (No) w;replace HF := HF.and (Per.ints hl (fun _ h => h.elim));refine srx (za rfl (jy rfl ?_));intro gb1 w2 Bb1 Eb1 Gb1
 have Gb1 : _ ≤ gb1 := Nat.le_trans E.size Gb1;have GLb1 := Nat.le_trans LW.size Gb1;replace E := E.trans Eb1.no;replace HF := HF.cons (yb Gb1);replace E := E.cons (some gb1);replace XLW := Mut.grow XLW (fun k e => Or.inr (Nat.le_trans LW.size ((yb Gb1) k e)));replace HF := HF.on E;replace LW := LW.step E XLW;have SB : ∀ q9, No q9 → Mut [(some gb1)] q9 := (Mut.skip Mut.nil_)
 replace HF := HF.less SB;replace XLW := fun k h => XLW k (SB k h);clear SB;replace E := erx (No) w2;replace HF := HF.and (Per.blkN Bb1 NotIn.nil)
 refine anx rfl (zf (zx (srx (za rfl (zb Tryd.underlying40 rfl sz3 (by decide) rfl (za rfl (zl Tryd.underlying3 rfl rfl (HF.on E).here.2 rfl (za rfl (ye rfl rfl (anx rfl (zt rfl (fun h35 => ?_) (fun h35 => ?_))))))))))))
 ·
  have h35 := eq_of_beq h35;have e : qh i = i.l := by unfold qh; rw [if_pos h35]
  have Ol : World.ownsRow w2 w.heap.size 3 1 (.slice none 0 0) 0 ([]) := jd;replace HF := HF.cons (ju);replace E := E.cons ((Value.slice none 0 0).ownBlock);replace XLW := Mut.grow XLW (fun k e => Or.inr (Nat.le_trans LW.size ((ju) k e)))
  refine srx (za rfl (zb Tryd.underlying40 rfl xy (by decide) rfl (za rfl (zl Tryd.underlying38 rfl rfl (HF.on E).here.2 rfl (za rfl (jj (news := qx i.l) Tryd.underlying38 inf3 rfl (by decide) rfl Ol rfl (((HF.on E).here.1.2).reads (Nat.le_trans hn (Nat.le_trans LW.size E.size))) (oo) (by unfold maxLen; omega) (by omega) (by exact Nat.le_trans LW.size E.size) ?_))))))
  intro v0 w3 On En KN;obtain ⟨A3, c3, rfl⟩ := vf On;replace KN : ∀ q9, ((Value.slice A3 (0 + i.l.length) c3).ownBlock) = some q9 → ((Value.slice none 0 0).ownBlock) = some q9 ∨ w2.heap.size ≤ q9 := KN
  have HY : Gro (Mut [((Value.slice A3 (0 + i.l.length) c3).ownBlock)]) (Mut [((Value.slice none 0 0).ownBlock)]) w2 := (Mut.grow Mut.none_ (fun k e => (KN k e).elim (fun e => Or.inl (Mut.head k e)) (fun h => Or.inr (Nat.le_trans E.size h))));replace E := E.step1 En Mut.head
  have XT := fun q9 (h : (Mut [((Value.slice A3 (0 + i.l.length) c3).ownBlock)]) q9) => (HY q9 h).elim (XLW q9) (fun h => Or.inr (Nat.le_trans LW.size h));replace LW := LW.step E XLW;replace XLW := XT;replace E := erx (Mut [((Value.slice A3 (0 + i.l.length) c3).ownBlock)]) w3;clear HY;replace Ol : World.ownsRow w3 w.heap.size 3 1 (.slice A3 (0 + i.l.length) c3) (0 + i.l.length) (qx i.l) := by
   have e : (([]) : List Value) ++ (qx i.l : List Value) = qx i.l := rfl;rw [← e];exact On
  clear On KN En;refine anx rfl (zr (zn (zd (zp (rs := [.tmp 2]) (vs := [_]) rfl ⟨rfl, trivial⟩ ?_))));exact qm (by rw [e]; simp) (by rw [e]) Ol (LW.step E XLW).toBelow
 ·
  have h35 := beq_eq_false_iff_ne.1 h35;refine srx (za rfl (zb Tryd.underlying40 rfl sz3 (by decide) rfl (za rfl (zl Tryd.underlying3 rfl rfl (HF.on E).here.2 rfl (za rfl (zz en16 rfl ((ydq _ i.op).mono ?_)))))));rintro e w4 ⟨rfl, hb⟩;refine ⟨_, rfl, ?_⟩;replace E := blx E hb
  refine za rfl (vc rfl rfl (vh i.op 2 (by decide)) (za rfl (qn rfl rfl (anx rfl (zu 10 (.bool (uD i.op)) rfl ((by rw [show (2 : Nat) = 2 ^ 1 from rfl, jf, bitD] : (.bool (((flN i.op &&& 2 : Nat) : Int) != 0) : Value) = _)) (zt rfl (fun h1 => ?_) (fun h1 => ?_)))))))
  ·
   refine zu 10 (.bool true) rfl (congrArg Value.bool h1) (srx (za rfl (zb Tryd.underlying40 rfl sz3 (by decide) rfl (za rfl (zl Tryd.underlying3 rfl rfl (HF.on E).here.2 rfl (za rfl (qa (cs := #[.int .i64 i.d]) Tryd.underlying38 sz3 zr3 (by decide) rfl (by rw [qt]; rfl) ?_)))))));intro gb5 w6 Bb5 Eb5 Gb5
   have Gb5 : _ ≤ gb5 := Nat.le_trans E.size Gb5;have GLb5 := Nat.le_trans LW.size Gb5;replace E := E.trans Eb5.no;replace HF := HF.cons (yb Gb5);replace E := E.cons (some gb5);replace XLW := Mut.grow XLW (fun k e => Or.inr (Nat.le_trans LW.size ((yb Gb5) k e)));replace HF := HF.on E;replace LW := LW.step E XLW;have SB : ∀ q9, No q9 → Mut [(some gb5)] q9 := (Mut.skip Mut.nil_)
   replace HF := HF.less SB;replace XLW := fun k h => XLW k (SB k h);clear SB;replace E := erx (No) w6;replace HF := HF.and (Per.blkN Bb5 NotIn.nil);refine anx rfl (zr (zn (zd (zp (rs := [.tmp 2]) (vs := [_]) rfl ⟨rfl, trivial⟩ ?_))));have e : qh i = if uD i.op = true then [i.d] else [] := by unfold qh; rw [if_neg h35]
   first | exact qm (by rw [e, h1]; rfl) (by rw [e, h1]; rfl) (ku ((HF.on E).here.2) GLb5 rfl (by unfold maxLen; omega)) (LW.step E XLW).toBelow | exact qm (by rw [e, h1]; rfl) (by rw [e, h1]; rfl) jd (LW.step E XLW).toBelow
  ·
   refine zu 10 (.bool false) rfl (congrArg Value.bool h1) (zj (zm (ze (srx (anx rfl (zr (zp (rs := [.tmp 2]) (vs := [_]) rfl ⟨rfl, trivial⟩ ?_)))))));have e : qh i = if uD i.op = true then [i.d] else [] := by unfold qh; rw [if_neg h35]
   first | exact qm (by rw [e, h1]; rfl) (by rw [e, h1]; rfl) (ku ((HF.on E).here.2) GLb1 rfl (by unfold maxLen; omega)) (LW.step E XLW).toBelow | exact qm (by rw [e, h1]; rfl) (by rw [e, h1]; rfl) jd (LW.step E XLW).toBelow
end
section
variable (w : World) (i : LIns) (B : Option Addr) (c : Nat) (p : Int) (hp : I64 p)
include hp
theorem goes_any : Calls Tryd.prog 10 #[.agg #[.int .i64 i.op, .int .i64 i.d, .int .i64 i.a, .int .i64 i.b, .int .i64 i.t, .int .i64 i.k, .slice B i.l.length c], .int .i64 p] w (ymq w (qp i p)) := by
 refine yl Tryd.func10 rfl Tryd.ntmps10 rfl ?_;have HF : Per (No) w (fun _ => True) := Per.true_;have LW := erx (No) w;have XLW := grx (No) w;have E := erx (No) w;refine srx (za rfl (jy rfl ?_));intro gb1 w2 Bb1 Eb1 Gb1;have Gb1 : _ ≤ gb1 := Nat.le_trans E.size Gb1;have GLb1 := Nat.le_trans LW.size Gb1;replace E := E.trans Eb1.no;replace HF := HF.cons (yb Gb1)
 replace E := E.cons (some gb1);replace XLW := Mut.grow XLW (fun k e => Or.inr (Nat.le_trans LW.size ((yb Gb1) k e)));replace HF := HF.on E;replace LW := LW.step E XLW;have SB : ∀ q9, No q9 → Mut [(some gb1)] q9 := (Mut.skip Mut.nil_);replace HF := HF.less SB;replace XLW := fun k h => XLW k (SB k h);clear SB;replace E := erx (No) w2;replace HF := HF.and (Per.blkN Bb1 NotIn.nil)
 refine anx rfl (srx (mvx rfl (mvx rfl (za rfl (yg rfl rfl rfl (za rfl (ow_max rfl rfl (yd 9 (.int .i64 (zkv p)) rfl (congrArg _ (next_wrap hp)) (anx rfl (zf (srx (za rfl (zb Tryd.underlying40 rfl sz3 (by decide) rfl (za rfl (zl Tryd.underlying3 rfl rfl (HF.on E).here.2 rfl (rnx (zx (srx (za rfl (ye rfl rfl (anx rfl (zt rfl (fun h1 => ?_) (fun h1 => ?_)))))))))))))))))))))))
 ·
  refine zu 12 (.bool true) rfl (congrArg Value.bool h1) ?_;replace h1 := eq_of_beq h1;refine srx (za rfl (zb Tryd.underlying40 rfl sz3 (by decide) rfl (za rfl (zl Tryd.underlying3 rfl rfl (HF.on E).here.2 rfl (za rfl (qa (cs := #[.int .i64 i.t]) Tryd.underlying38 sz3 zr3 (by decide) rfl (by rw [qt]; rfl) ?_))))));intro gb3 w4 Bb3 Eb3 Gb3
  have Gb3 : _ ≤ gb3 := Nat.le_trans E.size Gb3;have GLb3 := Nat.le_trans LW.size Gb3;replace E := E.trans Eb3.no;replace HF := HF.cons (yb Gb3);replace E := E.cons (some gb3);replace XLW := Mut.grow XLW (fun k e => Or.inr (Nat.le_trans LW.size ((yb Gb3) k e)));replace HF := HF.on E;replace LW := LW.step E XLW;have SB : ∀ q9, No q9 → Mut [(some gb3)] q9 := (Mut.skip Mut.nil_)
  replace HF := HF.less SB;replace XLW := fun k h => XLW k (SB k h);clear SB;replace E := erx (No) w4;replace HF := HF.and (Per.blkN Bb3 NotIn.nil);refine anx rfl (zr (zn (zd (zp (rs := [.tmp 4]) (vs := [_]) rfl ⟨rfl, trivial⟩ ?_))))
  first | exact qm (by unfold qp; (repeat' split) <;> first | rfl | (exfalso; omega)) (by unfold qp; (repeat' split) <;> first | rfl | (exfalso; omega)) (ku ((HF.on E).here.2) GLb3 rfl (by unfold maxLen; omega)) (LW.step E XLW).toBelow | exact qm (by unfold qp; (repeat' split) <;> first | rfl | (exfalso; omega)) (by unfold qp; (repeat' split) <;> first | rfl | (exfalso; omega)) jd (LW.step E XLW).toBelow
 ·
  refine zu 12 (.bool false) rfl (congrArg Value.bool h1) ?_;replace h1 := beq_eq_false_iff_ne.1 h1;refine zf (srx (za rfl (ye rfl rfl (anx rfl (zt rfl (fun h2 => ?_) (fun h2 => ?_))))))
  ·
   refine zu 17 (.bool true) rfl (congrArg Value.bool h2) ?_;replace h2 := eq_of_beq h2;refine zj (ze (yi rfl (srx (anx rfl (zr (zn (zd (zp (rs := [.tmp 4]) (vs := [_]) rfl ⟨rfl, trivial⟩ ?_))))))))
   first | exact qm (by unfold qp; (repeat' split) <;> first | rfl | (exfalso; omega)) (by unfold qp; (repeat' split) <;> first | rfl | (exfalso; omega)) (ku ((HF.on E).here.2) GLb1 rfl (by unfold maxLen; omega)) (LW.step E XLW).toBelow | exact qm (by unfold qp; (repeat' split) <;> first | rfl | (exfalso; omega)) (by unfold qp; (repeat' split) <;> first | rfl | (exfalso; omega)) jd (LW.step E XLW).toBelow
  ·
   refine zu 17 (.bool false) rfl (congrArg Value.bool h2) ?_;replace h2 := beq_eq_false_iff_ne.1 h2;refine zi (za rfl (ye rfl rfl (anx rfl (zt rfl (fun h3 => ?_) (fun h3 => ?_)))))
   ·
    refine zu 17 (.bool true) rfl (congrArg Value.bool h3) ?_;replace h3 := eq_of_beq h3;refine srx (anx rfl (zr (zn (zd (zp (rs := [.tmp 4]) (vs := [_]) rfl ⟨rfl, trivial⟩ ?_)))))
    first | exact qm (by unfold qp; (repeat' split) <;> first | rfl | (exfalso; omega)) (by unfold qp; (repeat' split) <;> first | rfl | (exfalso; omega)) (ku ((HF.on E).here.2) GLb1 rfl (by unfold maxLen; omega)) (LW.step E XLW).toBelow | exact qm (by unfold qp; (repeat' split) <;> first | rfl | (exfalso; omega)) (by unfold qp; (repeat' split) <;> first | rfl | (exfalso; omega)) jd (LW.step E XLW).toBelow
   ·
    refine zu 17 (.bool false) rfl (congrArg Value.bool h3) ?_;replace h3 := beq_eq_false_iff_ne.1 h3;refine zf (srx (za rfl (ye rfl rfl (anx rfl (zt rfl (fun h4 => ?_) (fun h4 => ?_))))))
    ·
     refine zu 20 (.bool true) rfl (congrArg Value.bool h4) ?_;replace h4 := eq_of_beq h4
     refine zj (ze (yi rfl (srx (mvx rfl (za rfl (zb Tryd.underlying40 rfl sz3 (by decide) rfl (za rfl (zl Tryd.underlying3 rfl rfl (HF.on E).here.2 rfl (za rfl (qa (cs := #[.int .i64 (zkv p), .int .i64 i.t]) Tryd.underlying38 sz3 zr3 (by decide) rfl (by rw [qt]; rfl) ?_))))))))));intro gb5 w6 Bb5 Eb5 Gb5
     have Gb5 : _ ≤ gb5 := Nat.le_trans E.size Gb5;have GLb5 := Nat.le_trans LW.size Gb5;replace E := E.trans Eb5.no;replace HF := HF.cons (yb Gb5);replace E := E.cons (some gb5);replace XLW := Mut.grow XLW (fun k e => Or.inr (Nat.le_trans LW.size ((yb Gb5) k e)));replace HF := HF.on E;replace LW := LW.step E XLW;have SB : ∀ q9, No q9 → Mut [(some gb5)] q9 := (Mut.skip Mut.nil_)
     replace HF := HF.less SB;replace XLW := fun k h => XLW k (SB k h);clear SB;replace E := erx (No) w6;replace HF := HF.and (Per.blkN Bb5 NotIn.nil);refine anx rfl (zr (zn (zd (zp (rs := [.tmp 4]) (vs := [_]) rfl ⟨rfl, trivial⟩ ?_))))
     first | exact qm (by unfold qp; (repeat' split) <;> first | rfl | (exfalso; omega)) (by unfold qp; (repeat' split) <;> first | rfl | (exfalso; omega)) (ku ((HF.on E).here.2) GLb5 rfl (by unfold maxLen; omega)) (LW.step E XLW).toBelow | exact qm (by unfold qp; (repeat' split) <;> first | rfl | (exfalso; omega)) (by unfold qp; (repeat' split) <;> first | rfl | (exfalso; omega)) jd (LW.step E XLW).toBelow
    ·
     refine zu 20 (.bool false) rfl (congrArg Value.bool h4) ?_;replace h4 := beq_eq_false_iff_ne.1 h4;refine srx (za rfl (ye rfl rfl (anx rfl (zt rfl (fun h5 => ?_) (fun h5 => ?_)))))
     ·
      refine zu 20 (.bool true) rfl (congrArg Value.bool h5) ?_;replace h5 := eq_of_beq h5
      refine zj (ze (yi rfl (srx (mvx rfl (za rfl (zb Tryd.underlying40 rfl sz3 (by decide) rfl (za rfl (zl Tryd.underlying3 rfl rfl (HF.on E).here.2 rfl (za rfl (qa (cs := #[.int .i64 (zkv p), .int .i64 i.t]) Tryd.underlying38 sz3 zr3 (by decide) rfl (by rw [qt]; rfl) ?_))))))))));intro gb7 w8 Bb7 Eb7 Gb7
      have Gb7 : _ ≤ gb7 := Nat.le_trans E.size Gb7;have GLb7 := Nat.le_trans LW.size Gb7;replace E := E.trans Eb7.no;replace HF := HF.cons (yb Gb7);replace E := E.cons (some gb7);replace XLW := Mut.grow XLW (fun k e => Or.inr (Nat.le_trans LW.size ((yb Gb7) k e)));replace HF := HF.on E;replace LW := LW.step E XLW;have SB : ∀ q9, No q9 → Mut [(some gb7)] q9 := (Mut.skip Mut.nil_)
      replace HF := HF.less SB;replace XLW := fun k h => XLW k (SB k h);clear SB;replace E := erx (No) w8;replace HF := HF.and (Per.blkN Bb7 NotIn.nil);refine anx rfl (zr (zn (zd (zp (rs := [.tmp 4]) (vs := [_]) rfl ⟨rfl, trivial⟩ ?_))))
      first | exact qm (by unfold qp; (repeat' split) <;> first | rfl | (exfalso; omega)) (by unfold qp; (repeat' split) <;> first | rfl | (exfalso; omega)) (ku ((HF.on E).here.2) GLb7 rfl (by unfold maxLen; omega)) (LW.step E XLW).toBelow | exact qm (by unfold qp; (repeat' split) <;> first | rfl | (exfalso; omega)) (by unfold qp; (repeat' split) <;> first | rfl | (exfalso; omega)) jd (LW.step E XLW).toBelow
     ·
      refine zu 20 (.bool false) rfl (congrArg Value.bool h5) ?_;replace h5 := beq_eq_false_iff_ne.1 h5;refine zi (za rfl (ye rfl rfl (anx rfl (zt rfl (fun h6 => ?_) (fun h6 => ?_)))))
      ·
       refine zu 20 (.bool true) rfl (congrArg Value.bool h6) ?_;replace h6 := eq_of_beq h6
       refine srx (mvx rfl (za rfl (zb Tryd.underlying40 rfl sz3 (by decide) rfl (za rfl (zl Tryd.underlying3 rfl rfl (HF.on E).here.2 rfl (za rfl (qa (cs := #[.int .i64 (zkv p), .int .i64 i.t]) Tryd.underlying38 sz3 zr3 (by decide) rfl (by rw [qt]; rfl) ?_)))))));intro gb9 w10 Bb9 Eb9 Gb9;have Gb9 : _ ≤ gb9 := Nat.le_trans E.size Gb9
       have GLb9 := Nat.le_trans LW.size Gb9;replace E := E.trans Eb9.no;replace HF := HF.cons (yb Gb9);replace E := E.cons (some gb9);replace XLW := Mut.grow XLW (fun k e => Or.inr (Nat.le_trans LW.size ((yb Gb9) k e)));replace HF := HF.on E;replace LW := LW.step E XLW;have SB : ∀ q9, No q9 → Mut [(some gb9)] q9 := (Mut.skip Mut.nil_);replace HF := HF.less SB
       replace XLW := fun k h => XLW k (SB k h);clear SB;replace E := erx (No) w10;replace HF := HF.and (Per.blkN Bb9 NotIn.nil);refine anx rfl (zr (zn (zd (zp (rs := [.tmp 4]) (vs := [_]) rfl ⟨rfl, trivial⟩ ?_))))
       first | exact qm (by unfold qp; (repeat' split) <;> first | rfl | (exfalso; omega)) (by unfold qp; (repeat' split) <;> first | rfl | (exfalso; omega)) (ku ((HF.on E).here.2) GLb9 rfl (by unfold maxLen; omega)) (LW.step E XLW).toBelow | exact qm (by unfold qp; (repeat' split) <;> first | rfl | (exfalso; omega)) (by unfold qp; (repeat' split) <;> first | rfl | (exfalso; omega)) jd (LW.step E XLW).toBelow
      ·
       refine zu 20 (.bool false) rfl (congrArg Value.bool h6) ?_;replace h6 := beq_eq_false_iff_ne.1 h6;refine zj (zm (ze (srx (mvx rfl (za rfl (qa (cs := #[.int .i64 (zkv p)]) Tryd.underlying38 sz3 zr3 (by decide) rfl (by rw [qt]; rfl) ?_))))));intro gb11 w12 Bb11 Eb11 Gb11;have Gb11 : _ ≤ gb11 := Nat.le_trans E.size Gb11
       have GLb11 := Nat.le_trans LW.size Gb11;replace E := E.trans Eb11.no;replace HF := HF.cons (yb Gb11);replace E := E.cons (some gb11);replace XLW := Mut.grow XLW (fun k e => Or.inr (Nat.le_trans LW.size ((yb Gb11) k e)));replace HF := HF.on E;replace LW := LW.step E XLW;have SB : ∀ q9, No q9 → Mut [(some gb11)] q9 := (Mut.skip Mut.nil_);replace HF := HF.less SB
       replace XLW := fun k h => XLW k (SB k h);clear SB;replace E := erx (No) w12;replace HF := HF.and (Per.blkN Bb11 NotIn.nil);refine anx rfl (zr (zp (rs := [.tmp 4]) (vs := [_]) rfl ⟨rfl, trivial⟩ ?_))
       first | exact qm (by unfold qp; (repeat' split) <;> first | rfl | (exfalso; omega)) (by unfold qp; (repeat' split) <;> first | rfl | (exfalso; omega)) (ku ((HF.on E).here.2) GLb11 rfl (by unfold maxLen; omega)) (LW.step E XLW).toBelow | exact qm (by unfold qp; (repeat' split) <;> first | rfl | (exfalso; omega)) (by unfold qp; (repeat' split) <;> first | rfl | (exfalso; omega)) jd (LW.step E XLW).toBelow
end
section
variable (w : World)
end
end Go.Proofs.YtmjbnhjgebjhlaaDoor
namespace Go.Proofs.YtmjbnhjgebjhlaaDoor
theorem ex34 : Ext_ Tryd.prog 34 Extern.MathFloatBits.float64frombits := ⟨_, Tryd.func34, by kernel_rfl, by kernel_rfl, by kernel_rfl, by kernel_rfl⟩
theorem ex38 : Ext_ Tryd.prog 38 Extern.MathFloatBits.float64bits := ⟨_, Tryd.func38, by kernel_rfl, by kernel_rfl, by kernel_rfl, by kernel_rfl⟩
theorem ex63 : Ext_ Tryd.prog 63 Extern.MathFloatBits.float64frombits := ⟨_, Tryd.func63, by kernel_rfl, by kernel_rfl, by kernel_rfl, by kernel_rfl⟩
end Go.Proofs.YtmjbnhjgebjhlaaDoor
namespace Go.Proofs.YtmjbnhjgebjhlaaDoor
open Go.RowKit
set_option maxRecDepth 100000
def yiq (m : Nat) : Nat := if isN m then 9221120237041090560 else m
def zaz (z : Option Nat) : Nat := z.getD 9221120237041090560
theorem FRes.bare {op : BinOp} {a b r : Nat} {w w' : World} (h : FRes (fop op a b) r w w') : yiq r = zaz (fop op a b) := by
 rcases h with ⟨hz, _⟩ | ⟨hz, hn, _⟩
 · rw [hz]; unfold yiq zaz; rw [(zxv hz).1]; rfl
 · rw [hz]; unfold yiq zaz; rw [nan_isN hn]; rfl
theorem ford_self (m : Nat) : (xu m m != some .eq) = isN m := by
 cases h : isN m with
 | true => rw [ford_nan (.inl h)]; rfl
 | false => rw [ford_val h h, yeq]; rfl
theorem zox (m : Nat) (h : m < 18446744073709551616) : (BitVec.ofInt 64 (m : Int)).toNat = m := by
 rw [BitVec.toNat_ofInt];omega
theorem wrap_nat {m : Nat} (h : m < 18446744073709551616) : IntKind.u64.wrap (m : Int) = (m : Int) := wrap_u64 (by omega)
theorem xa {m n : Nat} (hm : m < 18446744073709551616) (hn : n < 18446744073709551616) : IntKind.u64.wrap (BitVec.ofInt IntKind.u64.bits (m : Int) &&& BitVec.ofInt IntKind.u64.bits (n : Int)).toNat = ((m &&& n : Nat) : Int) := by
 have h1 := zox m hm;have h2 := zox n hn;show IntKind.u64.wrap (((BitVec.ofInt 64 (m : Int) &&& BitVec.ofInt 64 (n : Int)).toNat : Nat) : Int) = _
 rw [BitVec.toNat_and, h1, h2];exact wrap_nat (Nat.lt_of_le_of_lt Nat.and_le_left hm)
def isZ (b : Nat) : Bool := decide (rg b = 0)
def divV (a b : Nat) : Nat := if isZ b then 0 else zaz (fop .quo a b)
def divE (b : Nat) : Int := if isZ b then 6 else 0
def ordI (x y : Int) : Int := if x < y then -1 else if x > y then 1 else 0
def ordered (a b : Nat) : Bool := !(isN a) && !(isN b)
def cmpF (a b : Nat) : Int := if ordered a b then ordI (pc a) (pc b) else 0
section
variable (w : World)
/-! ### package real -/
theorem bare_any (m : Nat) : Calls Tryd.prog 30 #[.float .f64 m] w fun e w' => e = .returned (.int .u64 ((yiq m : Nat) : Int)) ∧ Below w.heap.size w w' := by
 refine yl Tryd.func30 rfl Tryd.ntmps30 rfl ?_;have LW := erx (No) w;have XLW := grx (No) w;have E := erx (No) w;refine srx (anx rfl (zf (srx (mvx rfl (mvx rfl (za rfl (ow_fneq rfl rfl (rnx (zu 5 (.bool (isN m)) rfl ((by rw [ford_self] : (.bool (xu m m != some .eq) : Value) = _)) (zt rfl (fun h => ?_) (fun h => ?_)))))))))))
 ·
  refine srx (anx rfl (zr (zd (zp (rs := [.tmp 2]) (vs := [_]) rfl ⟨rfl, trivial⟩ ?_))));exact ⟨by rw [yiq, if_pos h]; rfl, (LW.step E XLW).toBelow⟩
 ·
  refine zj (ze (srx (mvx rfl (za rfl (ow_bits ex38 rfl (anx rfl (zr (zp (rs := [.tmp 2]) (vs := [_]) rfl ⟨rfl, trivial⟩ ?_))))))));exact ⟨by rw [yiq, if_neg (by rw [h]; decide)]; rfl, (LW.step E XLW).toBelow⟩
section
variable (a b : Nat)
end
end
/-! ### the document's -/
section
variable (w : World)
section
variable (a : Nat) (ha : a < 18446744073709551616)
include ha
end
section
variable (a b : Nat) (ha : a < 18446744073709551616) (hb : b < 18446744073709551616)
include ha hb
end
end
theorem ofInt_cast (m : Nat) : BitVec.ofInt 64 ((m : Nat) : Int) = BitVec.ofNat 64 m := BitVec.ofInt_natCast 64 m
theorem andNot_sign {a : Nat} (ha : a < 18446744073709551616) : IntKind.u64.wrap (BitVec.ofInt IntKind.u64.bits ((a : Nat) : Int) &&& ~~~BitVec.ofInt IntKind.u64.bits 9223372036854775808).toNat = ((rg a : Nat) : Int) := by
 have h := andNot_sign_nat ha;show IntKind.u64.wrap (((BitVec.ofInt 64 ((a : Nat) : Int) &&& ~~~BitVec.ofInt 64 ((9223372036854775808 : Nat) : Int)).toNat : Nat) : Int) = _
 rw [ofInt_cast, ofInt_cast, h];exact wrap_nat (Nat.lt_trans (rg_lt a) (by decide))
theorem ke {m n : Nat} (hm : m < 18446744073709551616) (hn : n < 18446744073709551616) : IntKind.u64.wrap (BitVec.ofInt IntKind.u64.bits (m : Int) ||| BitVec.ofInt IntKind.u64.bits (n : Int)).toNat = ((m ||| n : Nat) : Int) := by
 have h1 := zox m hm;have h2 := zox n hn;show IntKind.u64.wrap (((BitVec.ofInt 64 (m : Int) ||| BitVec.ofInt 64 (n : Int)).toNat : Nat) : Int) = _
 rw [BitVec.toNat_or, h1, h2];exact wrap_nat (Nat.or_lt_two_pow (n := 64) (by omega) (by omega))
theorem and_sign {a : Nat} (ha : a < 18446744073709551616) : IntKind.u64.wrap (BitVec.ofInt IntKind.u64.bits ((a : Nat) : Int) &&& BitVec.ofInt IntKind.u64.bits 9223372036854775808).toNat = ((if ng a then 9223372036854775808 else 0 : Nat) : Int) := by
 have := xa (n := 9223372036854775808) ha (by decide);rw [and_sign_nat a ha] at this;exact this
section
variable (w : World) (a : Nat) (ha : a < 18446744073709551616)
include ha
theorem copysign_any (b : Nat) (hb : b < 18446744073709551616) : Calls Tryd.prog 29 #[.float .f64 a, .float .f64 b] w fun e w' => e = .returned (.float .f64 (Ieee.double.word (ng b) (rg a))) ∧ Below w.heap.size w w' := by
 have hr := rg_lt a;have ho : (rg a ||| (if ng b then 9223372036854775808 else 0 : Nat)) = Ieee.double.word (ng b) (rg a) := by
  unfold Ieee.Format.word;rw [c1];split
  · rw [Nat.or_comm]; exact or_add 63 hr rfl
  · exact Nat.or_zero _
 have hs : (if ng b then 9223372036854775808 else 0 : Nat) < 18446744073709551616 := by split <;> decide
 refine yl Tryd.func29 rfl Tryd.ntmps29 rfl ?_;have LW := erx (No) w;have XLW := grx (No) w;have E := erx (No) w
 refine srx (anx rfl (srx (mvx rfl (za rfl (ow_bits ex38 rfl (za rfl (ow_andNot rfl rfl (andNot_sign ha) (mvx rfl (za rfl (ow_bits ex38 rfl (za rfl (vc rfl rfl (and_sign hb) (za rfl (kv rfl rfl (ke (Nat.lt_trans hr (by decide)) hs) (za rfl (jh (b := rg a ||| (if ng b then 9223372036854775808 else 0 : Nat)) ex34 rfl (anx rfl (zr (zp (rs := [.tmp 4]) (vs := [_]) rfl ⟨rfl, trivial⟩ ?_)))))))))))))))))))
 exact ⟨by rw [← ho]; rfl, (LW.step E XLW).toBelow⟩
end
def nzB (a : Nat) : Nat := Ieee.double.word (ng a) (nr (rg a))
def nzE (a : Nat) : Int := if rg a < 4503599627370496 then -52 else 0
theorem FRes.some {z : Option Nat} {r q : Nat} {w w' : World} (h : FRes z r w w') (hz : z = some q) : r = q := by
 rcases h with ⟨h1, _⟩ | ⟨h1, _⟩
 · rw [hz] at h1; exact (Option.some.inj h1).symm
 · rw [hz] at h1; cases h1
section
variable (w : World) (a : Nat) (ha : a < 18446744073709551616) (h0 : rg a ≠ 0) (hf : rg a < 9218868437227405312)
include ha h0 hf
end
section
variable (w : World) (a k q : Nat) (ha : a < 18446744073709551616) (h0 : rg a ≠ 0) (hf : rg a < 9218868437227405312) (hk : k < 4096) (hq : q < 9218868437227405312) (hv : vl q = vl (rg a) * 2 ^ k)
include ha h0 hf hk hq hv
end
end Go.Proofs.YtmjbnhjgebjhlaaDoor
namespace Go.Proofs.YtmjbnhjgebjhlaaDoor
open Ieee
set_option maxRecDepth 100000
theorem zuz (n : Nat) : 0 < 2 ^ n := Nat.pow_pos (by decide)
def wholeN (a : Nat) : Nat := vl (rg a) / 2 ^ 1074
/-! ### rests -/
def addS (a b : Nat) : Bool := if sv a + sv b = 0 then ng a && ng b else decide (sv a + sv b < 0)
def isWh (r : Nat) : Prop := 2 ^ 1074 ∣ vl r
noncomputable def modR (a b : Nat) : Nat := if rg b = 9218868437227405312 then rg a else rungOf (vl (rg a) % vl (rg b))
noncomputable def m0F (a b : Nat) : Nat := double.word (ng a) (modR a b)
theorem fin_notN {b : Nat} (hb : rg b < 9218868437227405312) : isN b = false := decide_eq_false (by omega)
theorem zgx (s : Bool) (m : Nat) (p : Int) : ng (double.nearest s m p) = s := by
 unfold Format.nearest;split
 · exact (zux s 0 (by decide)).2.1
 · refine (zux s _ (Nat.lt_of_le_of_lt (Nat.min_le_right _ _) ?_)).2.1;rw [c3]; decide
theorem quo_fin {a b : Nat} (ha : isN a = false) (hb : isN b = false) (h0 : rg b ≠ 0) (hi : rg a < 9218868437227405312 ∨ rg b < 9218868437227405312) : ∃ z, fop .quo a b = some z ∧ ng z = (ng a ^^ ng b) := by
 have hA : rg a < 9218868437227405312 ∨ rg a = 9218868437227405312 := by have := of_decide_eq_false ha; omega
 have hB : rg b < 9218868437227405312 ∨ rg b = 9218868437227405312 := by have := of_decide_eq_false hb; omega
 rcases hA with hA | hA <;> rcases hB with hB | hB
 · simp only [fop, Format.div, gh hA, gh hB, Datum.quotient]
   rw [if_neg (mg_pos h0)];exact ⟨_, rfl, zgx _ _ _⟩
 · simp only [fop, Format.div, gh hA, xp hB, Datum.quotient]
   exact ⟨_, rfl, zgx _ _ _⟩
 · simp only [fop, Format.div, xp hA, gh hB, Datum.quotient]
   exact ⟨_, rfl, (zux _ _ (by rw [c3]; decide)).2.1⟩
 · omega
def nanCase (a b : Nat) : Bool := isN a || isN b || decide (rg a = 9218868437227405312)
noncomputable def flipB (a b : Nat) : Bool := decide (modR a b ≠ 0) && (ng a != ng b)
noncomputable def modF (a b : Nat) : Nat := if nanCase a b then 9221120237041090560 else if modR a b = 0 then double.word (ng b) 0 else if flipB a b then zaz (fop .add (m0F a b) b) else m0F a b
noncomputable def subF (a b : Nat) : Nat := zaz (fop .sub a (m0F a b))
noncomputable def d0F (a b : Nat) : Nat := zaz (fop .quo (subF a b) b)
noncomputable def d1F (a b : Nat) : Nat := if flipB a b then zaz (fop .sub (d0F a b) 4607182418800017408) else d0F a b
def upB (d : Nat) : Bool := match fop .sub d (fround .down d) with
 | some z => xu z 4602678819172646912 == some .gt
 | none => false
def wholeF (d : Nat) : Nat := if upB d then zaz (fop .add (fround .down d) 4607182418800017408) else fround .down d
noncomputable def floorF (a b : Nat) : Nat := if nanCase a b then 9221120237041090560 else if isZ (d1F a b) then double.word (ng a ^^ ng b) 0 else wholeF (d1F a b)
theorem ansF_some {z : Option Nat} {r : Nat} (h : z = some r) : zaz z = r := by rw [h]; rfl
section
variable {a b : Nat} (ha : a < 18446744073709551616) (hf : rg a < 9218868437227405312) (hb : b < 18446744073709551616) (hn : isN b = false) (h0 : rg b ≠ 0)
include hf h0
include hn ha
end
end Go.Proofs.YtmjbnhjgebjhlaaDoor
namespace Go.Proofs.YtmjbnhjgebjhlaaDoor
open Go.RowKit
set_option maxRecDepth 100000
section
variable (w : World)
section
variable (a : Nat) (ha : a < 18446744073709551616) (h0 : rg a ≠ 0) (hf : rg a < 9218868437227405312)
include ha
section
include h0 hf
end
section
variable (hz : rg a = 0)
include hz
end
section
variable (hi : rg a = 9218868437227405312)
include hi
end
end
/-! ### math.mod -/
section
variable (a b : Nat) (ha : a < 18446744073709551616) (hb : b < 18446744073709551616) (hz : isZ b = false)
include ha hb hz
section
variable (hf : rg a < 9218868437227405312) (hn : isN b = false)
include hf hn
section
variable (ha0 : rg a ≠ 0)
include ha0
/-! ### the loop -/
variable (hq : rg b < 9218868437227405312)
include hq
end
end
end
end
theorem kr (m k : Nat) (hk : k < 64) : ((m : Nat) : Int).fdiv (2 ^ (min ((k : Nat) : Int).toNat IntKind.u64.bits)) = ((m / 2 ^ k : Nat) : Int) := by
 rw [Int.toNat_natCast, show min k IntKind.u64.bits = k from Nat.min_eq_left (by show k ≤ 64; omega), Int.fdiv_eq_ediv_of_nonneg _ (Int.le_of_lt (Int.pow_pos (by decide)))];rw [show (2 : Int) ^ k = ((2 ^ k : Nat) : Int) by simp];rfl
theorem wrap_mod (m : Nat) : IntKind.u64.wrap ((m : Nat) : Int) = ((m % 18446744073709551616 : Nat) : Int) := by
 unfold IntKind.wrap;simp only [IntKind.bits, IntKind.signed, Bool.false_and, Bool.false_eq_true, if_false]
 omega
theorem znx (m k : Nat) (hk : k < 64) : IntKind.u64.wrap (((m : Nat) : Int) * 2 ^ (min ((k : Nat) : Int).toNat IntKind.u64.bits)) = ((m * 2 ^ k % 18446744073709551616 : Nat) : Int) := by
 rw [Int.toNat_natCast, show min k IntKind.u64.bits = k from Nat.min_eq_left (by show k ≤ 64; omega), show (2 : Int) ^ k = ((2 ^ k : Nat) : Int) by simp, ← Int.natCast_mul];exact wrap_mod _
theorem kb {p q : Prop} [Decidable p] [Decidable q] (h : p ↔ q) : (Value.bool (decide p)) = .bool (decide q) := by
 congr 1
 by_cases hp : p
 · rw [decide_eq_true hp, decide_eq_true (h.1 hp)]
 · rw [decide_eq_false hp, decide_eq_false (fun k => hp (h.2 k))]
section
variable (w : World)
/-! ### rest -/
section
variable (a b : Nat) (ha : a < 18446744073709551616) (hb : b < 18446744073709551616)
include ha hb
section
variable (ha0 : rg a ≠ 0) (hb0 : rg b ≠ 0) (hf : rg a < 9218868437227405312) (hq : rg b < 9218868437227405312)
include ha0 hb0 hf hq
end
end
end
theorem sub_mod_gen {M x y W : Nat} (hW : W < M) (h : (W + y) % M = x % M) : ((x : Int) - (y : Int)) % (M : Int) = (W : Int) := by
 have h' : ((W : Int) + (y : Int)) % (M : Int) = (x : Int) % (M : Int) := by exact_mod_cast h
 rw [Int.sub_emod, ← h', ← Int.sub_emod, Int.add_sub_cancel];exact Int.emod_eq_of_lt (by omega) (by omega)
section
variable (w : World)
end
theorem FRes.isn {r : Nat} {w w' : World} (h : FRes none r w w') : isN r = true := by
 rcases h with ⟨h1, _⟩ | ⟨_, hn, _⟩
 · cases h1
 · exact nan_isN hn
theorem FRes.nan {z : Option Nat} {r : Nat} {w w' : World} (h : FRes z r w w') (hz : z = none) : isN r = true := by subst hz; exact h.isn
section
variable (w : World)
/-! ### package real's -/
section
variable (a b : Nat) (ha : a < 18446744073709551616) (hb : b < 18446744073709551616) (hz : isZ b = false)
include ha hb hz
section
variable (hf : rg a < 9218868437227405312) (hn : isN b = false)
include hf hn
end
end
end
end Go.Proofs.YtmjbnhjgebjhlaaDoor
namespace Go.Proofs.YtmjbnhjgebjhlaaDoor
open Ieee
set_option maxRecDepth 100000
def wholeOr (z : Nat) : Prop := rg z = 9218868437227405312 ∨ (rg z < 9218868437227405312 ∧ isWh (rg z))
theorem num_or {d : Nat} (h : isN d = false) : rg d < 9218868437227405312 ∨ rg d = 9218868437227405312 := by have := of_decide_eq_false h; omega
section
variable {a b : Nat} (ha : a < 18446744073709551616) (hf : rg a < 9218868437227405312) (hb : b < 18446744073709551616) (hn : isN b = false) (h0 : rg b ≠ 0)
include ha hf hn h0
include hb
end
end Go.Proofs.YtmjbnhjgebjhlaaDoor
namespace Go.Proofs.YtmjbnhjgebjhlaaDoor
open Go.RowKit Ieee
set_option maxRecDepth 100000
structure Sgn (n : Bool) (b : Nat) : Prop where
 num : isN b = false
 sg : ng b = n
 lt : b < 18446744073709551616
theorem mul_sgn {a b : Nat} {n : Bool} (ha : Sgn n a) (hb : rg b < 9218868437227405312) (h0 : rg b ≠ 0) (hs : ng b = false) : ∃ z, fop .mul a b = some z ∧ Sgn n z := by
 have key : ∃ z, fop .mul a b = some z ∧ ng z = (ng a ^^ ng b) := by
  rcases num_or ha.num with hA | hA
  · simp only [fop, Format.mul, gh hA, gh hb, Datum.product]
    exact ⟨_, rfl, zgx _ _ _⟩
  · simp only [fop, Format.mul, xp hA, gh hb, Datum.product]
    rw [if_neg (mg_pos h0)];exact ⟨_, rfl, (zux _ _ (by rw [c3]; decide)).2.1⟩
 obtain ⟨z, h1, h2⟩ := key;exact ⟨z, h1, (zxv h1).1, by rw [h2, ha.sg, hs, Bool.xor_false], (zxv h1).2⟩
theorem quo_sgn {a b : Nat} {n : Bool} (ha : Sgn n a) (hb : rg b < 9218868437227405312) (h0 : rg b ≠ 0) (hs : ng b = false) : ∃ z, fop .quo a b = some z ∧ Sgn n z := by
 obtain ⟨z, h1, h2⟩ := quo_fin ha.num (fin_notN hb) h0 (.inr hb);exact ⟨z, h1, (zxv h1).1, by rw [h2, ha.sg, hs, Bool.xor_false], (zxv h1).2⟩
theorem Sgn.tame {b : Nat} (h : Sgn false b) : b ≤ 9218868437227405312 := by
 have h1 := of_decide_eq_false h.num;have hs := h.sg;have h3 := h.lt;unfold ng at hs;unfold rg at h1;have h4 : ¬ b / 9223372036854775808 % 2 = 1 := beq_eq_false_iff_ne.1 hs;omega
end Go.Proofs.YtmjbnhjgebjhlaaDoor
namespace Go.Proofs.YtmjbnhjgebjhlaaDoor
open Go.RowKit
set_option maxRecDepth 100000
theorem vn {α : Type} {done : α → Bool} {step : α → α} (I : α → Prop) (m : α → Nat) (hs : ∀ s, I s → done s = false → I (step s) ∧ m (step s) < m s) {s : α} (h : I s) :
 I (qv done step s) ∧ done (qv done step s) = true := by
 generalize hn : m s = n
 induction n using Nat.strongRecOn generalizing s with
 | _ n ih =>
  cases hd : done s with
  | true => rw [qe hd]; exact ⟨h, hd⟩
  | false =>
   rw [vb hd];obtain ⟨h1, h2⟩ := hs s h hd;exact ih (m (step s)) (by omega) h1 rfl
structure Dec where
 d : List Nat
 nd : Nat
 dp : Int
 neg : Bool
 tr : Bool
def dg (l : List Nat) (i : Nat) : Nat := l.getD i 48
theorem zlk {l : List Nat} {j b i : Nat} (hj : j < l.length) : dg (l.set j b) i = if i = j then b else dg l i := by
 unfold dg;rw [List.getD_eq_getElem?_getD, List.getD_eq_getElem?_getD, List.getElem?_set];split
 · rename_i h; subst h; rw [if_pos rfl]; simp [hj]
 · rename_i h; rw [if_neg (fun e => h e.symm)]
theorem dg_at {l : List Nat} {j : Nat} (hj : j < l.length) : l[j]? = some (dg l j) := by
 unfold dg;rw [List.getD_eq_getElem?_getD, List.getElem?_eq_getElem hj]; rfl
def decL (t : Dec) : List Value := t.d.map (fun b => (.int .u8 ((b : Nat) : Int) : Value)) ++ [.int .i64 ((t.nd : Nat) : Int), .int .i64 t.dp, .bool t.neg, .bool t.tr]
def yz (t : Dec) : Array Value := (decL t).toArray
section
variable {t : Dec} (h : t.d.length = 800)
include h
theorem dec_size : (yz t).size = 804 := by simp [yz, decL, h]
theorem decL_at {j : Nat} (hj : j < 800) : (decL t)[j]? = some (.int .u8 ((dg t.d j : Nat) : Int)) := by
 unfold decL;rw [List.getElem?_append_left (by simp [h]; exact hj), List.getElem?_map, dg_at (by rw [h]; exact hj)]; rfl
theorem dec_at {j : Nat} (hj : j < 800) : (yz t)[j]? = some (.int .u8 ((dg t.d j : Nat) : Int)) := by
 unfold yz;rw [List.getElem?_toArray];exact decL_at h hj
theorem zpq {j : Nat} : (decL t)[800 + j]? = ([.int .i64 ((t.nd : Nat) : Int), .int .i64 t.dp, .bool t.neg, .bool t.tr] : List Value)[j]? := by
 unfold decL;rw [List.getElem?_append_right (by simp [h])];simp [h]
theorem dec_nd : (yz t)[800]? = some (.int .i64 ((t.nd : Nat) : Int)) := by unfold yz; rw [List.getElem?_toArray]; exact zpq h (j := 0)
theorem dec_dp : (yz t)[801]? = some (.int .i64 t.dp) := by unfold yz; rw [List.getElem?_toArray]; exact zpq h (j := 1)
theorem dec_neg : (yz t)[802]? = some (.bool t.neg) := by unfold yz; rw [List.getElem?_toArray]; exact zpq h (j := 2)
theorem dec_tr : (yz t)[803]? = some (.bool t.tr) := by unfold yz; rw [List.getElem?_toArray]; exact zpq h (j := 3)
theorem set_d {j b : Nat} (hj : j < 800) : (yz t).setIfInBounds j (.int .u8 ((b : Nat) : Int)) = yz { t with d := t.d.set j b } := by
 unfold yz decL;rw [List.setIfInBounds_toArray, List.set_append_left _ _ (by simp [h]; exact hj), List.map_set]
theorem zvz {j : Nat} {v : Value} : (yz t).setIfInBounds (800 + j) v = (t.d.map (fun b => (.int .u8 ((b : Nat) : Int) : Value)) ++ ([.int .i64 ((t.nd : Nat) : Int), .int .i64 t.dp, .bool t.neg, .bool t.tr] : List Value).set j v).toArray := by
 unfold yz decL;rw [List.setIfInBounds_toArray, List.set_append_right _ _ (by simp [h])];simp [h]
theorem ybq (n : Nat) : (yz t).setIfInBounds 800 (.int .i64 ((n : Nat) : Int)) = yz { t with nd := n } := zvz h (j := 0)
theorem zsq (p : Int) : (yz t).setIfInBounds 801 (.int .i64 p) = yz { t with dp := p } := zvz h (j := 1)
theorem set_neg (b : Bool) : (yz t).setIfInBounds 802 (.bool b) = yz { t with neg := b } := zvz h (j := 2)
theorem ybz (b : Bool) : (yz t).setIfInBounds 803 (.bool b) = yz { t with tr := b } := zvz h (j := 3)
end
attribute [irreducible] yz
structure DecI (t : Dec) : Prop where
 len : t.d.length = 800
 hn : t.nd ≤ 800
 dig : ∀ i, i < t.nd → 48 ≤ dg t.d i ∧ dg t.d i ≤ 57
 lead : 0 < t.nd → 49 ≤ dg t.d 0
/-! ### noughts behind -/
def jt (d : List Nat) : Nat → Nat
 | 0 => 0
 | n + 1 => if dg d n = 48 then jt d n else n + 1
theorem trimN_le (d : List Nat) : ∀ n, jt d n ≤ n
 | 0 => Nat.le_refl _
 | n + 1 => by
  unfold jt;split
  · exact Nat.le_trans (trimN_le d n) (Nat.le_succ n)
  · exact Nat.le_refl _
theorem trimN_pos {d : List Nat} (h : 49 ≤ dg d 0) : ∀ {n}, 0 < n → 0 < jt d n
 | 0, h0 => absurd h0 (Nat.lt_irrefl _)
 | n + 1, _ => by
  unfold jt;split
  · rename_i h1
    rcases Nat.eq_zero_or_pos n with h2 | h2
    · subst h2; omega
    · exact trimN_pos h h2
  · exact Nat.succ_pos _
def zuq (t : Dec) : Dec := { t with nd := jt t.d t.nd, dp := if jt t.d t.nd = 0 then 0 else t.dp }
theorem yfv {t : Dec} (h : DecI t) : DecI (zuq t) := by
 have h1 := trimN_le t.d t.nd;have h2 := h.hn;exact ⟨h.len, by show jt t.d t.nd ≤ 800; omega, fun i hi => h.dig i (Nat.lt_of_lt_of_le hi h1), fun h0 => h.lead (Nat.lt_of_lt_of_le h0 h1)⟩
theorem yaq {t : Dec} (h : DecI t) (h0 : 0 < t.nd) : 0 < (zuq t).nd := trimN_pos (h.lead h0) h0
theorem trimD_dp {t : Dec} (h : DecI t) (h0 : 0 < t.nd) : (zuq t).dp = t.dp := by
 have := yaq h h0;show (if jt t.d t.nd = 0 then 0 else t.dp) = t.dp
 rw [if_neg (by intro e; rw [show (zuq t).nd = jt t.d t.nd from rfl, e] at this; omega)]
/-! ### the shift to the right -/
structure RsS where
 r : Nat
 n : Nat
def zfq (t : Dec) (k : Nat) (s : RsS) : Bool := decide (s.n / 2 ^ k ≠ 0 ∨ t.nd ≤ s.r)
def yjz (t : Dec) (s : RsS) : RsS := ⟨s.r + 1, s.n * 10 + (dg t.d s.r - 48)⟩
def zak (k : Nat) (s : RsS) : Bool := decide (s.n / 2 ^ k ≠ 0)
def zvk (s : RsS) : RsS := ⟨s.r + 1, s.n * 10⟩
noncomputable def rsA (t : Dec) (k : Nat) : RsS := qv (zfq t k) (yjz t) ⟨0, 0⟩
noncomputable def rsB (t : Dec) (k : Nat) : RsS := qv (zak k) zvk (rsA t k)
structure RsC where
 d : List Nat
 r : Nat
 w : Nat
 n : Nat
def znz (t : Dec) (s : RsC) : Bool := decide (t.nd ≤ s.r)
def yjx (k : Nat) (s : RsC) : RsC := ⟨s.d.set s.w (s.n / 2 ^ k + 48), s.r + 1, s.w + 1, s.n % 2 ^ k * 10 + (dg s.d s.r - 48)⟩
noncomputable def rsC (t : Dec) (k : Nat) : RsC := qv (znz t) (yjx k) ⟨t.d, (rsB t k).r, 0, (rsB t k).n⟩
structure RsE where
 d : List Nat
 w : Nat
 n : Nat
 tr : Bool
def ks (s : RsE) : Bool := decide (s.n = 0)
def js (k : Nat) (s : RsE) : RsE :=
 if s.w < 800 then ⟨s.d.set s.w (s.n / 2 ^ k + 48), s.w + 1, s.n % 2 ^ k * 10, s.tr⟩
 else ⟨s.d, s.w, s.n % 2 ^ k * 10, if 0 < s.n / 2 ^ k then true else s.tr⟩
noncomputable def rsE (t : Dec) (k : Nat) : RsE := qv ks (js k) ⟨(rsC t k).d, (rsC t k).w, (rsC t k).n, t.tr⟩
noncomputable def jc (t : Dec) (k : Nat) : Dec := zuq { t with d := (rsE t k).d, nd := (rsE t k).w, dp := t.dp - (((rsB t k).r : Nat) - 1), tr := (rsE t k).tr }
structure RsAI (t : Dec) (k : Nat) (s : RsS) : Prop where
 hr : s.r ≤ t.nd
 hn : s.n < 10 * 2 ^ k
 zero : s.r = 0 → s.n = 0
 pos : 0 < s.r → 0 < s.n
 one : s.r = 1 → s.n = dg t.d 0 - 48
theorem rsA_keeps {t : Dec} {k : Nat} {s : RsS} (ht : DecI t) (h : RsAI t k s) (hd : zfq t k s = false) : RsAI t k (yjz t s) ∧ s.n < 2 ^ k ∧ s.r < t.nd := by
 have hd := of_decide_eq_false hd;have h1 : s.n / 2 ^ k = 0 := Classical.byContradiction fun e => hd (.inl e);have h2 : s.r < t.nd := Nat.lt_of_not_le fun e => hd (.inr e);have hp : 0 < 2 ^ k := Nat.two_pow_pos k;have h3 : s.n < 2 ^ k := (Nat.div_eq_zero_iff_lt hp).1 h1;have hg := ht.dig s.r h2;refine ⟨⟨h2, ?_, fun e => ?_, fun _ => ?_, fun e => ?_⟩, h3, h2⟩
 · show s.n * 10 + (dg t.d s.r - 48) < 10 * 2 ^ k; omega
 · exact absurd e (Nat.succ_ne_zero _)
 · show 0 < s.n * 10 + (dg t.d s.r - 48)
   rcases Nat.eq_zero_or_pos s.r with h4 | h4
   · rw [h4]; have := ht.lead (by omega); omega
   · have := h.pos h4; omega
 · have h4 : s.r = 0 := by have : s.r + 1 = 1 := e; omega
   show s.n * 10 + (dg t.d s.r - 48) = dg t.d 0 - 48
   rw [h.zero h4, h4]; omega
theorem rsA_start (t : Dec) (k : Nat) : RsAI t k ⟨0, 0⟩ := ⟨Nat.zero_le _, by have := Nat.two_pow_pos k; show 0 < 10 * 2 ^ k; omega, fun _ => rfl, fun h => absurd h (Nat.lt_irrefl _), fun h => absurd h (by decide)⟩
theorem rsA_ends {t : Dec} (k : Nat) (ht : DecI t) : RsAI t k (rsA t k) ∧ zfq t k (rsA t k) = true := by
 refine vn (RsAI t k) (fun s => t.nd - s.r) (fun s h hd => ?_) (rsA_start t k);obtain ⟨h1, _, h2⟩ := rsA_keeps ht h hd;exact ⟨h1, by show t.nd - (s.r + 1) < t.nd - s.r; omega⟩
theorem rsA_some {t : Dec} {k : Nat} (ht : DecI t) (h0 : 0 < t.nd) : 0 < (rsA t k).r := by
 obtain ⟨h1, h2⟩ := rsA_ends k ht;rcases Nat.eq_zero_or_pos (rsA t k).r with h | h
 · have h2 := of_decide_eq_true h2;rw [h1.zero h, h, Nat.zero_div] at h2;omega
 · exact h
structure RsBI (t : Dec) (k : Nat) (s : RsS) : Prop where
 hn : s.n < 10 * 2 ^ k
 pos : 0 < s.n
 hr : 0 < s.r
 one : s.r = 1 → s.n = dg t.d 0 - 48
 far : s.r ≤ t.nd ∨ 10 ^ (s.r - t.nd) ≤ s.n
theorem rsB_keeps {t : Dec} {k : Nat} {s : RsS} (h : RsBI t k s) (hd : zak k s = false) (hx : t.nd ≤ s.r) : RsBI t k (zvk s) ∧ s.n < 2 ^ k := by
 have hd := of_decide_eq_false hd;have hp : 0 < 2 ^ k := Nat.two_pow_pos k;have h3 : s.n < 2 ^ k := (Nat.div_eq_zero_iff_lt hp).1 (Classical.byContradiction fun e => hd e);have := h.pos;have := h.hr;refine ⟨⟨by show s.n * 10 < 10 * 2 ^ k; omega, by show 0 < s.n * 10; omega, Nat.succ_pos _, fun e => ?_, .inr ?_⟩, h3⟩
 · have : s.r + 1 = 1 := e; omega
 · show 10 ^ (s.r + 1 - t.nd) ≤ s.n * 10
   have e : s.r + 1 - t.nd = (s.r - t.nd) + 1 := by omega
   rw [e, Nat.pow_succ];rcases h.far with h4 | h4
   · have : s.r - t.nd = 0 := by omega
     rw [this]; omega
   · exact Nat.mul_le_mul_right 10 h4
theorem rsB_start {t : Dec} {k : Nat} (ht : DecI t) (h0 : 0 < t.nd) : RsBI t k (rsA t k) := by
 have h1 := (rsA_ends k ht).1;have h2 := rsA_some (k := k) ht h0;exact ⟨h1.hn, h1.pos h2, h2, h1.one, .inl h1.hr⟩
def RsBJ (t : Dec) (k : Nat) (s : RsS) : Prop := RsBI t k s ∧ (s.n / 2 ^ k ≠ 0 ∨ t.nd ≤ s.r)
theorem rsBJ_keeps {t : Dec} {k : Nat} {s : RsS} (h : RsBJ t k s) (hd : zak k s = false) : RsBJ t k (zvk s) ∧ s.n < 2 ^ k := by
 have hx : t.nd ≤ s.r := h.2.resolve_left (of_decide_eq_false hd);obtain ⟨h1, h2⟩ := rsB_keeps h.1 hd hx;exact ⟨⟨h1, .inr (Nat.le_succ_of_le hx)⟩, h2⟩
theorem rsBJ_start {t : Dec} {k : Nat} (ht : DecI t) (h0 : 0 < t.nd) : RsBJ t k (rsA t k) := ⟨rsB_start ht h0, of_decide_eq_true (rsA_ends k ht).2⟩
theorem zex {t : Dec} (k : Nat) (ht : DecI t) (h0 : 0 < t.nd) : RsBJ t k (rsB t k) ∧ zak k (rsB t k) = true := by
 refine vn (RsBJ t k) (fun s => 2 ^ k - s.n) (fun s h hd => ?_) (rsBJ_start ht h0);obtain ⟨h1, h2⟩ := rsBJ_keeps h hd;have := h.1.pos;exact ⟨h1, by show 2 ^ k - s.n * 10 < 2 ^ k - s.n; omega⟩
theorem rsB_big {t : Dec} (k : Nat) (ht : DecI t) (h0 : 0 < t.nd) : 2 ^ k ≤ (rsB t k).n := by
 have h := of_decide_eq_true (zex k ht h0).2;rcases Nat.lt_or_ge (rsB t k).n (2 ^ k) with h1 | h1
 · exact absurd (Nat.div_eq_of_lt h1) h
 · exact h1
theorem rsB_r {t : Dec} (k : Nat) (ht : DecI t) (h0 : 0 < t.nd) : (rsB t k).r ≤ t.nd + k + 1 := by
 have h := (zex k ht h0).1.1;rcases h.far with h1 | h1
 · omega
 · have h2 : 10 ^ ((rsB t k).r - t.nd) < 10 ^ (k + 1) := by
    have h3 : 2 ^ k ≤ 10 ^ k := Nat.pow_le_pow_left (by decide) k;have := h.hn;rw [Nat.pow_succ]; omega
   have := (Nat.pow_lt_pow_iff_right (a := 10) (by decide)).1 h2;omega
structure RsCI (t : Dec) (k r0 : Nat) (s : RsC) : Prop where
 len : s.d.length = 800
 hw : s.r = s.w + r0
 hr : s.w = 0 ∨ s.r ≤ t.nd
 old : ∀ i, s.w ≤ i → dg s.d i = dg t.d i
 dig : ∀ i, i < s.w → 48 ≤ dg s.d i ∧ dg s.d i ≤ 57
 lead : 0 < s.w → 49 ≤ dg s.d 0 ∧ (r0 = 1 → dg s.d 0 < dg t.d 0)
 hn : s.n < 10 * 2 ^ k
 first : s.w = 0 → 2 ^ k ≤ s.n ∧ (r0 = 1 → s.n = dg t.d 0 - 48)
theorem ymx {n k : Nat} (h : n < 10 * 2 ^ k) : n / 2 ^ k ≤ 9 := by
 have := (Nat.div_lt_iff_lt_mul (Nat.two_pow_pos k)).2 h;omega
theorem put_lead {t : Dec} {k n r0 : Nat} (hk : 1 ≤ k) (h : 2 ^ k ≤ n ∧ (r0 = 1 → n = dg t.d 0 - 48)) : 49 ≤ n / 2 ^ k + 48 ∧ (r0 = 1 → n / 2 ^ k + 48 < dg t.d 0) := by
 have h1 : 1 ≤ n / 2 ^ k := (Nat.le_div_iff_mul_le (Nat.two_pow_pos k)).2 (by omega);refine ⟨by omega, fun e => ?_⟩;have h2 := h.2 e;have h3 : n / 2 ^ k < n := Nat.div_lt_self (by have := Nat.two_pow_pos k; omega) (Nat.one_lt_two_pow (by omega));omega
theorem rsC_keeps {t : Dec} {k r0 : Nat} {s : RsC} (ht : DecI t) (hk : 1 ≤ k) (hr0 : 1 ≤ r0) (h : RsCI t k r0 s) (hd : znz t s = false) : RsCI t k r0 (yjx k s) := by
 have hd : ¬ t.nd ≤ s.r := of_decide_eq_false hd;have h1 := h.hw;have hn := ht.hn;have hl := h.len;have hw : s.w < s.d.length := by omega
 have hg := ht.dig s.r (by omega);rw [← h.old s.r (by omega)] at hg;have hq := ymx h.hn;have hq0 := Nat.zero_le (s.n / 2 ^ k);have hm := Nat.mod_lt s.n (Nat.two_pow_pos k)
 refine ⟨by show (s.d.set s.w _).length = 800; rw [List.length_set]; exact hl, by show s.r + 1 = s.w + 1 + r0; omega, .inr (by show s.r + 1 ≤ t.nd; omega), fun i hi => ?_, fun i hi => ?_, fun _ => ?_, ?_, fun e => absurd e (Nat.succ_ne_zero _)⟩
 · show dg (s.d.set s.w _) i = _
   have hi : s.w + 1 ≤ i := hi;rw [zlk hw, if_neg (by omega)];exact h.old i (by omega)
 · show 48 ≤ dg (s.d.set s.w _) i ∧ dg (s.d.set s.w _) i ≤ 57
   have hi : i < s.w + 1 := hi;rw [zlk hw];split
   · omega
   · exact h.dig i (by omega)
 · show 49 ≤ dg (s.d.set s.w _) 0 ∧ (r0 = 1 → dg (s.d.set s.w _) 0 < dg t.d 0)
   rw [zlk hw];split
   · rename_i e; exact put_lead hk (h.first e.symm)
   · exact h.lead (by omega)
 · show s.n % 2 ^ k * 10 + (dg s.d s.r - 48) < 10 * 2 ^ k
   omega
theorem rsC_start {t : Dec} {k : Nat} (ht : DecI t) (h0 : 0 < t.nd) : RsCI t k (rsB t k).r ⟨t.d, (rsB t k).r, 0, (rsB t k).n⟩ := by
 have h := (zex k ht h0).1.1;exact ⟨ht.len, (Nat.zero_add _).symm, .inl rfl, fun _ _ => rfl, fun _ hi => absurd hi (Nat.not_lt_zero _), fun hi => absurd hi (Nat.lt_irrefl _), h.hn, fun _ => ⟨rsB_big k ht h0, h.one⟩⟩
theorem rsC_ends {t : Dec} {k : Nat} (ht : DecI t) (hk : 1 ≤ k) (h0 : 0 < t.nd) : RsCI t k (rsB t k).r (rsC t k) ∧ znz t (rsC t k) = true := by
 have hr := (zex k ht h0).1.1.hr;refine vn (RsCI t k (rsB t k).r) (fun s => t.nd - s.r) (fun s h hd => ⟨rsC_keeps ht hk hr h hd, ?_⟩) (rsC_start ht h0);have hd : ¬ t.nd ≤ s.r := of_decide_eq_false hd;show t.nd - (s.r + 1) < t.nd - s.r; omega
structure RsEI (t : Dec) (k r0 : Nat) (s : RsE) : Prop where
 len : s.d.length = 800
 hw : s.w ≤ 800
 dig : ∀ i, i < s.w → 48 ≤ dg s.d i ∧ dg s.d i ≤ 57
 lead : 0 < s.w → 49 ≤ dg s.d 0 ∧ (r0 = 1 → dg s.d 0 < dg t.d 0)
 hn : s.n < 10 * 2 ^ k
 first : s.w = 0 → 2 ^ k ≤ s.n ∧ (r0 = 1 → s.n = dg t.d 0 - 48)
theorem rsE_keeps {t : Dec} {k r0 : Nat} {s : RsE} (hk : 1 ≤ k) (h : RsEI t k r0 s) : RsEI t k r0 (js k s) := by
 have hl := h.len;have hq := ymx h.hn;have hq0 := Nat.zero_le (s.n / 2 ^ k);have hm := Nat.mod_lt s.n (Nat.two_pow_pos k);have hn : s.n % 2 ^ k * 10 < 10 * 2 ^ k := by omega
 unfold js;split
 · rename_i hw
   have hw' : s.w < s.d.length := by omega
   refine ⟨by show (s.d.set s.w _).length = 800; rw [List.length_set]; exact hl, hw, fun i hi => ?_, fun _ => ?_, hn, fun e => absurd e (Nat.succ_ne_zero _)⟩
   · show 48 ≤ dg (s.d.set s.w _) i ∧ dg (s.d.set s.w _) i ≤ 57
     have hi : i < s.w + 1 := hi;rw [zlk hw'];split
     · omega
     · exact h.dig i (by omega)
   · show 49 ≤ dg (s.d.set s.w _) 0 ∧ (r0 = 1 → dg (s.d.set s.w _) 0 < dg t.d 0)
     rw [zlk hw'];split
     · rename_i e; exact put_lead hk (h.first e.symm)
     · exact h.lead (by omega)
 · rename_i hw
   exact ⟨hl, h.hw, h.dig, h.lead, hn, fun e => absurd (show s.w = 0 from e) (by omega)⟩
theorem rsE_start {t : Dec} {k : Nat} (ht : DecI t) (hk : 1 ≤ k) (h0 : 0 < t.nd) : RsEI t k (rsB t k).r ⟨(rsC t k).d, (rsC t k).w, (rsC t k).n, t.tr⟩ := by
 have h := (rsC_ends ht hk h0).1;have hn := ht.hn;have hw := h.hw;refine ⟨h.len, ?_, h.dig, h.lead, h.hn, h.first⟩;show (rsC t k).w ≤ 800
 rcases h.hr with h1 | h1 <;> omega
theorem rsE_twos {k j : Nat} {s : RsE} (h : 2 ^ j ∣ s.n ∧ j ≤ k + 1 ∧ (j = k + 1 → s.n = 0)) (hd : ks s = false) : j ≤ k ∧ (2 ^ (j + 1) ∣ (js k s).n ∧ j + 1 ≤ k + 1 ∧ (j + 1 = k + 1 → (js k s).n = 0)) := by
 have hd : s.n ≠ 0 := of_decide_eq_false hd;obtain ⟨h1, h2, h3⟩ := h;have hj : j ≤ k := by
  rcases Nat.lt_or_ge k j with h4 | h4
  · exact absurd (h3 (by omega)) hd
  · exact h4
 have e : (js k s).n = s.n % 2 ^ k * 10 := by unfold js; split <;> rfl
 refine ⟨hj, ?_, by omega, fun ej => ?_⟩
 · rw [e, Nat.pow_succ];have h5 : 2 ^ j ∣ s.n % 2 ^ k := (Nat.dvd_mod_iff (Nat.pow_dvd_pow 2 hj)).2 h1;exact Nat.mul_dvd_mul h5 (by decide)
 · have : j = k := by omega
   subst this;rw [e, Nat.mod_eq_zero_of_dvd h1]
theorem rsE_ends {t : Dec} {k : Nat} (ht : DecI t) (hk : 1 ≤ k) (h0 : 0 < t.nd) : RsEI t k (rsB t k).r (rsE t k) ∧ ks (rsE t k) = true := by
 have key : ∀ (m j : Nat) (s : RsE), k + 1 - j = m → RsEI t k (rsB t k).r s → (2 ^ j ∣ s.n ∧ j ≤ k + 1 ∧ (j = k + 1 → s.n = 0)) → RsEI t k (rsB t k).r (qv ks (js k) s) ∧ ks (qv ks (js k) s) = true := by
  intro m;induction m with
  | zero =>
   intro j s hm h hj;have hd : ks s = true := decide_eq_true (hj.2.2 (by omega));rw [qe hd]; exact ⟨h, hd⟩
  | succ m ih =>
   intro j s hm h hj;cases hd : ks s with
   | true => rw [qe hd]; exact ⟨h, hd⟩
   | false =>
    rw [vb hd];obtain ⟨h1, h2⟩ := rsE_twos hj hd;exact ih (j + 1) _ (by omega) (rsE_keeps hk h) h2
 exact key (k + 1) 0 _ rfl (rsE_start ht hk h0) ⟨Nat.one_dvd _, by omega, fun e => absurd e (by omega)⟩
theorem kd {t : Dec} {k : Nat} (ht : DecI t) (hk : 1 ≤ k) (h0 : 0 < t.nd) :
 DecI (jc t k) ∧ 0 < (jc t k).nd ∧ t.dp - 801 - k ≤ (jc t k).dp ∧ ((jc t k).dp < t.dp ∨ ((jc t k).dp = t.dp ∧ dg (jc t k).d 0 < dg t.d 0)) ∧ (jc t k).neg = t.neg := by
 obtain ⟨h1, h2⟩ := rsE_ends ht hk h0;have h2 : (rsE t k).n = 0 := of_decide_eq_true h2;have hw : 0 < (rsE t k).w := by
  rcases Nat.eq_zero_or_pos (rsE t k).w with h | h
  · have := (h1.first h).1; have := Nat.two_pow_pos k; omega
  · exact h
 have hI : DecI { t with d := (rsE t k).d, nd := (rsE t k).w, dp := t.dp - (((rsB t k).r : Nat) - 1), tr := (rsE t k).tr } := ⟨h1.len, h1.hw, h1.dig, fun _ => (h1.lead hw).1⟩;have hdp : (jc t k).dp = t.dp - (((rsB t k).r : Nat) - 1) := trimD_dp hI hw;have hr := rsB_r k ht h0;have hr0 := (zex k ht h0).1.1.hr;have hn := ht.hn
 refine ⟨yfv hI, yaq hI hw, by rw [hdp]; omega, ?_, rfl⟩;rw [hdp];rcases Nat.lt_or_ge 1 (rsB t k).r with h | h
 · exact .inl (by omega)
 · exact .inr ⟨by omega, (h1.lead hw).2 (by omega)⟩
end Go.Proofs.YtmjbnhjgebjhlaaDoor
namespace Go.Proofs.YtmjbnhjgebjhlaaDoor
open Go.RowKit
set_option maxRecDepth 100000
/-! ### the beginning beside the table's digits -/
def vx : List Nat → List Nat → Bool
 | _, [] => false
 | [], _ :: _ => true
 | b :: bs, c :: cs => if b = c then vx bs cs else decide (b < c)
def ow : List Nat → Nat
 | [] => 0
 | c :: l => (c - 48) * 10 ^ l.length + ow l
def Digs (l : List Nat) : Prop := ∀ c ∈ l, 48 ≤ c ∧ c ≤ 57
theorem ylv : ∀ {l : List Nat}, Digs l → ow l < 10 ^ l.length
 | [], _ => by simp [ow]
 | c :: l, h => by
  have h1 := h c (List.mem_cons_self ..);have h2 := ylv (fun x hx => h x (List.mem_cons_of_mem _ hx));show (c - 48) * 10 ^ l.length + ow l < 10 ^ (l.length + 1)
  have h3 : (c - 48) * 10 ^ l.length ≤ 9 * 10 ^ l.length := Nat.mul_le_mul_right _ (by omega);rw [Nat.pow_succ]; omega
def Tail : List Nat → Prop
 | [] => True
 | [c] => 49 ≤ c
 | _ :: l => Tail l
theorem tail_next {c : Nat} {l : List Nat} (h : Tail (c :: l)) : Tail l := by
 cases l with
 | nil => trivial
 | cons x l => exact h
theorem tail_pos : ∀ {c : Nat} {l : List Nat}, Tail (c :: l) → 0 < ow (c :: l)
 | c, [], h => by
  have h : 49 ≤ c := h;show 0 < (c - 48) * 10 ^ 0 + 0
  omega
 | c, x :: l, h => by
  have := tail_pos (c := x) (l := l) h;show 0 < (c - 48) * 10 ^ (l.length + 1) + ow (x :: l)
  omega
theorem pre_step {a c p q u v : Nat} (h : a < c) (h1 : u < p) (hq : 0 < q) : (a * p + u) * (q * 10) < (c * q + v) * (p * 10) := by
 have h2 : a * p + u < (a + 1) * p := by rw [Nat.add_mul, Nat.one_mul]; omega
 have h3 : (a + 1) * p ≤ c * p := Nat.mul_le_mul_right p h;calc (a * p + u) * (q * 10) < (c * p) * (q * 10) := Nat.mul_lt_mul_of_pos_right (by omega) (by omega)
  _ = (c * q) * (p * 10) := by ac_rfl
  _ ≤ (c * q + v) * (p * 10) := Nat.mul_le_mul_right _ (Nat.le_add_right _ _)
theorem pre_both : ∀ {b s : List Nat}, Digs b → Digs s → Tail s →
 (vx b s = true → ow b * 10 ^ s.length < ow s * 10 ^ b.length) ∧ (vx b s = false → ow s * 10 ^ b.length ≤ ow b * 10 ^ s.length)
 | b, [], _, _, _ => by
  refine ⟨fun h => ?_, fun _ => ?_⟩
  · unfold vx at h; cases h
  · show 0 * _ ≤ _; rw [Nat.zero_mul]; exact Nat.zero_le _
 | [], c :: cs, _, _, ht => by
  refine ⟨fun _ => ?_, fun h => ?_⟩
  · have := tail_pos ht;show 0 * _ < ow (c :: cs) * 1
    omega
  · unfold vx at h; cases h
 | x :: bs, c :: cs, hb, hs, ht => by
  have hx := hb x (List.mem_cons_self ..);have hc := hs c (List.mem_cons_self ..);have hbs : Digs bs := fun y hy => hb y (List.mem_cons_of_mem _ hy);have hcs : Digs cs := fun y hy => hs y (List.mem_cons_of_mem _ hy);have lb := ylv hbs;have lc := ylv hcs;have p1 : 0 < 10 ^ bs.length := Nat.pow_pos (by decide);have p2 : 0 < 10 ^ cs.length := Nat.pow_pos (by decide)
  show (vx (x :: bs) (c :: cs) = true → ((x - 48) * 10 ^ bs.length + ow bs) * 10 ^ (cs.length + 1) < ((c - 48) * 10 ^ cs.length + ow cs) * 10 ^ (bs.length + 1)) ∧
   (vx (x :: bs) (c :: cs) = false → ((c - 48) * 10 ^ cs.length + ow cs) * 10 ^ (bs.length + 1) ≤ ((x - 48) * 10 ^ bs.length + ow bs) * 10 ^ (cs.length + 1))
  unfold vx;rw [Nat.pow_succ, Nat.pow_succ];generalize hP : 10 ^ bs.length = P at *
  generalize hR : 10 ^ cs.length = R at *
  split
  · rename_i e
    subst e;obtain ⟨h1, h2⟩ := pre_both (b := bs) (s := cs) hbs hcs (tail_next ht);rw [hP, hR] at h1 h2;have e : (x - 48) * P * (R * 10) = (x - 48) * R * (P * 10) := by ac_rfl
    rw [Nat.add_mul, Nat.add_mul, e, ← Nat.mul_assoc (ow bs), ← Nat.mul_assoc (ow cs)];exact ⟨fun h => by have := h1 h; omega, fun h => by have := h2 h; omega⟩
  · rename_i e
    refine ⟨fun h => ?_, fun h => ?_⟩
    · have h := of_decide_eq_true h;exact pre_step (by omega) lb p2
    · have h := of_decide_eq_false h;exact Nat.le_of_lt (pre_step (by omega) lc p1)
/-! ### values of the last digits -/
def ziz (d : List Nat) (nd : Nat) : Nat → Nat
 | 0 => 0
 | m + 1 => (dg d (nd - 1 - m) - 48) * 10 ^ m + ziz d nd m
theorem lastV_drop {d : List Nat} {nd : Nat} (hn : nd ≤ d.length) : ∀ {m : Nat}, m ≤ nd → ziz d nd m = ow ((d.take nd).drop (nd - m))
 | 0, _ => by
  rw [Nat.sub_zero, List.drop_eq_nil_of_le (by rw [List.length_take]; omega)]; rfl
 | m + 1, hm => by
  have hl : (d.take nd).length = nd := by rw [List.length_take]; omega
  have h1 : nd - (m + 1) < (d.take nd).length := by omega
  have e : nd - (m + 1) + 1 = nd - m := by omega
  rw [List.drop_eq_getElem_cons h1, e];have h2 : (d.take nd)[nd - (m + 1)] = dg d (nd - 1 - m) := by
   have : nd - (m + 1) = nd - 1 - m := by omega
   have h3 := dg_at (l := d) (j := nd - (m + 1)) (by omega);rw [← this];rw [List.getElem_take];exact Option.some.inj ((List.getElem?_eq_getElem (by omega)).symm.trans h3)
  show (dg d (nd - 1 - m) - 48) * 10 ^ m + ziz d nd m = (_ - 48) * 10 ^ ((d.take nd).drop (nd - m)).length + ow _
  rw [h2, lastV_drop hn (by omega), List.length_drop, hl];have : nd - (nd - m) = m := by omega
  rw [this]
theorem lastV_all {d : List Nat} {nd : Nat} (hn : nd ≤ d.length) : ziz d nd nd = ow (d.take nd) := by
 rw [lastV_drop hn (Nat.le_refl _), Nat.sub_self, List.drop_zero]
theorem digs_take {t : Dec} (ht : DecI t) : Digs (t.d.take t.nd) := by
 intro c hc;obtain ⟨i, hi, e⟩ := List.getElem_of_mem hc;rw [List.length_take] at hi;have h1 : i < t.nd := by omega
 rw [List.getElem_take] at e;have h2 := dg_at (l := t.d) (j := i) (by omega);rw [List.getElem?_eq_getElem (by omega), e] at h2;rw [Option.some.inj h2];exact ht.dig i h1
theorem lastV_lead {t : Dec} (ht : DecI t) (h0 : 0 < t.nd) : 10 ^ (t.nd - 1) ≤ ziz t.d t.nd t.nd := by
 obtain ⟨n, hn⟩ : ∃ n, t.nd = n + 1 := ⟨t.nd - 1, by omega⟩;rw [hn];show 10 ^ (n + 1 - 1) ≤ (dg t.d (n + 1 - 1 - n) - 48) * 10 ^ n + _
 have h1 := ht.lead h0;have e : n + 1 - 1 - n = 0 := by omega
 rw [e, Nat.add_sub_cancel];have : 1 * 10 ^ n ≤ (dg t.d 0 - 48) * 10 ^ n := Nat.mul_le_mul_right _ (by omega);omega
theorem lastV_lt {t : Dec} (ht : DecI t) : ziz t.d t.nd t.nd < 10 ^ t.nd := by
 have hn := ht.hn;have hl := ht.len;rw [lastV_all (by omega)];have h := ylv (digs_take ht);rwa [List.length_take, Nat.min_eq_left (by omega)] at h
def cy (t : Dec) (k m : Nat) : Nat := ziz t.d t.nd m * 2 ^ k / 10 ^ m
theorem cy_succ (t : Dec) (k m : Nat) : cy t k (m + 1) = (cy t k m + (dg t.d (t.nd - 1 - m) - 48) * 2 ^ k) / 10 := by
 unfold cy;show ((dg t.d (t.nd - 1 - m) - 48) * 10 ^ m + ziz t.d t.nd m) * 2 ^ k / 10 ^ (m + 1) = _
 generalize dg t.d (t.nd - 1 - m) - 48 = c
 generalize ziz t.d t.nd m = v
 have hp : 0 < 10 ^ m := Nat.pow_pos (by decide);rw [Nat.pow_succ, ← Nat.div_div_eq_div_mul];congr 1
 have e : (c * 10 ^ m + v) * 2 ^ k = v * 2 ^ k + c * 2 ^ k * 10 ^ m := by rw [Nat.add_mul, Nat.mul_right_comm]; omega
 rw [e, Nat.add_mul_div_right _ _ hp]
/-! ### the table -/
def lcD (k : Nat) : Nat := if k ≤ 3 then 1 else if k = 6 then 2 else if k = 9 then 3 else if k = 13 then 4 else if k = 16 then 5 else if k = 19 then 6 else if k = 23 then 7 else if k = 26 then 8 else if k = 27 then 9 else 16
def digB (n : Nat) : Nat → List Nat
 | 0 => []
 | m + 1 => (n / 10 ^ m % 10 + 48) :: digB n m
def lcL (k : Nat) : Nat := k + 1 - lcD k
def lcS (k : Nat) : List Nat := digB (5 ^ k) (lcL k)
def Shl (k : Nat) : Prop := k = 1 ∨ k = 3 ∨ k = 6 ∨ k = 9 ∨ k = 13 ∨ k = 16 ∨ k = 19 ∨ k = 23 ∨ k = 26 ∨ k = 27 ∨ k = 53
structure ShlI (k : Nat) : Prop where
 k1 : 1 ≤ k ∧ k ≤ 60
 d1 : 1 ≤ lcD k ∧ lcD k ≤ 16
 up : 2 ^ k ≤ 10 ^ lcD k
 lo : 10 ^ (lcD k - 1) ≤ 2 ^ k
 cut : 10 ^ (lcD k - 1) * 10 ^ (lcS k).length = ow (lcS k) * 2 ^ k
 digs : Digs (lcS k)
 tail : Tail (lcS k)
instance (l : List Nat) : Decidable (Digs l) := inferInstanceAs (Decidable (∀ c ∈ l, 48 ≤ c ∧ c ≤ 57))
theorem shl_ok {k : Nat} (h : Shl k) : ShlI k := by
 rcases h with rfl | rfl | rfl | rfl | rfl | rfl | rfl | rfl | rfl | rfl | rfl <;>
 exact ⟨by decide, by decide, by decide +kernel, by decide +kernel, by decide +kernel, by decide +kernel, by simp [lcS, lcL, lcD, digB, Tail]⟩
def qr (t : Dec) (k : Nat) : Nat := if vx (t.d.take t.nd) (lcS k) then lcD k - 1 else lcD k
theorem oe (a b c : Nat) : a * b * c = a * c * b := Nat.mul_right_comm a b c
theorem zzz {t : Dec} {k : Nat} (ht : DecI t) (h0 : 0 < t.nd) (hk : Shl k) :
 qr t k ≤ 16 ∧ ziz t.d t.nd t.nd * 2 ^ k < 10 ^ (qr t k + t.nd) ∧ (0 < qr t k → 10 ^ (qr t k - 1 + t.nd) ≤ ziz t.d t.nd t.nd * 2 ^ k) := by
 have q := shl_ok hk;have hn := ht.hn;have hl := ht.len;have hlen : (t.d.take t.nd).length = t.nd := by rw [List.length_take]; omega
 have hp := pre_both (digs_take ht) q.digs q.tail;rw [hlen, ← lastV_all (by omega)] at hp;have h1 := lastV_lt ht;have h2 := lastV_lead ht h0;have hd1 := q.d1;have hP : 0 < 2 ^ k := Nat.two_pow_pos k;generalize hN : ziz t.d t.nd t.nd = n at *
 have hL : 0 < 10 ^ (lcS k).length := Nat.pow_pos (by decide);unfold qr;cases hb : vx (t.d.take t.nd) (lcS k) with
 | true =>
  have h3 := hp.1 hb;rw [if_pos rfl];refine ⟨by omega, ?_, fun hpos => ?_⟩
  · refine Nat.lt_of_mul_lt_mul_right (a := 10 ^ (lcS k).length) ?_;rw [Nat.pow_add, oe n, oe (10 ^ (lcD k - 1)), q.cut, oe (ow (lcS k))];exact Nat.mul_lt_mul_of_pos_right h3 hP
  · have e : lcD k - 1 - 1 + t.nd = lcD k - 1 + (t.nd - 1) := by omega
    rw [e, Nat.pow_add, Nat.mul_comm];exact Nat.mul_le_mul h2 q.lo
 | false =>
  have h3 := hp.2 hb;rw [if_neg (by decide)];refine ⟨by omega, ?_, fun hpos => ?_⟩
  · rw [Nat.pow_add, Nat.mul_comm (10 ^ lcD k)];exact Nat.lt_of_lt_of_le (Nat.mul_lt_mul_of_pos_right h1 hP) (Nat.mul_le_mul_left _ q.up)
  · refine Nat.le_of_mul_le_mul_right (c := 10 ^ (lcS k).length) ?_ hL;rw [Nat.pow_add, oe n, oe (10 ^ (lcD k - 1)), q.cut, oe (ow (lcS k))];exact Nat.mul_le_mul_right _ h3
theorem cy_ok {t : Dec} {k : Nat} (ht : DecI t) (h0 : 0 < t.nd) (hk : Shl k) :
 cy t k t.nd < 10 ^ qr t k ∧ (0 < qr t k → 10 ^ (qr t k - 1) ≤ cy t k t.nd) := by
 obtain ⟨_, h1, h2⟩ := zzz ht h0 hk;have hp : 0 < 10 ^ t.nd := Nat.pow_pos (by decide);unfold cy;refine ⟨(Nat.div_lt_iff_lt_mul hp).2 (by rwa [← Nat.pow_add]), fun h => (Nat.le_div_iff_mul_le hp).2 (by rw [← Nat.pow_add]; exact h2 h)⟩
/-! ### the loops -/
structure LsA where
 d : List Nat
 r : Nat
 w : Nat
 n : Nat
 tr : Bool
def kp (d : List Nat) (w x : Nat) : List Nat := if w < 800 then d.set w (x + 48) else d
def lsTr (tr : Bool) (w x : Nat) : Bool := if w < 800 then tr else if x ≠ 0 then true else tr
def lsN (k : Nat) (s : LsA) : Nat := s.n + (dg s.d (s.r - 1) - 48) * 2 ^ k
def zok (s : LsA) : Bool := decide (s.r = 0)
def ylx (k : Nat) (s : LsA) : LsA := ⟨kp s.d (s.w - 1) (lsN k s % 10), s.r - 1, s.w - 1, lsN k s / 10, lsTr s.tr (s.w - 1) (lsN k s % 10)⟩
def zoq (s : LsA) : Bool := decide (s.n = 0)
def ykv (s : LsA) : LsA := ⟨kp s.d (s.w - 1) (s.n % 10), s.r, s.w - 1, s.n / 10, lsTr s.tr (s.w - 1) (s.n % 10)⟩
noncomputable def lsA (t : Dec) (k : Nat) : LsA := qv zok (ylx k) ⟨t.d, t.nd, t.nd + qr t k, 0, t.tr⟩
noncomputable def lsB (t : Dec) (k : Nat) : LsA := qv zoq ykv (lsA t k)
noncomputable def vj (t : Dec) (k : Nat) : Dec := zuq { t with d := (lsB t k).d, nd := if 800 ≤ t.nd + qr t k then 800 else t.nd + qr t k, dp := t.dp + ((qr t k : Nat) : Int), tr := (lsB t k).tr }
theorem put_len {d : List Nat} {w x : Nat} (h : d.length = 800) : (kp d w x).length = 800 := by
 unfold kp; split
 · rw [List.length_set]; exact h
 · exact h
theorem put_at {d : List Nat} {w x i : Nat} (h : d.length = 800) (hi : i < 800) : dg (kp d w x) i = if i = w then x + 48 else dg d i := by
 unfold kp; split
 · rw [zlk (by omega)]
 · rw [if_neg (by omega)]
structure LsAI (t : Dec) (k : Nat) (s : LsA) : Prop where
 len : s.d.length = 800
 hw : s.w = s.r + qr t k
 hr : s.r ≤ t.nd
 old : ∀ i, i < s.r → dg s.d i = dg t.d i
 hn : s.n = cy t k (t.nd - s.r)
 small : s.n < 2 ^ k
 dig : ∀ i, s.w ≤ i → i < t.nd + qr t k → i < 800 → 48 ≤ dg s.d i ∧ dg s.d i ≤ 57
 last : s.r < t.nd → s.w < 800 → dg s.d s.w = (cy t k (t.nd - s.r - 1) + (dg t.d s.r - 48) * 2 ^ k) % 10 + 48
theorem lsA_keeps {t : Dec} {k : Nat} {s : LsA} (ht : DecI t) (h : LsAI t k s) (hd : zok s = false) : LsAI t k (ylx k s) ∧ 0 < s.r ∧ lsN k s < 10 * 2 ^ k := by
 have hd : s.r ≠ 0 := of_decide_eq_false hd;have hr := h.hr;have hn := ht.hn;have hw := h.hw;have ho := h.old (s.r - 1) (by omega);have hg := ht.dig (s.r - 1) (by omega);have hs := h.small;have e1 : t.nd - 1 - (t.nd - s.r) = s.r - 1 := by omega
 have e2 : t.nd - (s.r - 1) = t.nd - s.r + 1 := by omega
 have hN : lsN k s = cy t k (t.nd - s.r) + (dg t.d (t.nd - 1 - (t.nd - s.r)) - 48) * 2 ^ k := by
  unfold lsN; rw [h.hn, ho, e1]
 have hlt : lsN k s < 10 * 2 ^ k := by
  unfold lsN; rw [ho];have : (dg t.d (s.r - 1) - 48) * 2 ^ k ≤ 9 * 2 ^ k := Nat.mul_le_mul_right _ (by omega);omega
 refine ⟨⟨put_len h.len, by show s.w - 1 = s.r - 1 + _; omega, by show s.r - 1 ≤ _; omega, fun i hi => ?_, ?_, ?_, fun i hi h1 h2 => ?_, fun h1 h2 => ?_⟩, by omega, hlt⟩
 · have hi : i < s.r - 1 := hi;show dg (kp s.d (s.w - 1) _) i = _
   rw [put_at h.len (by omega), if_neg (by omega)];exact h.old i (by omega)
 · show lsN k s / 10 = cy t k (t.nd - (s.r - 1))
   rw [e2, cy_succ, hN]
 · show lsN k s / 10 < 2 ^ k
   exact (Nat.div_lt_iff_lt_mul (by decide)).2 (by omega)
 · have hi : s.w - 1 ≤ i := hi;show 48 ≤ dg (kp s.d (s.w - 1) _) i ∧ dg (kp s.d (s.w - 1) _) i ≤ 57
   rw [put_at h.len h2];split
   · have := Nat.mod_lt (lsN k s) (show 0 < 10 by decide); omega
   · exact h.dig i (by omega) h1 h2
 · have h2 : s.w - 1 < 800 := h2;show dg (kp s.d (s.w - 1) _) (s.w - 1) = (cy t k (t.nd - (s.r - 1) - 1) + (dg t.d (s.r - 1) - 48) * 2 ^ k) % 10 + 48
   rw [put_at h.len h2, if_pos rfl, hN, e1, e2, Nat.add_sub_cancel]
theorem lsA_start {t : Dec} {k : Nat} (ht : DecI t) : LsAI t k ⟨t.d, t.nd, t.nd + qr t k, 0, t.tr⟩ := by
 refine ⟨ht.len, rfl, Nat.le_refl _, fun _ _ => rfl, ?_, Nat.two_pow_pos k, fun i hi h1 => absurd h1 (Nat.not_lt.2 hi), fun h1 => absurd h1 (Nat.lt_irrefl _)⟩;show 0 = cy t k (t.nd - t.nd)
 rw [Nat.sub_self];show 0 = 0 * 2 ^ k / 10 ^ 0
 rw [Nat.zero_mul, Nat.zero_div]
theorem lsA_ends {t : Dec} (k : Nat) (ht : DecI t) : LsAI t k (lsA t k) ∧ zok (lsA t k) = true := by
 refine vn (LsAI t k) (fun s => s.r) (fun s h hd => ?_) (lsA_start ht);obtain ⟨h1, h2, _⟩ := lsA_keeps ht h hd;exact ⟨h1, by show s.r - 1 < s.r; omega⟩
structure LsBI (t : Dec) (k : Nat) (s : LsA) : Prop where
 len : s.d.length = 800
 hw : s.w ≤ qr t k
 hn : (s.w = 0 ∧ s.n = 0) ∨ (0 < s.w ∧ 10 ^ (s.w - 1) ≤ s.n ∧ s.n < 10 ^ s.w)
 small : s.n < 2 ^ k
 dig : ∀ i, s.w ≤ i → i < t.nd + qr t k → i < 800 → 48 ≤ dg s.d i ∧ dg s.d i ≤ 57
 lead : s.w = 0 → 49 ≤ dg s.d 0 ∧ (qr t k = 0 → dg t.d 0 < dg s.d 0)
theorem lsB_start {t : Dec} {k : Nat} (ht : DecI t) (h0 : 0 < t.nd) (hk : Shl k) : LsBI t k (lsA t k) := by
 obtain ⟨h1, h2⟩ := lsA_ends k ht;have h2 : (lsA t k).r = 0 := of_decide_eq_true h2;obtain ⟨c1, c2⟩ := cy_ok ht h0 hk;have hw := h1.hw;rw [h2, Nat.zero_add] at hw;have hn := h1.hn;rw [h2, Nat.sub_zero] at hn;have q := shl_ok hk;refine ⟨h1.len, by omega, ?_, h1.small, h1.dig, fun e => ?_⟩
 · rw [hn, hw];rcases Nat.eq_zero_or_pos (qr t k) with e | e
   · rw [e] at c1;exact .inl ⟨e, by simpa using c1⟩
   · exact .inr ⟨e, c2 e, c1⟩
 · have ed : qr t k = 0 := by omega
   have hl := h1.last (by omega) (by omega);rw [h2, Nat.sub_zero, e] at hl;rw [ed] at c1;obtain ⟨n, hnd⟩ : ∃ n, t.nd = n + 1 := ⟨t.nd - 1, by omega⟩;have hc := cy_succ t k n;rw [← hnd, show t.nd - 1 - n = 0 by omega] at hc;rw [show t.nd - 1 = n by omega] at hl;have hz : cy t k t.nd = 0 := by simpa using c1
   rw [hz] at hc;generalize hX : cy t k n + (dg t.d 0 - 48) * 2 ^ k = X at *
   have hX10 : X < 10 := by
    rcases Nat.lt_or_ge X 10 with h | h
    · exact h
    · have : 1 ≤ X / 10 := (Nat.le_div_iff_mul_le (by decide)).2 (by omega);omega
   rw [Nat.mod_eq_of_lt hX10] at hl;have hlead := ht.lead h0;have h2k : 2 ≤ 2 ^ k := by
    have : 2 ^ 1 ≤ 2 ^ k := Nat.pow_le_pow_right (by decide) q.k1.1;simpa using this
   have hm : (dg t.d 0 - 48) * 2 ≤ (dg t.d 0 - 48) * 2 ^ k := Nat.mul_le_mul_left _ h2k;rw [hl];exact ⟨by omega, fun _ => by omega⟩
theorem lsB_keeps {t : Dec} {k : Nat} {s : LsA} (ht : DecI t) (hk : Shl k) (h0 : 0 < t.nd) (h : LsBI t k s) (hd : zoq s = false) : LsBI t k (ykv s) ∧ 0 < s.w ∧ s.w ≤ 16 := by
 have hd : s.n ≠ 0 := of_decide_eq_false hd;have hd16 := (zzz ht h0 hk).1;have hw := h.hw;obtain ⟨h1, h2, h3⟩ := h.hn.resolve_left (fun e => hd e.2);have hs := h.small;have hq : s.n / 10 ≤ s.n := Nat.div_le_self _ _;have hl := h.len;refine ⟨⟨put_len h.len, by show s.w - 1 ≤ _; omega, ?_, by show s.n / 10 < _; omega, fun i hi h4 h5 => ?_, fun e => ?_⟩, h1, by omega⟩
 · show (s.w - 1 = 0 ∧ s.n / 10 = 0) ∨ (0 < s.w - 1 ∧ 10 ^ (s.w - 1 - 1) ≤ s.n / 10 ∧ s.n / 10 < 10 ^ (s.w - 1))
   rcases Nat.eq_zero_or_pos (s.w - 1) with e | e
   · have : s.w = 1 := by omega
     rw [this] at h3;exact .inl ⟨e, by simpa using h3⟩
   · refine .inr ⟨e, (Nat.le_div_iff_mul_le (by decide)).2 ?_, (Nat.div_lt_iff_lt_mul (by decide)).2 ?_⟩
     · rw [← Nat.pow_succ, show (s.w - 1 - 1).succ = s.w - 1 by omega]; exact h2
     · rw [← Nat.pow_succ, show (s.w - 1).succ = s.w by omega]; exact h3
 · have hi : s.w - 1 ≤ i := hi;show 48 ≤ dg (kp s.d (s.w - 1) _) i ∧ dg (kp s.d (s.w - 1) _) i ≤ 57
   rw [put_at hl h5];split
   · have := Nat.mod_lt s.n (show 0 < 10 by decide); omega
   · exact h.dig i (by omega) h4 h5
 · have e : s.w - 1 = 0 := e;have e1 : s.w = 1 := by omega
   rw [e1] at h2 h3;show 49 ≤ dg (kp s.d (s.w - 1) _) 0 ∧ (_ → dg t.d 0 < dg (kp s.d (s.w - 1) _) 0)
   rw [e, put_at hl (by decide), if_pos rfl, Nat.mod_eq_of_lt (by simpa using h3)];have : 1 ≤ s.n := by simpa using h2
   exact ⟨by omega, fun e2 => by omega⟩
theorem lsB_ends {t : Dec} {k : Nat} (ht : DecI t) (h0 : 0 < t.nd) (hk : Shl k) : LsBI t k (lsB t k) ∧ zoq (lsB t k) = true := by
 refine vn (LsBI t k) (fun s => s.w) (fun s h hd => ?_) (lsB_start ht h0 hk);obtain ⟨h1, h2, _⟩ := lsB_keeps ht hk h0 h hd;exact ⟨h1, by show s.w - 1 < s.w; omega⟩
theorem zgz {t : Dec} {k : Nat} (ht : DecI t) (h0 : 0 < t.nd) (hk : Shl k) :
 DecI (vj t k) ∧ 0 < (vj t k).nd ∧ t.dp ≤ (vj t k).dp ∧ (vj t k).dp ≤ t.dp + 16 ∧ (t.dp < (vj t k).dp ∨ ((vj t k).dp = t.dp ∧ dg t.d 0 < dg (vj t k).d 0)) ∧ (vj t k).neg = t.neg := by
 obtain ⟨h1, h2⟩ := lsB_ends ht h0 hk;have h2 : (lsB t k).n = 0 := of_decide_eq_true h2;have hd16 := (zzz ht h0 hk).1;have hw : (lsB t k).w = 0 := by
  rcases h1.hn with h | h
  · exact h.1
  · have : 0 < 10 ^ ((lsB t k).w - 1) := Nat.pow_pos (by decide);omega
 have hl := h1.lead hw;have hI : DecI { t with d := (lsB t k).d, nd := if 800 ≤ t.nd + qr t k then 800 else t.nd + qr t k, dp := t.dp + ((qr t k : Nat) : Int), tr := (lsB t k).tr } := by
  refine ⟨h1.len, ?_, fun i hi => ?_, fun _ => hl.1⟩
  · show (if 800 ≤ t.nd + qr t k then 800 else t.nd + qr t k) ≤ 800
    by_cases e : 800 ≤ t.nd + qr t k
    · rw [if_pos e]; exact Nat.le_refl _
    · rw [if_neg e]; omega
  · have hi : i < (if 800 ≤ t.nd + qr t k then 800 else t.nd + qr t k) := hi;refine h1.dig i (by omega) ?_ ?_
    · split at hi <;> omega
    · split at hi <;> omega
 have hpos : 0 < (if 800 ≤ t.nd + qr t k then 800 else t.nd + qr t k) := by split <;> omega
 have hdp : (vj t k).dp = t.dp + ((qr t k : Nat) : Int) := trimD_dp hI hpos;refine ⟨yfv hI, yaq hI hpos, by rw [hdp]; omega, by rw [hdp]; omega, ?_, rfl⟩;rw [hdp];rcases Nat.eq_zero_or_pos (qr t k) with e | e
 · exact .inr ⟨by omega, hl.2 e⟩
 · exact .inl (by omega)
def bAt (s : ByteArray) (i : Nat) : Nat := ((s.data[i]?).map (·.toNat)).getD 0
theorem yu {s : ByteArray} {i : Nat} (h : i < s.size) : (s.data[i]?).map (·.toNat) = some (bAt s i) := by
 have h1 : s.data[i]? = some s.data[i] := Array.getElem?_eq_getElem h;unfold bAt;rw [h1]; rfl
theorem bAt_lt (s : ByteArray) (i : Nat) : bAt s i < 256 := by
 unfold bAt;cases h : s.data[i]? with
 | none => decide
 | some c => exact c.toNat_lt
structure RdS where
 i : Nat
 m : Nat
 nd : Nat
 nm : Nat
 dp : Int
 dot : Bool
 dig : Bool
 tr : Bool
def isDg (c : Nat) : Bool := decide (48 ≤ c ∧ c ≤ 57)
def kt (s : ByteArray) (t : RdS) : Bool :=
 decide (s.size ≤ t.i) || (if bAt s t.i = 46 then t.dot else !isDg (bAt s t.i))
def vz (s : ByteArray) (t : RdS) : RdS :=
 if bAt s t.i = 46 then { t with i := t.i + 1, dot := true, dp := t.nd }
 else if bAt s t.i = 48 ∧ t.nd = 0 then { t with i := t.i + 1, dig := true, dp := t.dp - 1 }
 else if t.nm < 19 then { t with i := t.i + 1, dig := true, nd := t.nd + 1, nm := t.nm + 1, m := t.m * 10 + (bAt s t.i - 48) }
 else { t with i := t.i + 1, dig := true, nd := t.nd + 1, tr := t.tr || decide (bAt s t.i ≠ 48) }
structure RdI (s : ByteArray) (t : RdS) : Prop where
 hi : t.i ≤ s.size
 hm : t.m < 10 ^ t.nm
 hn : t.nm ≤ 19
 hd : t.nd ≤ t.i
 hp : -((t.i : Nat) : Int) ≤ t.dp ∧ t.dp ≤ ((t.i : Nat) : Int)
theorem rd_keeps {s : ByteArray} {t : RdS} (h : RdI s t) (hd : kt s t = false) : RdI s (vz s t) := by
 obtain ⟨h1, h2, h3, h4, h5⟩ := h;unfold kt at hd;rw [Bool.or_eq_false_iff] at hd;have hi := of_decide_eq_false hd.1;have hd2 := hd.2;unfold vz;split
 · exact ⟨by show t.i + 1 ≤ s.size; omega, h2, h3, by show t.nd ≤ t.i + 1; omega, by show -((t.i + 1 : Nat) : Int) ≤ ((t.nd : Nat) : Int) ∧ ((t.nd : Nat) : Int) ≤ ((t.i + 1 : Nat) : Int); omega⟩
 · rename_i hc
   rw [if_neg hc] at hd2;have hg : isDg (bAt s t.i) = true := by simpa using hd2
   have hg := of_decide_eq_true hg;split
   · exact ⟨by show t.i + 1 ≤ s.size; omega, h2, h3, by show t.nd ≤ t.i + 1; omega, by show -((t.i + 1 : Nat) : Int) ≤ t.dp - 1 ∧ t.dp - 1 ≤ ((t.i + 1 : Nat) : Int); omega⟩
   · split
     · refine ⟨by show t.i + 1 ≤ s.size; omega, ?_, by show t.nm + 1 ≤ 19; omega, by show t.nd + 1 ≤ t.i + 1; omega, by show -((t.i + 1 : Nat) : Int) ≤ t.dp ∧ t.dp ≤ ((t.i + 1 : Nat) : Int); omega⟩;show t.m * 10 + (bAt s t.i - 48) < 10 ^ (t.nm + 1)
       rw [Nat.pow_succ];omega
     · exact ⟨by show t.i + 1 ≤ s.size; omega, h2, h3, by show t.nd + 1 ≤ t.i + 1; omega, by show -((t.i + 1 : Nat) : Int) ≤ t.dp ∧ t.dp ≤ ((t.i + 1 : Nat) : Int); omega⟩
/-! ### how far to shift -/
def pt (i : Nat) : Nat := if i ≥ 9 then 27 else ([1, 3, 6, 9, 13, 16, 19, 23, 26] : List Nat).getD i 0
theorem pt_shl (i : Nat) : Shl (pt i) := by
 unfold pt;split
 · exact .inr (.inr (.inr (.inr (.inr (.inr (.inr (.inr (.inr (.inl rfl)))))))))
 · rename_i h
   have hi : i < 9 := by omega
   have key : ∀ j : Fin 9, Shl (([1, 3, 6, 9, 13, 16, 19, 23, 26] : List Nat).getD j.val 0) := by
    intro j;match j with
    | ⟨0, _⟩ => exact .inl rfl
    | ⟨1, _⟩ => exact .inr (.inl rfl)
    | ⟨2, _⟩ => exact .inr (.inr (.inl rfl))
    | ⟨3, _⟩ => exact .inr (.inr (.inr (.inl rfl)))
    | ⟨4, _⟩ => exact .inr (.inr (.inr (.inr (.inl rfl))))
    | ⟨5, _⟩ => exact .inr (.inr (.inr (.inr (.inr (.inl rfl)))))
    | ⟨6, _⟩ => exact .inr (.inr (.inr (.inr (.inr (.inr (.inl rfl))))))
    | ⟨7, _⟩ => exact .inr (.inr (.inr (.inr (.inr (.inr (.inr (.inl rfl)))))))
    | ⟨8, _⟩ => exact .inr (.inr (.inr (.inr (.inr (.inr (.inr (.inr (.inl rfl))))))))
   exact key ⟨i, hi⟩
theorem pt_le (i : Nat) : 1 ≤ pt i ∧ pt i ≤ 27 := by
 unfold pt;split
 · exact ⟨by decide, by decide⟩
 · rename_i h
   have key : ∀ j : Fin 9, 1 ≤ ([1, 3, 6, 9, 13, 16, 19, 23, 26] : List Nat).getD j.val 0 ∧ ([1, 3, 6, 9, 13, 16, 19, 23, 26] : List Nat).getD j.val 0 ≤ 27 := by decide
   exact key ⟨i, by omega⟩
structure FbS where
 t : Dec
 e : Int
def zcx (s : FbS) : Bool := decide (s.t.dp ≤ 0)
noncomputable def zbk (s : FbS) : FbS := ⟨jc s.t (pt s.t.dp.toNat), s.e + ((pt s.t.dp.toNat : Nat) : Int)⟩
def zhx (s : FbS) : Bool := decide (¬ (s.t.dp < 0 ∨ (s.t.dp = 0 ∧ dg s.t.d 0 < 53)))
noncomputable def zbv (s : FbS) : FbS := ⟨vj s.t (pt (-s.t.dp).toNat), s.e - ((pt (-s.t.dp).toNat : Nat) : Int)⟩
structure FbI (s : FbS) : Prop where
 dec : DecI s.t
 pos : 0 < s.t.nd
def msR (t : Dec) : Nat := 10 * t.dp.toNat + (dg t.d 0 - 48)
structure FbRI (s : FbS) : Prop extends FbI s where
 dp : -830 ≤ s.t.dp ∧ s.t.dp ≤ 310
 e : 0 ≤ s.e ∧ s.e + 27 * ((msR s.t : Nat) : Int) ≤ 84000
theorem ydv {s : FbS} (h : FbRI s) (hd : zcx s = false) : FbRI (zbk s) ∧ msR (zbk s).t < msR s.t := by
 have hd : ¬ s.t.dp ≤ 0 := of_decide_eq_false hd;have hp := pt_le s.t.dp.toNat;obtain ⟨h1, h2, h3, h4, h5⟩ := kd (k := pt s.t.dp.toNat) h.dec hp.1 h.pos;have h6 := h.dp;have h7 := h.e;have h8 := (h1.dig 0 h2);have h9 := (h.dec.dig 0 h.pos);have ha := h.dec.lead h.pos;have hb := h1.lead h2;have hm : msR (zbk s).t < msR s.t := by
  show 10 * (jc s.t (pt s.t.dp.toNat)).dp.toNat + (dg (jc s.t (pt s.t.dp.toNat)).d 0 - 48) < 10 * s.t.dp.toNat + (dg s.t.d 0 - 48)
  rcases h4 with h4 | ⟨h4, h4'⟩ <;> omega
 refine ⟨⟨⟨h1, h2⟩, ?_, ?_⟩, hm⟩
 · show -830 ≤ (jc s.t (pt s.t.dp.toNat)).dp ∧ (jc s.t (pt s.t.dp.toNat)).dp ≤ 310
   omega
 · show 0 ≤ s.e + ((pt s.t.dp.toNat : Nat) : Int) ∧ s.e + ((pt s.t.dp.toNat : Nat) : Int) + 27 * ((msR (zbk s).t : Nat) : Int) ≤ 84000
   omega
theorem ydk {t : Dec} (h : DecI t) (h0 : 0 < t.nd) (hd : -330 ≤ t.dp ∧ t.dp ≤ 310) : FbRI ⟨t, 0⟩ := by
 have h9 := (h.dig 0 h0);refine ⟨⟨h, h0⟩, by show -830 ≤ t.dp ∧ t.dp ≤ 310; omega, Int.le_refl 0, ?_⟩;show (0 : Int) + 27 * ((msR t : Nat) : Int) ≤ 84000
 unfold msR; omega
noncomputable def fbR (t : Dec) : FbS := qv zcx zbk ⟨t, 0⟩
theorem fbR_ends {t : Dec} (h : DecI t) (h0 : 0 < t.nd) (hd : -330 ≤ t.dp ∧ t.dp ≤ 310) : FbRI (fbR t) ∧ zcx (fbR t) = true :=
 vn FbRI (fun s => msR s.t) (fun _ h hd => ydv h hd) (ydk h h0 hd)
def msL (t : Dec) : Nat := 10 * (1 - t.dp).toNat + (57 - dg t.d 0)
structure FbLI (s : FbS) : Prop extends FbI s where
 dp : -830 ≤ s.t.dp ∧ s.t.dp ≤ 16
 e : s.e ≤ 84000 ∧ 27 * ((msL s.t : Nat) : Int) - 225000 ≤ s.e
theorem yez {s : FbS} (h : FbLI s) (hd : zhx s = false) : FbLI (zbv s) ∧ msL (zbv s).t < msL s.t := by
 have hd : s.t.dp < 0 ∨ (s.t.dp = 0 ∧ dg s.t.d 0 < 53) := Classical.byContradiction fun e => (of_decide_eq_false hd) e;have hp := pt_le (-s.t.dp).toNat;obtain ⟨h1, h2, h3, h3', h4, h5⟩ := zgz (k := pt (-s.t.dp).toNat) h.dec h.pos (pt_shl _);have h6 := h.dp;have h7 := h.e;have h8 := (h1.dig 0 h2);have h9 := (h.dec.dig 0 h.pos);have ha := h.dec.lead h.pos;have hb := h1.lead h2
 have hm : msL (zbv s).t < msL s.t := by
  show 10 * (1 - (vj s.t (pt (-s.t.dp).toNat)).dp).toNat + (57 - dg (vj s.t (pt (-s.t.dp).toNat)).d 0) < 10 * (1 - s.t.dp).toNat + (57 - dg s.t.d 0)
  rcases h4 with h4 | ⟨h4, h4'⟩ <;> omega
 refine ⟨⟨⟨h1, h2⟩, ?_, ?_⟩, hm⟩
 · show -830 ≤ (vj s.t (pt (-s.t.dp).toNat)).dp ∧ (vj s.t (pt (-s.t.dp).toNat)).dp ≤ 16
   omega
 · show s.e - ((pt (-s.t.dp).toNat : Nat) : Int) ≤ 84000 ∧ 27 * ((msL (zbv s).t : Nat) : Int) - 225000 ≤ s.e - ((pt (-s.t.dp).toNat : Nat) : Int)
   omega
theorem yex {s : FbS} (h : FbRI s) (hd : zcx s = true) : FbLI s := by
 have hd : s.t.dp ≤ 0 := of_decide_eq_true hd;have h1 := h.dp;have h2 := h.e;have h3 := h.dec.dig 0 h.pos;refine ⟨h.toFbI, by omega, by omega, ?_⟩;unfold msL; omega
noncomputable def fbL (t : Dec) : FbS := qv zhx zbv (fbR t)
theorem fbL_ends {t : Dec} (h : DecI t) (h0 : 0 < t.nd) (hd : -330 ≤ t.dp ∧ t.dp ≤ 310) : FbLI (fbL t) ∧ zhx (fbL t) = true := by
 obtain ⟨h1, h2⟩ := fbR_ends h h0 hd;exact vn FbLI (fun s => msL s.t) (fun _ h hd => yez h hd) (yex h1 h2)
/-! ### many places to the right -/
structure ShS where
 t : Dec
 k : Nat
def zjq (s : ShS) : Bool := decide (s.k ≤ 60)
noncomputable def zsz (s : ShS) : ShS := ⟨jc s.t 60, s.k - 60⟩
noncomputable def shA (t : Dec) (k : Nat) : ShS := qv zjq zsz ⟨t, k⟩
noncomputable def shrD (t : Dec) (k : Nat) : Dec := jc (shA t k).t (shA t k).k
structure ShI (s : ShS) : Prop where
 dec : DecI s.t
 pos : 0 < s.t.nd
 k1 : 1 ≤ s.k ∧ s.k ≤ 300000
 dp : -10000000 + 15 * ((s.k : Nat) : Int) ≤ s.t.dp ∧ s.t.dp ≤ 1000000
theorem sh_keeps {s : ShS} (h : ShI s) (hd : zjq s = false) : ShI (zsz s) ∧ (zsz s).k < s.k := by
 have hd : ¬ s.k ≤ 60 := of_decide_eq_false hd;obtain ⟨h1, h2, h3, h4, h5⟩ := kd (k := 60) h.dec (by decide) h.pos;have h6 := h.dp;have h7 := h.k1;refine ⟨⟨h1, h2, by show 1 ≤ s.k - 60 ∧ s.k - 60 ≤ 300000; omega, ?_⟩, by show s.k - 60 < s.k; omega⟩;show -10000000 + 15 * ((s.k - 60 : Nat) : Int) ≤ (jc s.t 60).dp ∧ (jc s.t 60).dp ≤ 1000000
 omega
theorem sh_ends {t : Dec} {k : Nat} (h : ShI ⟨t, k⟩) : ShI (shA t k) ∧ zjq (shA t k) = true :=
 vn ShI (fun s => s.k) (fun _ h hd => sh_keeps h hd) h
theorem shrD_keeps {t : Dec} {k : Nat} (h : ShI ⟨t, k⟩) : DecI (shrD t k) ∧ 0 < (shrD t k).nd ∧ -11000000 ≤ (shrD t k).dp ∧ (shrD t k).dp ≤ 1000000 := by
 obtain ⟨h1, h2⟩ := sh_ends h;have h2 : (shA t k).k ≤ 60 := of_decide_eq_true h2;obtain ⟨h3, h4, h5, h6, _⟩ := kd (k := (shA t k).k) h1.dec h1.k1.1 h1.pos;have h7 := h1.dp;refine ⟨h3, h4, ?_, ?_⟩ <;> unfold shrD <;> omega
/-! ### the whole part -/
def rup (t : Dec) (p : Int) : Bool :=
 if p < 0 ∨ ((t.nd : Nat) : Int) ≤ p then false
 else if dg t.d p.toNat = 53 ∧ p + 1 = ((t.nd : Nat) : Int) then (if t.tr then true else if 0 < p then decide ((dg t.d (p.toNat - 1) - 48) % 2 ≠ 0) else false)
 else decide (53 ≤ dg t.d p.toNat)
def znq (t : Dec) (s : RsS) : Bool := decide (¬ (((s.r : Nat) : Int) < t.dp ∧ s.r < t.nd))
def zwx (t : Dec) (s : RsS) : RsS := ⟨s.r + 1, (s.n * 10 % 18446744073709551616 + (dg t.d s.r - 48)) % 18446744073709551616⟩
def zwz (t : Dec) (s : RsS) : Bool := decide (¬ ((s.r : Nat) : Int) < t.dp)
def zvv (s : RsS) : RsS := ⟨s.r + 1, s.n * 10 % 18446744073709551616⟩
noncomputable def riA (t : Dec) : RsS := qv (znq t) (zwx t) ⟨0, 0⟩
noncomputable def riB (t : Dec) : RsS := qv (zwz t) zvv (riA t)
noncomputable def kk (t : Dec) : Nat := if 20 < t.dp then 18446744073709551615 else if rup t t.dp then ((riB t).n + 1) % 18446744073709551616 else (riB t).n
structure RiI (s : RsS) : Prop where
 hr : s.r ≤ 20
 hn : s.n < 18446744073709551616
theorem ycq {t : Dec} {s : RsS} (hp : t.dp ≤ 20) (_ : RiI s) (hd : znq t s = false) : RiI (zwx t s) := by
 have hd : ((s.r : Nat) : Int) < t.dp ∧ s.r < t.nd := Classical.byContradiction fun e => (of_decide_eq_false hd) e;exact ⟨by show s.r + 1 ≤ 20; omega, Nat.mod_lt _ (by decide)⟩
theorem ycz {t : Dec} {s : RsS} (hp : t.dp ≤ 20) (_ : RiI s) (hd : zwz t s = false) : RiI (zvv s) := by
 have hd : ((s.r : Nat) : Int) < t.dp := Classical.byContradiction fun e => (of_decide_eq_false hd) e;exact ⟨by show s.r + 1 ≤ 20; omega, Nat.mod_lt _ (by decide)⟩
theorem riA_ends {t : Dec} (hp : t.dp ≤ 20) : RiI (riA t) := by
 refine (vn RiI (fun s => 20 - s.r) (fun s h hd => ⟨ycq hp h hd, ?_⟩) ⟨Nat.zero_le _, by decide⟩).1;have := (ycq hp h hd).hr;have e : (zwx t s).r = s.r + 1 := rfl;omega
theorem riB_ends {t : Dec} (hp : t.dp ≤ 20) : RiI (riB t) := by
 refine (vn RiI (fun s => 20 - s.r) (fun s h hd => ⟨ycz hp h hd, ?_⟩) (riA_ends hp)).1;have := (ycz hp h hd).hr;have e : (zvv s).r = s.r + 1 := rfl;omega
theorem roundD_lt (t : Dec) : kk t < 18446744073709551616 := by
 unfold kk;split
 · decide
 · rename_i h
   split
   · exact Nat.mod_lt _ (by decide)
   · exact (riB_ends (by omega)).hn
/-! ### the float -/
def slowB (m e : Nat) (neg : Bool) : Nat := if neg then ((m &&& 4503599627370495) ||| (e * 4503599627370496)) ||| 9223372036854775808 else (m &&& 4503599627370495) ||| (e * 4503599627370496)
noncomputable def yhk (t : Dec) (e : Int) : Nat × Nat × Bool :=
 if kk t = 9007199254740992 then (if 1023 ≤ e then (0, 2047, true) else (4503599627370496, (e + 1 + 1023).toNat, false))
 else (kk t, if kk t &&& 4503599627370496 = 0 then 0 else (e + 1023).toNat, false)
noncomputable def fbMid (t : Dec) (e : Int) : Nat × Nat × Bool :=
 if e < -1022 then yhk (vj (shrD t (-1022 - e).toNat) 53) (-1022)
 else if 1024 ≤ e then (0, 2047, true)
 else yhk (vj t 53) e
noncomputable def ky (t : Dec) : Nat × Nat × Bool :=
 if t.nd = 0 then (0, 0, false)
 else if 310 < t.dp then (0, 2047, true)
 else if t.dp < -330 then (0, 0, false)
 else fbMid (fbL t).t ((fbL t).e - 1)
noncomputable def zaq (t : Dec) : Nat := slowB (ky t).1 (ky t).2.1 t.neg
structure Nm (s : ByteArray) (f p E q : Nat) : Prop where
 fp : f < p
 pE : p ≤ E
 hE : E ≤ s.size
 dig1 : ∀ i, f ≤ i → i < p → 48 ≤ bAt s i ∧ bAt s i ≤ 57
 dot : p < E → bAt s p = 46 ∧ p + 1 < E
 dig2 : ∀ i, p < i → i < E → 48 ≤ bAt s i ∧ bAt s i ≤ 57
 exp : E < s.size → bAt s E = 101 ∧ ((q = E + 1 ∧ bAt s (E + 1) ≠ 43 ∧ bAt s (E + 1) ≠ 45) ∨ (q = E + 2 ∧ (bAt s (E + 1) = 43 ∨ bAt s (E + 1) = 45))) ∧ q < s.size ∧ ∀ i, q ≤ i → i < s.size → 48 ≤ bAt s i ∧ bAt s i ≤ 57
theorem zpx {c : Nat} (h : 48 ≤ c ∧ c ≤ 57) : isDg c = true := decide_eq_true h
theorem Nm.at_ {s : ByteArray} {f p E q i : Nat} (h : Nm s f p E q) (h1 : f ≤ i) (h2 : i < E) : (i ≠ p ∧ 48 ≤ bAt s i ∧ bAt s i ≤ 57) ∨ (i = p ∧ bAt s i = 46) := by
 rcases Nat.lt_trichotomy i p with h3 | h3 | h3
 · exact .inl ⟨by omega, h.dig1 i h1 h3⟩
 · subst h3; exact .inr ⟨rfl, (h.dot h2).1⟩
 · exact .inl ⟨by omega, h.dig2 i h3 h2⟩
/-! ### the first loop -/
structure RdN (s : ByteArray) (f p E q : Nat) (t : RdS) : Prop extends RdI s t where
 fi : f ≤ t.i
 iE : t.i ≤ E
 dt : t.dot = true → p < t.i
 dg : f < t.i → t.dig = true
theorem rdN_cont {s : ByteArray} {f p E q : Nat} {t : RdS} (hs : Nm s f p E q) (h : RdN s f p E q t) (hi : t.i < E) : kt s t = false := by
 have hE := hs.hE;unfold kt;rw [Bool.or_eq_false_iff];refine ⟨decide_eq_false (by omega), ?_⟩;rcases hs.at_ h.fi hi with ⟨_, h1⟩ | ⟨h1, h2⟩
 · rw [if_neg (by omega), zpx h1]; rfl
 · rw [if_pos h2];cases hd : t.dot with
   | false => rfl
   | true => have := h.dt hd; omega
theorem rdN_keeps {s : ByteArray} {f p E q : Nat} {t : RdS} (hs : Nm s f p E q) (h : RdN s f p E q t) (hd : kt s t = false) : RdN s f p E q (vz s t) ∧ t.i < E := by
 have hi : t.i < E := by
  refine Nat.lt_of_not_le fun hge => ?_;have e : t.i = E := by have := h.iE; omega
  unfold kt at hd;rw [Bool.or_eq_false_iff] at hd;have h1 : ¬ s.size ≤ t.i := of_decide_eq_false hd.1;have h2 := (hs.exp (by omega)).1;rw [e, h2, if_neg (by decide)] at hd;exact absurd hd.2 (by decide)
 have hstep : (vz s t).i = t.i + 1 := by
  unfold vz;split
  · rfl
  · split
    · rfl
    · split <;> rfl
 have hk := rd_keeps h.toRdI hd;have hfi := h.fi;refine ⟨⟨hk, by rw [hstep]; omega, by rw [hstep]; omega, ?_, ?_⟩, hi⟩
 · rw [hstep];rcases hs.at_ h.fi hi with ⟨_, h1⟩ | ⟨h1, h2⟩
   · intro e;have hdt : (vz s t).dot = t.dot := by
      unfold vz;rw [if_neg (by omega)];split
      · rfl
      · split <;> rfl
     rw [hdt] at e;have := h.dt e; omega
   · intro _; omega
 · intro _;rcases hs.at_ h.fi hi with ⟨_, h1⟩ | ⟨h1, h2⟩
   · unfold vz;rw [if_neg (by omega)];split
     · rfl
     · split <;> rfl
   · have hp := hs.fp;unfold vz;rw [if_pos h2];exact h.dg (by omega)
theorem rdN_start {s : ByteArray} {f p E q : Nat} (hs : Nm s f p E q) : RdN s f p E q ⟨f, 0, 0, 0, 0, false, false, false⟩ := by
 have h1 := hs.fp;have h2 := hs.pE;have h3 := hs.hE;exact ⟨⟨by show f ≤ s.size; omega, by show 0 < 10 ^ 0; decide, Nat.zero_le _, Nat.zero_le _, by show -((f : Nat) : Int) ≤ 0 ∧ 0 ≤ ((f : Nat) : Int); omega⟩, Nat.le_refl _, by show f ≤ E; omega, fun e => (by cases e), fun e => absurd e (Nat.lt_irrefl _)⟩
noncomputable def rdA (s : ByteArray) (f : Nat) : RdS := qv (kt s) (vz s) ⟨f, 0, 0, 0, 0, false, false, false⟩
theorem rd_out {s : ByteArray} {f p E q : Nat} {t : RdS} (hs : Nm s f p E q) (h : RdN s f p E q t) (hd : kt s t = true) : t.i = E := by
 rcases Nat.lt_or_ge t.i E with h1 | h1
 · rw [rdN_cont hs h h1] at hd; cases hd
 · have := h.iE; omega
theorem rdA_ends {s : ByteArray} {f p E q : Nat} (hs : Nm s f p E q) : RdN s f p E q (rdA s f) ∧ (rdA s f).i = E := by
 have h := vn (done := kt s) (step := vz s) (RdN s f p E q) (fun t => E - t.i) (fun t h hd => ?_) (rdN_start hs)
 · exact ⟨h.1, rd_out hs h.1 h.2⟩
 · obtain ⟨h1, h2⟩ := rdN_keeps hs h hd;refine ⟨h1, ?_⟩;have hstep : (vz s t).i = t.i + 1 := by
    unfold vz;split
    · rfl
    · split
      · rfl
      · split <;> rfl
   omega
/-! ### the exponent's loop -/
structure ExS where
 i : Nat
 e : Nat
def ki (s : ByteArray) (t : ExS) : Bool := decide (s.size ≤ t.i) || !isDg (bAt s t.i)
def xv (s : ByteArray) (t : ExS) : ExS := ⟨t.i + 1, if t.e < 10000 then t.e * 10 + (bAt s t.i - 48) else t.e⟩
structure ExI (s : ByteArray) (q : Nat) (t : ExS) : Prop where
 hi : q ≤ t.i ∧ t.i ≤ s.size
 he : t.e < 100000
theorem ex_keeps {s : ByteArray} {q : Nat} {t : ExS} (h : ExI s q t) (hd : ki s t = false) : ExI s q (xv s t) ∧ t.i < s.size ∧ isDg (bAt s t.i) = true := by
 unfold ki at hd;rw [Bool.or_eq_false_iff] at hd;have h1 : ¬ s.size ≤ t.i := of_decide_eq_false hd.1;have h2 : isDg (bAt s t.i) = true := by simpa using hd.2
 have h3 := of_decide_eq_true h2;have h4 := h.hi;have h5 := h.he;refine ⟨⟨by show q ≤ t.i + 1 ∧ t.i + 1 ≤ s.size; omega, ?_⟩, by omega, h2⟩;show (if t.e < 10000 then t.e * 10 + (bAt s t.i - 48) else t.e) < 100000
 split <;> omega
noncomputable def exA (s : ByteArray) (q : Nat) : ExS := qv (ki s) (xv s) ⟨q, 0⟩
theorem zlz {s : ByteArray} {q : Nat} (hq : q ≤ s.size) : ExI s q (exA s q) ∧ ki s (exA s q) = true :=
 vn (ExI s q) (fun t => s.size - t.i) (fun t h hd => by
  obtain ⟨h1, h2, _⟩ := ex_keeps h hd;exact ⟨h1, by show s.size - (t.i + 1) < s.size - t.i; omega⟩) ⟨⟨Nat.le_refl _, hq⟩, by show 0 < 100000; decide⟩
theorem ex_out {s : ByteArray} {q : Nat} {t : ExS} (hs : ∀ i, q ≤ i → i < s.size → 48 ≤ bAt s i ∧ bAt s i ≤ 57) (h : ExI s q t) (hd : ki s t = true) : t.i = s.size := by
 rcases Nat.lt_or_ge t.i s.size with h1 | h1
 · have h2 := hs t.i h.hi.1 h1;unfold ki at hd;rw [zpx h2, decide_eq_false (by omega)] at hd;cases hd
 · have := h.hi; omega
noncomputable def zax (s : ByteArray) (E : Nat) : Int :=
 if s.size ≤ E then 0
 else if bAt s (E + 1) = 45 then -(((exA s (E + 2)).e : Nat) : Int)
 else if bAt s (E + 1) = 43 then (((exA s (E + 2)).e : Nat) : Int)
 else (((exA s (E + 1)).e : Nat) : Int)
theorem zyk {s : ByteArray} {f p E q : Nat} (hs : Nm s f p E q) : -100000 ≤ zax s E ∧ zax s E ≤ 100000 := by
 unfold zax;split
 · omega
 · rename_i h
   obtain ⟨_, h2, h3, _⟩ := hs.exp (by omega);split
   · have := (zlz (s := s) (q := E + 2) (by omega)).1.he; omega
   · split
     · have := (zlz (s := s) (q := E + 2) (by omega)).1.he; omega
     · have := (zlz (s := s) (q := E + 1) (by omega)).1.he; omega
noncomputable def rdP (s : ByteArray) (f : Nat) : Int := (if (rdA s f).dot then (rdA s f).dp else (((rdA s f).nd : Nat) : Int)) + zax s (rdA s f).i
noncomputable def rdX (s : ByteArray) (f : Nat) : Int := if (rdA s f).m ≠ 0 then rdP s f - (((rdA s f).nm : Nat) : Int) else 0
/-! ### the decimal's loop -/
structure StS where
 i : Nat
 dot : Bool
 dig : Bool
 t : Dec
def xf (s : ByteArray) (t : StS) : Bool := decide (s.size ≤ t.i) || (if bAt s t.i = 46 then t.dot else !isDg (bAt s t.i))
def jx (s : ByteArray) (a : StS) : StS :=
 if bAt s a.i = 46 then { a with i := a.i + 1, dot := true, t := { a.t with dp := ((a.t.nd : Nat) : Int) } }
 else if bAt s a.i = 48 ∧ a.t.nd = 0 then { a with i := a.i + 1, dig := true, t := { a.t with dp := a.t.dp - 1 } }
 else if a.t.nd < 800 then { a with i := a.i + 1, dig := true, t := { a.t with d := a.t.d.set a.t.nd (bAt s a.i), nd := a.t.nd + 1 } }
 else { a with i := a.i + 1, dig := true, t := { a.t with tr := if bAt s a.i ≠ 48 then true else a.t.tr } }
structure StN (s : ByteArray) (f p E q : Nat) (a : StS) : Prop where
 fi : f ≤ a.i
 iE : a.i ≤ E
 dt : a.dot = true → p < a.i
 dg : f < a.i → a.dig = true
 dec : DecI a.t
 hp : -((a.i : Nat) : Int) ≤ a.t.dp ∧ a.t.dp ≤ 800
theorem stN_cont {s : ByteArray} {f p E q : Nat} {t : StS} (hs : Nm s f p E q) (h : StN s f p E q t) (hi : t.i < E) : xf s t = false := by
 have hE := hs.hE;unfold xf;rw [Bool.or_eq_false_iff];refine ⟨decide_eq_false (by omega), ?_⟩;rcases hs.at_ h.fi hi with ⟨_, h1⟩ | ⟨h1, h2⟩
 · rw [if_neg (by omega), zpx h1]; rfl
 · rw [if_pos h2];cases hd : t.dot with
   | false => rfl
   | true => have := h.dt hd; omega
theorem st_i (s : ByteArray) (a : StS) : (jx s a).i = a.i + 1 := by
 unfold jx;split
 · rfl
 · split
   · rfl
   · split <;> rfl
theorem ybx {s : ByteArray} {f p E q : Nat} {a : StS} (hs : Nm s f p E q) (h : StN s f p E q a) (hd : xf s a = false) : StN s f p E q (jx s a) ∧ a.i < E := by
 have hi : a.i < E := by
  refine Nat.lt_of_not_le fun hge => ?_;have e : a.i = E := by have := h.iE; omega
  unfold xf at hd;rw [Bool.or_eq_false_iff] at hd;have h1 : ¬ s.size ≤ a.i := of_decide_eq_false hd.1;have h2 := (hs.exp (by omega)).1;rw [e, h2, if_neg (by decide)] at hd;exact absurd hd.2 (by decide)
 have hfi := h.fi;have hp := h.hp;have hdec := h.dec;have hn := hdec.hn;refine ⟨?_, hi⟩;rcases hs.at_ h.fi hi with ⟨hne, h1⟩ | ⟨h1, h2⟩
 · have hno : bAt s a.i ≠ 46 := by omega
   have hdt : a.dot = true → p < a.i + 1 := fun e => by have := h.dt e; omega
   unfold jx;rw [if_neg hno];split
   · exact ⟨by show f ≤ a.i + 1; omega, by show a.i + 1 ≤ E; omega, hdt, fun _ => rfl, ⟨hdec.len, hdec.hn, hdec.dig, hdec.lead⟩, by show -((a.i + 1 : Nat) : Int) ≤ a.t.dp - 1 ∧ a.t.dp - 1 ≤ 800; omega⟩
   · rename_i hz
     split
     · rename_i hlt
       refine ⟨by show f ≤ a.i + 1; omega, by show a.i + 1 ≤ E; omega, hdt, fun _ => rfl, ⟨?_, by show a.t.nd + 1 ≤ 800; omega, fun i hi => ?_, fun _ => ?_⟩, by show -((a.i + 1 : Nat) : Int) ≤ a.t.dp ∧ a.t.dp ≤ 800; omega⟩
       · show (a.t.d.set _ _).length = 800
         rw [List.length_set]; exact hdec.len
       · have hi : i < a.t.nd + 1 := hi;show 48 ≤ dg (a.t.d.set a.t.nd (bAt s a.i)) i ∧ dg (a.t.d.set a.t.nd (bAt s a.i)) i ≤ 57
         rw [zlk (by rw [hdec.len]; exact hlt)];split
         · exact h1
         · exact hdec.dig i (by omega)
       · show 49 ≤ dg (a.t.d.set a.t.nd (bAt s a.i)) 0
         rw [zlk (by rw [hdec.len]; exact hlt)];split
         · rename_i e
           have : bAt s a.i ≠ 48 := fun e2 => hz ⟨e2, e.symm⟩;omega
         · exact hdec.lead (by omega)
     · exact ⟨by show f ≤ a.i + 1; omega, by show a.i + 1 ≤ E; omega, hdt, fun _ => rfl, ⟨hdec.len, hdec.hn, hdec.dig, hdec.lead⟩, by show -((a.i + 1 : Nat) : Int) ≤ a.t.dp ∧ a.t.dp ≤ 800; omega⟩
 · have hpp := hs.fp;unfold jx;rw [if_pos h2];exact ⟨by show f ≤ a.i + 1; omega, by show a.i + 1 ≤ E; omega, fun _ => by show p < a.i + 1; omega, fun _ => h.dg (by omega), ⟨hdec.len, hdec.hn, hdec.dig, hdec.lead⟩, by show -((a.i + 1 : Nat) : Int) ≤ ((a.t.nd : Nat) : Int) ∧ ((a.t.nd : Nat) : Int) ≤ 800; omega⟩
def zhq (neg : Bool) : Dec := ⟨List.replicate 800 0, 0, 0, neg, false⟩
theorem dec0_ok (neg : Bool) : DecI (zhq neg) := ⟨List.length_replicate, Nat.zero_le _, fun _ hi => absurd hi (Nat.not_lt_zero _), fun hi => absurd hi (Nat.lt_irrefl _)⟩
theorem yav {s : ByteArray} {f p E q : Nat} (neg : Bool) (hs : Nm s f p E q) : StN s f p E q ⟨f, false, false, zhq neg⟩ := by
 have h1 := hs.fp;have h2 := hs.pE;exact ⟨Nat.le_refl _, by show f ≤ E; omega, fun e => (by cases e), fun e => absurd e (Nat.lt_irrefl _), dec0_ok neg, by show -((f : Nat) : Int) ≤ 0 ∧ (0 : Int) ≤ 800; omega⟩
noncomputable def stA (s : ByteArray) (f : Nat) (neg : Bool) : StS := qv (xf s) (jx s) ⟨f, false, false, zhq neg⟩
theorem st_out {s : ByteArray} {f p E q : Nat} {t : StS} (hs : Nm s f p E q) (h : StN s f p E q t) (hd : xf s t = true) : t.i = E := by
 rcases Nat.lt_or_ge t.i E with h1 | h1
 · rw [stN_cont hs h h1] at hd; cases hd
 · have := h.iE; omega
theorem stA_ends {s : ByteArray} {f p E q : Nat} (neg : Bool) (hs : Nm s f p E q) : StN s f p E q (stA s f neg) ∧ (stA s f neg).i = E := by
 have h := vn (done := xf s) (step := jx s) (StN s f p E q) (fun t => E - t.i) (fun t h hd => ?_) (yav neg hs)
 · exact ⟨h.1, st_out hs h.1 h.2⟩
 · obtain ⟨h1, h2⟩ := ybx hs h hd;refine ⟨h1, ?_⟩;rw [st_i];omega
noncomputable def setD (s : ByteArray) (f : Nat) (neg : Bool) : Dec :=
 { (stA s f neg).t with dp := (if (stA s f neg).dot then (stA s f neg).t.dp else (((stA s f neg).t.nd : Nat) : Int)) + zax s (stA s f neg).i }
theorem setD_ok {s : ByteArray} {f p E q : Nat} (neg : Bool) (hs : Nm s f p E q) : DecI (setD s f neg) :=
 let h := (stA_ends neg hs).1.dec
 ⟨h.len, h.hn, h.dig, h.lead⟩
def gn (s : ByteArray) (i : Nat) : Bool := decide (s.size ≤ i) || !isDg (bAt s i)
noncomputable def xo (s : ByteArray) (a : Nat) : Nat := qv (gn s) (fun i => i + 1) a
theorem ru_go {s : ByteArray} {i : Nat} (h : gn s i = false) : i < s.size ∧ 48 ≤ bAt s i ∧ bAt s i ≤ 57 := by
 unfold gn at h;rw [Bool.or_eq_false_iff] at h;have h1 : ¬ s.size ≤ i := of_decide_eq_false h.1;have h2 : isDg (bAt s i) = true := by simpa using h.2
 have h3 := of_decide_eq_true h2;exact ⟨by omega, h3⟩
theorem ru_on {s : ByteArray} {i : Nat} (h : i < s.size) (h1 : 48 ≤ bAt s i ∧ bAt s i ≤ 57) : gn s i = false := by
 unfold gn;rw [decide_eq_false (by omega), zpx h1]; rfl
structure RuI (s : ByteArray) (a i : Nat) : Prop where
 lo : a ≤ i
 hi : i ≤ s.size
 dig : ∀ j, a ≤ j → j < i → 48 ≤ bAt s j ∧ bAt s j ≤ 57
theorem ru_keeps {s : ByteArray} {a i : Nat} (h : RuI s a i) (hd : gn s i = false) : RuI s a (i + 1) := by
 obtain ⟨h1, h2⟩ := ru_go hd;refine ⟨Nat.le_succ_of_le h.lo, h1, fun j hj hk => ?_⟩;rcases Nat.lt_or_ge j i with h3 | h3
 · exact h.dig j hj h3
 · obtain rfl : j = i := by omega
   exact h2
theorem km {s : ByteArray} {a : Nat} (ha : a ≤ s.size) : RuI s a (xo s a) ∧ gn s (xo s a) = true :=
 vn (RuI s a) (fun i => s.size - i) (fun i h hd => ⟨ru_keeps h hd, by have := (ru_go hd).1; show s.size - (i + 1) < s.size - i; omega⟩) ⟨Nat.le_refl _, ha, fun j h1 h2 => absurd h1 (Nat.not_le.2 h2)⟩
theorem runD_eq {s : ByteArray} {a r : Nat} (h : RuI s a r) (hd : gn s r = true) : xo s a = r := by
 obtain ⟨h1, h2⟩ := km (Nat.le_trans h.lo h.hi);rcases Nat.lt_trichotomy (xo s a) r with h3 | h3 | h3
 · rw [ru_on (by have := h.hi; omega) (h.dig _ h1.lo h3)] at h2; cases h2
 · exact h3
 · rw [ru_on (by have := h1.hi; omega) (h1.dig _ h.lo h3)] at hd; cases hd
theorem bAt_end {s : ByteArray} {i : Nat} (h : s.size ≤ i) : bAt s i = 0 := by
 unfold bAt;have h1 : s.data[i]? = none := Array.getElem?_eq_none h;rw [h1]; rfl
theorem ox {s : ByteArray} {i : Nat} (h : bAt s i ≠ 0) : i < s.size := by
 rcases Nat.lt_or_ge i s.size with h1 | h1
 · exact h1
 · exact absurd (bAt_end h1) h
noncomputable def nB (s : ByteArray) (a : Nat) : Nat := if bAt s a = 46 then xo s (a + 1) else a
def nQ (s : ByteArray) (b : Nat) : Nat := if bAt s (b + 1) = 43 ∨ bAt s (b + 1) = 45 then b + 2 else b + 1
noncomputable def nC (s : ByteArray) (b : Nat) : Nat := if bAt s b = 101 then xo s (nQ s b) else b
def Num3 (s : ByteArray) (b : Nat) : Prop := nC s b = s.size ∧ (bAt s b = 101 → nQ s b < nC s b)
def Num2 (s : ByteArray) (a : Nat) : Prop := (bAt s a = 46 → a + 1 < nB s a) ∧ Num3 s (nB s a)
def NumP (s : ByteArray) (f : Nat) : Prop := f < xo s f ∧ Num2 s (xo s f)
noncomputable def numB (s : ByteArray) (f : Nat) : Bool := @decide (NumP s f) (Classical.propDecidable _)
theorem numB_on {s : ByteArray} {f : Nat} (h : NumP s f) : numB s f = true := by unfold numB; exact @decide_eq_true _ (Classical.propDecidable _) h
theorem zxq {s : ByteArray} {f : Nat} (h : ¬ NumP s f) : numB s f = false := by unfold numB; exact @decide_eq_false _ (Classical.propDecidable _) h
theorem numB_is {s : ByteArray} {f : Nat} (h : numB s f = true) : NumP s f := by unfold numB at h; exact @of_decide_eq_true _ (Classical.propDecidable _) h
theorem nB_le {s : ByteArray} {a : Nat} (ha : a ≤ s.size) : a ≤ nB s a ∧ nB s a ≤ s.size := by
 unfold nB;split
 · rename_i h
   have h1 := (km (s := s) (a := a + 1) (ox (by omega))).1;exact ⟨by have := h1.lo; omega, h1.hi⟩
 · exact ⟨Nat.le_refl _, ha⟩
theorem nQ_le {s : ByteArray} {b : Nat} (hb : b < s.size) : nQ s b ≤ s.size := by
 unfold nQ;split
 · rename_i h
   have := ox (s := s) (i := b + 1) (by omega);omega
 · omega
theorem num_nm {s : ByteArray} {f : Nat} (hf : f ≤ s.size) (h : NumP s f) : Nm s f (xo s f) (nB s (xo s f)) (nQ s (nB s (xo s f))) := by
 obtain ⟨h1, h2, h3, h4⟩ := h;obtain ⟨r1, _⟩ := km (s := s) hf;generalize hp : xo s f = p at *
 have hE := nB_le (s := s) r1.hi;generalize hb : nB s p = E at *
 refine ⟨h1, hE.1, hE.2, r1.dig, fun hl => ?_, fun i hi hj => ?_, fun hl => ?_⟩
 · by_cases h5 : bAt s p = 46
   · exact ⟨h5, h2 h5⟩
   · have : nB s p = p := by unfold nB; rw [if_neg h5]
     omega
 · by_cases h5 : bAt s p = 46
   · have e : nB s p = xo s (p + 1) := by unfold nB; rw [if_pos h5]
     have h6 := (km (s := s) (a := p + 1) (ox (by omega))).1;exact h6.dig i hi (by rw [← e, hb]; exact hj)
   · have : nB s p = p := by unfold nB; rw [if_neg h5]
     omega
 · by_cases h5 : bAt s E = 101
   · have h6 := h4 h5;have hq := nQ_le (s := s) (b := E) hl;have e : nC s E = xo s (nQ s E) := by unfold nC; rw [if_pos h5]
     rw [h3] at h6;refine ⟨h5, ?_, h6, fun i hi hj => ?_⟩
     · unfold nQ;split
       · rename_i h7; exact .inr ⟨rfl, h7⟩
       · rename_i h7; exact .inl ⟨rfl, fun e => h7 (.inl e), fun e => h7 (.inr e)⟩
     · have h8 := (km (s := s) (a := nQ s E) hq).1;exact h8.dig i hi (by rw [← e, h3]; exact hj)
   · have : nC s E = E := by unfold nC; rw [if_neg h5]
     omega
section
variable {P : Program} {N : Nat} {Q : Exit → Act → World → Prop} {σ : Env} {w : World} {body : Code} {n : Nat}
theorem inScope_up : ∀ (n : Nat) (e : Exit) (a : Act) (w : World), jz P body Q 0 e a w → jz P body Q n e a w
 | 0, _, _, _, h => h
 | n + 1, e, _, _, h => by
  cases e <;> first | exact h | exact .inl h
theorem cw_tail {l : Nat} {rest : Code} {ι : Type} (s : ι → Env) (R : ι → World → Prop) (_ : findLabel body l = some rest)
 (hb : (∀ i w, R i w → CW P N rest (jz P body Q 0) (s i) w) → CW P N body (jz P body Q n) σ w) (ht : ∀ i w, R i w → CW P N rest (jz P body Q 0) (s i) w) : CW P N body (jz P body Q n) σ w := hb ht
theorem zcz {l k : Nat} {rest : Code} {ι : Type} {s : ι → Env} {R : ι → World → Prop} (hl : findLabel body l = some rest) (ht : ∀ i w, R i w → CW P N rest (jz P body Q 0) (s i) w) (i : ι) (hs : Sub σ (s i)) (hr : R i w) : EW N (jz P body Q (k + 1)) (.goto l) σ w :=
 ew_scope_goto hl (fun a ha => Code.wp_mono (fun e a w q => inScope_up k e a w q) (ht i w hr a (ha.weak (ydx hs))))
end
theorem reads_i64 {n : Nat} {w : World} {B : Option Addr} {i : LIns} (hi : InsI i) (hl : IntsA n w B i.l) : ∀ y ∈ qy i, I64 y := by
 intro y hy;have h1 := hi.a;have h2 := hi.b;unfold qy at hy;rcases List.mem_append.1 hy with hy | hy
 · split at hy <;> simp at hy; subst hy; exact h1
 · rcases List.mem_append.1 hy with hy | hy
   · split at hy <;> simp at hy; subst hy; exact h2
   · split at hy
     · exact hl.in_ y hy
     · cases hy
theorem yfq {n : Nat} {w : World} {B : Option Addr} {i : LIns} (hi : InsI i) (hl : IntsA n w B i.l) : ∀ y ∈ qh i, I64 y := by
 intro y hy;have h1 := hi.d;unfold qh at hy;(repeat' split at hy) <;> first | exact hl.in_ y hy | (simp at hy; subst hy; exact h1) | (simp at hy)
theorem rw_len {i : LIns} : (qy i).length + (qh i).length ≤ i.l.length + 3 := by
 have key : ∀ {a b c d : List Int}, a.length ≤ 1 → b.length ≤ 1 → c.length ≤ i.l.length → d.length ≤ 1 → (a ++ (b ++ c)).length + d.length ≤ i.l.length + 3 := fun h1 h2 h3 h4 => by simp only [List.length_append]; omega
 by_cases h35 : i.op = 35
 · have e : qy i = (if uA i.op = true then [i.a] else []) ++ ((if uB i.op = true then [i.b] else []) ++ []) := by
    unfold qy;rw [h35]; simp
   have e2 : qh i = i.l := by unfold qh; rw [if_pos h35]
   rw [e, e2];simp only [List.length_append, List.length_nil]
   (repeat' split) <;> simp <;> omega
 · have e2 : qh i = if uD i.op = true then [i.d] else [] := by unfold qh; rw [if_neg h35]
   rw [e2];unfold qy;refine key ?_ ?_ ?_ ?_ <;> split <;> simp
theorem goes_len (i : LIns) (z : Int) : (qp i z).length ≤ 2 := by
 unfold qp;(repeat' split) <;> simp
theorem next_i64 {z : Int} (h : I64 z) : I64 (zkv z) := by
 obtain ⟨h1, h2⟩ := h;unfold zkv I64;split <;> omega
theorem goes_i64 {i : LIns} {z : Int} (hi : InsI i) (hz : I64 z) : ∀ y ∈ qp i z, I64 y := by
 intro y hy;have h1 := next_i64 hz;have h2 := hi.t;unfold qp at hy;(repeat' split at hy) <;> simp at hy <;> first | (subst hy; assumption) | (rcases hy with rfl | rfl <;> assumption)
instance decI64 (x : Int) : Decidable (I64 x) := by unfold I64; infer_instance
def yhx (is : List (LIns × Option Addr × Nat)) : List Value := is.flatMap fun x => insV x.1 x.2.1 x.2.2
theorem insCs_at : ∀ {is : List (LIns × Option Addr × Nat)} {j i : Nat} {x : LIns × Option Addr × Nat} {v : Value}, is[j]? = some x → (insV x.1 x.2.1 x.2.2)[i]? = some v → (yhx is)[j * 7 + i]? = some v
 | [], _, _, _, _, h, _ => by cases h
 | y :: is, 0, i, x, v, h, hv => by
  obtain rfl := Option.some.inj h;show (insV _ _ _ ++ yhx is)[_]? = _
  have hi : i < (insV y.1 y.2.1 y.2.2).length := (List.getElem?_eq_some_iff.1 hv).1;rw [List.getElem?_append_left (by omega), Nat.zero_mul, Nat.zero_add, hv]
 | y :: is, j + 1, i, x, v, h, hv => by
  show (insV _ _ _ ++ yhx is)[_]? = _
  have hl : (insV y.1 y.2.1 y.2.2).length = 7 := rfl;rw [List.getElem?_append_right (by omega), hl, show (j + 1) * 7 + i - 7 = j * 7 + i by omega];exact insCs_at (by simpa using h) hv
theorem insA_of {w : World} {n g : Nat} {is : List (LIns × Option Addr × Nat)} (hg : g < n) (hc : ∀ j v, (yhx is)[j]? = some v → w.cell? ⟨g, j, none⟩ = some v) (hl : 72 * is.length ≤ 140737488351304) (hi : ∀ x ∈ is, InsI x.1 ∧ 8 * x.1.l.length ≤ 140737488351232 ∧ IntsA n w x.2.1 x.1.l) : InsA n w (some ⟨g, 0, none⟩) (is.map (·.1)) := by
 refine ⟨by rw [List.length_map]; exact hl, fun _ => ⟨g, 0, rfl, hg, fun j x hx => ?_⟩⟩;rw [List.getElem?_map] at hx;cases hy : is[j]? with
 | none => rw [hy] at hx; cases hx
 | some y =>
  rw [hy] at hx;obtain rfl := Option.some.inj hx;obtain ⟨h1, h2, h3⟩ := hi y (List.mem_of_getElem? hy);refine ⟨h1, y.2.1, y.2.2, h2, h3, fun i v hv => ?_⟩;rw [Nat.zero_add];exact hc _ _ (insCs_at hy hv)
theorem IntsA.nil (n : Nat) (w : World) (A : Option Addr) : IntsA n w A [] := ⟨by decide, fun x h => (by cases h), fun h => absurd rfl h⟩
theorem RegsA.nil (n : Nat) (w : World) (A : Option Addr) : RegsA n w A [] := ⟨by decide, fun x h => (by cases h), fun h => absurd rfl h⟩
theorem StrsA.nil (n : Nat) (w : World) (A : Option Addr) : StrsA n w A [] := ⟨by decide, fun x h => (by cases h), fun h => absurd rfl h⟩
theorem ConsA.nil (n : Nat) (w : World) (A : Option Addr) : ConsA n w A [] := ⟨by decide, fun x h => (by cases h), fun h => absurd rfl h⟩
theorem InsA.nil (n : Nat) (w : World) (A : Option Addr) : InsA n w A [] := ⟨by decide, fun h => absurd rfl h⟩
theorem cons_one {w : World} {n g : Nat} {k : Int} {s : ByteArray} (hg : g < n) (h : Blk w g 55 #[.int .i64 k, .string s]) (hk : I64 k) (hs : s.size ≤ maxLen) : ConsA n w (some ⟨g, 0, none⟩) [(k, s)] := by
 refine ⟨by rw [List.length_singleton]; decide, fun x hx => ?_, fun _ => ⟨g, 0, rfl, hg, fun j x hx => ?_⟩⟩
 · rw [List.mem_singleton] at hx; subst hx; exact ⟨hk, hs⟩
 · match j, hx with
   | 0, hx =>
    obtain rfl := Option.some.inj hx;intro i v hv;show w.cell? ⟨g, 0 + 0 * 2 + i, none⟩ = _
    rw [show 0 + 0 * 2 + i = i by omega, h.cell, List.getElem?_toArray];exact hv
   | j + 1, hx => cases hx
def thrP (g3 g5 : Nat) : Pl := ⟨none, 0, some ⟨g3, 0, none⟩, 1, some ⟨g5, 0, none⟩, 4, none, 0⟩
def ThrB (w : World) (g3 g5 : Nat) : Prop := Blk w g3 55 #[.int .i64 1, .string ⟨#[49]⟩] ∧ Blk w g5 40 (yhx (thrF.ins.map fun i => (i, none, 0))).toArray
theorem Per.thrB {X : Nat → Prop} {w : World} {g3 g5 : Nat} (h : ThrB w g3 g5) (h3 : ¬ X g3) (h5 : ¬ X g5) : Per X w (fun z => ThrB z g3 g5) := (Per.blk h.1 h3).and (Per.blk h.2 h5)
theorem thr_mem {w : World} {g3 g5 : Nat} (h3 : Blk w g3 55 #[.int .i64 1, .string ⟨#[49]⟩]) (h5 : Blk w g5 40 (yhx (thrF.ins.map fun i => (i, none, 0))).toArray) : FnA w.heap.size w (thrP g3 g5) thrF := by
 refine ⟨by decide, by decide, by decide, by decide, by decide, StrsA.nil _ _ _, cons_one h3.lt h3 (by decide) (by decide), ?_, RegsA.nil _ _ _, Nat.le_refl _⟩;have h := insA_of (w := w) (n := w.heap.size) (g := g5) (is := thrF.ins.map fun i => (i, none, 0)) h5.lt (fun j v hv => by rw [h5.cell, List.getElem?_toArray]; exact hv) (by decide) (fun x hx => by
  simp only [thrF, List.map_cons, List.map_nil, List.mem_cons, List.not_mem_nil, or_false] at hx
  rcases hx with rfl | rfl | rfl | rfl <;> exact ⟨⟨by decide, by decide, by decide, by decide, by decide, by decide⟩, by decide, IntsA.nil _ _ _⟩)
 exact h
theorem ThrB.fn {w : World} {g3 g5 : Nat} (h : ThrB w g3 g5) : FnA w.heap.size w (thrP g3 g5) thrF := thr_mem h.1 h.2
end Go.Proofs.YtmjbnhjgebjhlaaDoor

/- Texts of this claim. -/
import Derived.Test.YtjdcjdohghkcgaaGreatDoorX9
import Derived.Test.YtjdcjdohghkcgaaGreatDoorProg
import Derived.Lib.ConvBytes
import Derived.Lib.SmallJoins
namespace Go.Proofs.YtjdcjdohghkcgaaGreatDoor
open Go.RowKit
set_option maxRecDepth 100000
def LoopW (P : Program) (c : Code) (Q : Exit → Act → World → Prop) (a : Act) (w : World) : Prop := ∀ b k cs, ∃ e a' w', Q e a' w' ∧ Arrives P (lone (b.at a (.inLoop c :: k)) cs w) b k cs e a' w'
theorem loopW_of {P : Program} {c : Code} {Q : Exit → Act → World → Prop} {a : Act} {w : World} (h : c.wp P (Exit.then (LoopW P c Q) Q) a w) (b : Frame) (k : List Item) (cs : List Frame) :
 ∃ e a' w', Q e a' w' ∧ Arrives P (lone (b.at a (.code c :: .inLoop c :: k)) cs w) b k cs e a' w' := by
 obtain ⟨e, a₁, w₁, hq, harr⟩ := h b (.inLoop c :: k) cs;cases e with
 | normal =>
  obtain ⟨e₂, a₂, w₂, hq₂, harr₂⟩ := hq b k cs;exact ⟨e₂, a₂, w₂, hq₂, .of_steps harr harr₂⟩
 | exit id => exact ⟨_, a₁, w₁, hq, .pass (x := .inLoop c) rfl (fun _ _ => .inl (by simp)) harr⟩
 | goto l => exact ⟨_, a₁, w₁, hq, .pass (x := .inLoop c) rfl (fun _ _ => .inl (by simp)) harr⟩
 | ret => exact ⟨_, a₁, w₁, hq, .pass (x := .inLoop c) rfl (fun _ _ => .inl (by simp)) harr⟩
 | panic ch => exact ⟨_, a₁, w₁, hq, .pass (x := .inLoop c) rfl (fun _ _ => .inl (by simp)) harr⟩
 | outgrown => exact ⟨_, a₁, w₁, hq, .pass (x := .inLoop c) rfl (fun _ _ => .inl (by simp)) harr⟩
section
variable {P : Program} {N : Nat} {ops : Array Oper} {Q : Exit → Act → World → Prop} {σ : Env} {w : World} {ty : TypeId} {pos : String} {af : Array Edge} {dst : Option Nat} {Post : Value → World → Prop}
theorem kf {c : Code} (h : CW P N c (Exit.then (LoopW P c Q) Q) σ w) : CW P N (.loop c) Q σ w := fun a ha b k cs => by
 obtain ⟨e, a', w', hq, harr⟩ := loopW_of (h a ha) b k cs;exact ⟨e, a', w', hq, .of_steps (.one step_loop) harr⟩
theorem vv {c : Code} (h : CW P N c (Exit.then (LoopW P c Q) Q) σ w) : EW N (Exit.then (LoopW P c Q) Q) .normal σ w := fun a ha b k cs => by
 obtain ⟨e, a', w', hq, harr⟩ := loopW_of (h a ha) b k cs;exact ⟨e, a', w', hq, .of_steps (.one step_inLoop) harr⟩
/-! ### floating-point numbers -/
theorem ow_fgeq {T U : TypeId} {x y : Operand} {m n : Nat} (hx : ev σ x = some (.float .f64 m)) (hy : ev σ y = some (.float .f64 n)) (k : Post (.bool (qy m n == some .gt || qy m n == some .eq)) w) : OW P N ops Q ⟨dst, .binOp .geq T x y U, ty, pos, af, none⟩ σ w Post :=
 yv (fun ρ ha => by simp [execOp, ha hx, ha hy, binOp, eqGuard, Op.floatCmp, FloatKind.format, qy, go_sem]) k
theorem ytv {op : BinOp} {T U : TypeId} {x y : Operand} {m n z : Nat} (ho : op = .add ∨ op = .sub ∨ op = .mul ∨ op = .quo) (hx : ev σ x = some (.float .f64 m)) (hy : ev σ y = some (.float .f64 n)) (hz : fop op m n = some z)
 (k : Post (.float .f64 z) w) : OW P N ops Q ⟨dst, .binOp op T x y U, ty, pos, af, none⟩ σ w Post :=
 yhq ho hx hy (fun r w' h => by
  rcases h with ⟨h1, rfl⟩ | ⟨h1, _⟩
  · rw [hz] at h1; cases h1; exact k
  · rw [hz] at h1; cases h1)
/-! ### functions that the model gives itself -/
theorem run_f64bits (b : Nat) (w : World) : (Extern.MathFloatBits.float64bits #[.float .f64 b]).run P w = .ok (.int .u64 ((b : Nat) : Int)) w := rfl
theorem run_frombits (b : Nat) (w : World) : (Extern.MathFloatBits.float64frombits #[.int .u64 ((b : Nat) : Int)]).run P w = .ok (.float .f64 b) w := rfl
theorem ka {f : FuncId} {ts : Array TypeId} {x : Operand} {b : Nat} (hf : Ext_ P f Extern.MathFloatBits.float64bits) (hx : ev σ x = some (.float .f64 b)) (k : Post (.int .u64 ((b : Nat) : Int)) w) : OW P N ops Q ⟨dst, .call ⟨.value (.func f), #[x], ts⟩, ty, pos, af, none⟩ σ w Post :=
 ztx (xs := [x]) (args := [.float .f64 b]) hf (by simp [evs, hx]) (run_f64bits b w) k
theorem ym {f : FuncId} {ts : Array TypeId} {x : Operand} {b : Nat} (hf : Ext_ P f Extern.MathFloatBits.float64frombits) (hx : ev σ x = some (.int .u64 ((b : Nat) : Int))) (k : Post (.float .f64 b) w) : OW P N ops Q ⟨dst, .call ⟨.value (.func f), #[x], ts⟩, ty, pos, af, none⟩ σ w Post :=
 ztx (xs := [x]) (args := [.int .u64 ((b : Nat) : Int)]) hf (by simp [evs, hx]) (run_frombits b w) k
def kx (way : Ieee.Toward) (b : Nat) : Nat := FloatKind.f64.encode ((FloatKind.f64.decode b).integral way)
theorem ow_round {f : FuncId} {ts : Array TypeId} {x : Operand} {b : Nat} {name : String} {way : Ieee.Toward} (hf : Ext_ P f (Extern.MathFloor.toIntegral name way)) (hx : ev σ x = some (.float .f64 b)) (hn : (FloatKind.f64.decode b).isNaN = false) (k : Post (.float .f64 (kx way b)) w) : OW P N ops Q ⟨dst, .call ⟨.value (.func f), #[x], ts⟩, ty, pos, af, none⟩ σ w Post :=
 ztx (xs := [x]) (args := [.float .f64 b]) (v := .float .f64 (kx way b)) (w' := w) hf (by simp [evs, hx]) (by
  have e : Extern.MathFloor.toIntegral name way #[.float .f64 b] = (match FloatKind.f64.decode b with
   | .nan s t => if FloatKind.f64.format.quiet t = t then pure (.float .f64 b) else do
    let kept ← choose (.extern "math.Floor,Ceil,Trunc,RoundToEven.signallingNaN kept" 2)
    pure (.float .f64 (if kept == 1 then b else FloatKind.f64.encode (.nan s (FloatKind.f64.format.quiet t))))
   | d => pure (.float .f64 (FloatKind.f64.encode (d.integral way)))) := rfl
  rw [e];unfold kx;cases h : FloatKind.f64.decode b with
  | nan s t => rw [h] at hn; cases hn
  | infinity s => rfl
  | number s m e => rfl) k
/-! ### strings that are written out -/
theorem xl (a : Array UInt8) : (⟨a⟩ : ByteArray).toList = a.toList := by rw [ByteArray.toList_eq]
theorem ow_min {x y : Operand} {t1 t2 : TypeId} {q q2 : IntKind} {m n : Int} (hx : ev σ x = some (.int q m)) (hy : ev σ y = some (.int q2 n))
 (k : Post (.int q (if n < m then n else m)) w) : OW P N ops Q ⟨dst, .call ⟨.builtin .min, #[x, y], #[t1, t2]⟩, ty, pos, af, none⟩ σ w Post :=
 yv (fun ρ ha => by simp [execOp, resolve, invoke, builtin, Builtin.min_, Builtin.min2, ha hx, ha hy, go_sem]) k
theorem yj {x i : Operand} {T : TypeId} {s : ByteArray} {q : IntKind} {m : Int} {j : Nat} {b : Nat} (hd : P.underlying T = some .string) (hx : ev σ x = some (.string s)) (hi : ev σ i = some (.int q m)) (hm : m = (j : Int)) (hb : (s.data[j]?).map (·.toNat) = some b)
 (k : Post (.int .u8 (b : Int)) w) : OW P N ops Q ⟨dst, .index T x i, ty, pos, af, none⟩ σ w Post := by
 obtain ⟨c, h1, rfl⟩ := Option.map_eq_some_iff.1 hb;exact ow_indexS hd hx hi hm (show s[j]? = some c by
  have h2 : s[j]? = s.data[j]? := rfl;rw [h2, h1]) k
theorem ko {x i : Operand} {T e : TypeId} {g o n s : Nat} {q : IntKind} {m : Int} {j : Nat} (hd : P.underlying T = some (.array n e)) (hs : vm P e s) (hx : ev σ x = some (.pointer (some ⟨g, o, none⟩))) (hi : ev σ i = some (.int q m)) (hm : m = (j : Int)) (hj : j < n)
 (k : Post (.pointer (some ⟨g, o + j * s, none⟩)) w) : OW P N ops Q ⟨dst, .indexAddr T x i, ty, pos, af, none⟩ σ w Post :=
 yv (fun ρ ha => by
  subst hm;have h1 : ¬ n ≤ j := by omega
  simp [execOp, ha hx, ha hi, Instr.indexAt, Instr.sureAddr, asIntOf, run_underlying hd, jy hs, h1, hj, Addr.add_eq, go_sem]) k
/-! ### an error that is none -/
theorem run_equalN {T : TypeId} {ms : Array (String × TypeId)} (hd : P.underlying T = some (.interface ms)) : (Op.equal T .nilIface .nilIface).run P w = .ok true w := by
 have e : Op.maxDepth = 9999 + 1 := rfl;have key : ∀ d : Nat, (Op.equalIn (d + 1) T .nilIface .nilIface).run P w = .ok true w := by
  intro d;rw [Op.equalIn];simp only [Sem.run_bind, run_underlying hd, Result.andThen_ok]
  rfl
 unfold Op.equal;rw [e];exact key 9999
theorem ow_neqN {T U : TypeId} {x : Operand} {ms : Array (String × TypeId)} (hd : P.underlying T = some (.interface ms)) (hx : ev σ x = some .nilIface) (k : Post (.bool false) w) : OW P N ops Q ⟨dst, .binOp .neq T x (.const .nilIface) U, ty, pos, af, none⟩ σ w Post :=
 yv (fun ρ ha => by
  have e := run_equalN (P := P) (w := w) hd;have hc : ρ (.const .nilIface) = .nilIface := ha rfl;simp only [execOp, ha hx, hc, eqGuard, binOp]
  simp [e, go_sem]) k
def RowL (w : World) (g : Nat) (xs : List Value) : Prop := ∀ j v, xs[j]? = some v → w.cell? ⟨g, j, none⟩ = some v
theorem Per.rowL {w : World} {g : Nat} {xs : List Value} (h : RowL w g xs) : Per No w (fun b => RowL b g xs) := fun b hb j v hj => by
 have h1 := h j v hj;rw [hb.cell (p := ⟨g, j, none⟩) (World.block_lt_of_cell? w _ h1) (fun e => e.elim)]; exact h1
theorem ytk {S D e : TypeId} {x : Operand} {s : ByteArray} {n : Nat} {xs : List Value} (hS : P.underlying S = some .string) (hD : P.underlying D = some (.slice e)) (he : P.underlying e = some (.int .u8)) (hx : ev σ x = some (.string s)) (hn : s.size = n) (hl : s.data.toList.map (fun b => Value.int .u8 (b.toNat : Int)) = xs)
 (k : ∀ g c w', RowL w' g xs → Ext No w w' → w.heap.size ≤ g → Post (.slice (some ⟨g, 0, none⟩) n c) w') : OW P N ops Q ⟨dst, .convert S D x, ty, pos, af, none⟩ σ w Post :=
 yv (v := .slice (some ⟨w.heap.size, 0, none⟩) s.size (grownCap w s.size 0 e)) (w' := Lib.bytesWorld w e s) (fun ρ ha => by
  simp only [execOp, ha hx, Sem.run_bind, Lib.run_convert_string_bytes w S D e s hS hD he, Result.andThen_ok, Sem.run_pure]) (by
  subst hn;refine k _ _ _ (fun j v hj => ?_) (Ext.of_below (Joins.below_bytesWorld _ _ _ _ (Nat.le_refl _)) No) (Nat.le_refl _);rw [← hl, List.getElem?_map] at hj;obtain ⟨b, hb, rfl⟩ := Option.map_eq_some_iff.1 hj;have hlt : j < s.size := by
   have h1 := (List.getElem?_eq_some_iff.1 hb).1;have h2 : s.data.toList.length = s.size := Array.length_toList;omega
  rw [Lib.bytesWorld_cell w e s j hlt, List.getD_eq_getElem?_getD, hb]; rfl)
end
abbrev Gives (f : FuncId) (args : Array Value) (v : Value) : Prop := ∀ w, Calls Tryz.prog f args w fun e w' => e = .returned v ∧ Below w.heap.size w w'
section
variable {P : Program} {N : Nat} {Q : Exit → Act → World → Prop} {σ : Env} {w : World} {l : List Oper}
def trL (k n : Nat) : Array Bool := (List.replicate k true ++ List.replicate (n - k) false).toArray
def AK (P : Program) (N k : Nat) (l : List Oper) (Q : Exit → Act → World → Prop) (σ : Env) (w : World) : Prop := ∀ a, At N σ a → wpAny P .any l.toArray Q (l.length - k) (trL k l.length) a w
theorem cw_any {id : Nat} (hm : P.follows .mixedOrders = true) (h : AK P N 0 l Q σ w.drew) : CW P N (.region id l.toArray true) Q σ w := fun a ha => by
 refine wp_region_any hm ?_;have := h a ha;unfold trL at this;simpa using this
theorem trL_get {k n j : Nat} {d : Bool} (hj : j < n) (hk : k ≤ n) : (trL k n).getD j d = decide (j < k) := by
 unfold trL;by_cases h : j < k
 · simp [Array.getD_eq_getD_getElem?, List.getElem?_append, h]
 · have h2 : j - k < n - k := by omega
   simp [Array.getD_eq_getD_getElem?, List.getElem?_append, h, List.getElem?_replicate, h2]
theorem trL_set {k n : Nat} (h : k < n) : (trL k n).setIfInBounds k true = trL (k + 1) n := by
 unfold trL;apply Array.toList_inj.1
 rw [Array.toList_setIfInBounds];have e : n - k = (n - (k + 1)) + 1 := by omega
 rw [e, List.replicate_succ, List.replicate_succ', List.append_assoc];simp
def quiet (o : Oper) : Bool := match o.guard with
 | some _ => false
 | none => match o.op with
  | .move _ => true
  | .assign _ => true
  | .extract _ _ => true
  | _ => false
theorem quiet_yields {ops : Array Oper} {o : Oper} {a : Act} {w : World} {K : Act → World → Prop} (hq : quiet o = true) (h : o.wp P a w K Q ∨ (o.asks P a w ∧ LetsOut Q)) : ∃ v, Yields P ops o v a ∧ K (a.put o.dst v) w := by
 obtain ⟨dst, op, type, pos, after, guard⟩ := o;cases guard with
 | some g => simp [quiet] at hq
 | none =>
  cases op <;> first | (simp [quiet] at hq; done) | skip
  case move x =>
   refine ⟨a.eval x, .inl ⟨by simp [Region.wanted], fun w => by simp [execOp, go_sem]⟩, ?_⟩;rcases h with h | ⟨h, _⟩
   · simpa [Oper.wp, execOp, go_sem, Oper.upon] using h
   · exact absurd h (by simp [Oper.asks, execOp, Sem.runT, Sem.events, pure, bind])
  case assign x =>
   refine ⟨a.eval x, .inl ⟨by simp [Region.wanted], fun w => by simp [execOp, go_sem]⟩, ?_⟩;rcases h with h | ⟨h, _⟩
   · simpa [Oper.wp, execOp, go_sem, Oper.upon] using h
   · exact absurd h (by simp [Oper.asks, execOp, Sem.runT, Sem.events, pure, bind])
  case extract x i =>
   rcases h with h | ⟨h, _⟩
   · unfold Oper.wp at h;simp only [execOp, Instr.extract] at h
     split at h
     · rename_i vs hx
       split at h
       · rename_i v hv
         refine ⟨v, .inl ⟨by simp [Region.wanted], fun w => by simp only [execOp, hx, Instr.extract, hv]; rfl⟩, ?_⟩;simpa [go_sem, Oper.upon] using h
       · simp [go_sem, Oper.upon, stuck] at h
     · simp [go_sem, Oper.upon, stuck] at h
   · exfalso
     unfold Oper.asks at h;simp only [execOp, Instr.extract] at h
     split at h
     · split at h
       · simp [Sem.runT, Sem.events, Sem.bind, pure, bind] at h
       · simp [Sem.runT, Sem.events, Sem.bind, pure, bind, stuck] at h
     · simp [Sem.runT, Sem.events, Sem.bind, pure, bind, stuck] at h
def ywx (l : List Oper) : Nat → Nat → Bool
 | _, 0 => true
 | k, m + 1 => (match Region.ready .any l.toArray (trL k l.length) with
  | [] => false
  | [j] => Nat.beq j k
  | r => memN k r && (match l.toArray[k]? with
   | some o => quiet o
   | none => false) && Region.free .any l.toArray (trL k l.length) k) && ywx l (k + 1) m
theorem any_of_list (hn : Region.noSelect l.toArray = true) (hQ : ∀ c (a : Act) d v w, Q (.panic c) (a.put d v) w → Q (.panic c) a w) :
 ∀ (m k : Nat), k + m = l.length → ywx l k m = true → ∀ a w, wpList P l.toArray Q (l.drop k) a w → wpAny P .any l.toArray Q m (trL k l.length) a w := by
 intro m;induction m with
 | zero =>
  intro k hk _ a w h;have hk : k = l.length := by omega
  subst hk;rw [List.drop_length] at h;refine ⟨List.eq_nil_iff_forall_not_mem.2 fun j hj => ?_, h⟩;obtain ⟨h0, o, ho, _⟩ := mem_ready.1 hj;have hlt : j < l.length := by simpa using (Array.getElem?_eq_some_iff.1 ho).1
  rw [trL_get hlt (Nat.le_refl _)] at h0;simp [hlt] at h0
 | succ m ih =>
  intro k hk hs a w h;have hkl : k < l.length := by omega
  simp only [ywx, Bool.and_eq_true] at hs
  rw [List.drop_eq_getElem_cons hkl] at h;have hok : l.toArray[k]? = some l[k] := by simp [hkl]
  have hnext := fun a w h => ih (k + 1) (by omega) hs.2 a w h;rw [← trL_set hkl] at hnext;have hone : wpOp P l.toArray Q k (wpAny P .any l.toArray Q m ((trL k l.length).setIfInBounds k true)) a w := by
   unfold wpOp;rw [hok];simp only []
   unfold wpList at h;split
   · rename_i hw
     rw [if_pos hw] at h;exact h.imp (Oper.wp_mono hnext) id
   · rename_i hw
     rw [if_neg hw] at h;exact hnext _ _ h
  have h1 := hs.1;split at h1
  · cases h1
  · rename_i j hr
    have hj : j = k := Nat.eq_of_beq_eq_true h1;subst hj;exact wpAny_all hr (by simp) fun i hi => by rw [List.mem_singleton.1 hi]; exact hone
  · rename_i hr hr1
    rw [hok] at h1;simp only [Bool.and_eq_true] at h1
    have hq := h1.1.2;unfold wpList at h;have hg : Region.wanted l[k] (yielded l.toArray a.tmps) = true := by
     unfold quiet at hq;split at hq
     · cases hq
     · rename_i hg; simp [Region.wanted, hg]
    rw [if_pos hg] at h;obtain ⟨v, hy, hv⟩ := quiet_yields (ops := l.toArray) hq h;exact wpAny_take hok hn h1.2 (by simpa using ke.1 h1.1.1) (fun c a w h => hQ c a _ _ w h) hy (hnext _ _ hv)
theorem ylx {k : Nat} (hs : (ywx l k (l.length - k) && Region.noSelect l.toArray && Nat.ble k l.length) = true) (hQ : ∀ c (a : Act) d v w, Q (.panic c) (a.put d v) w → Q (.panic c) a w)
 (h : RS P N l.toArray Q (l.drop k) σ w) : AK P N k l Q σ w := fun a ha => by
 simp only [Bool.and_eq_true] at hs
 have := Nat.le_of_ble_eq_true hs.2;exact any_of_list hs.1.2 hQ _ k (by omega) hs.1.1 a w (h a ha)
def covers (ops : Array Oper) : Nat → List Nat → Bool
 | 0, _ => true
 | j + 1, S => memN j S && covers ops j (S ++ jc ops j)
def gateOK (l : List Oper) (m : Nat) : Bool := Nat.ble m l.length && zqq 0 (l.take m) [] && ((l.take m).all fun o => match o.guard with
 | some (g, _) => Nat.blt g m
 | none => true) && (List.range (l.length - m)).all fun t => (jc l.toArray (m + t)).any (fun d => Nat.ble m d) || covers l.toArray m (jc l.toArray (m + t))
theorem covers_all {ops : Array Oper} {L : Nat → Prop} (hd : ∀ i, L i → ∀ j ∈ jc ops i, L j) : ∀ (m : Nat) (S : List Nat), covers ops m S = true → (∀ j ∈ S, L j) → ∀ j, j < m → L j := by
 intro m;induction m with
 | zero => intro S _ _ j hj; omega
 | succ m ih =>
  intro S hc hS j hj;simp only [covers, Bool.and_eq_true] at hc
  have hm := hS m (ke.1 hc.1);rcases Nat.lt_or_ge j m with h | h
  · refine ih _ hc.2 (fun j hj => ?_) j h;rcases List.mem_append.1 hj with h | h
    · exact hS j h
    · exact hd m hm j h
  · have : j = m := by omega
    subst this; exact hm
theorem upon_then {o : Oper} {a : Act} {K K' Z : Act → World → Prop} (h : ∀ a w, K a w → K' a w) : ∀ {r : Result Next}, o.upon P a K (Exit.then Z Q) r → o.upon P a K' Q r := by
 intro r hh;cases r with
 | ok n w' =>
  cases n <;> simp only [Oper.upon] at hh ⊢ <;>
   first
    | exact h _ _ hh
    | exact Calls.mono hh (fun e w'' he => by cases e <;> first | exact h _ _ he | exact he)
    | exact Rows.mono hh (fun _ _ he => h _ _ he)
    | exact hh
 | halt x w' => cases x <;> simp only [Oper.upon] at hh ⊢ <;> exact hh
end
section
variable {P : Program} {N : Nat} {Q : Exit → Act → World → Prop} {σ : Env} {l : List Oper}
theorem ykk {w : World} (Y : Nat → Prop) (hY : ∀ k, Y k → k < w.heap.size) (bs : List Bx) (os : List Ox) (F : Nat → Fx) (hok : (zqq 0 l [] && bxOK bs && bxWF l bs bs && dstOK N l && oxOK bs os) = true) (hos : zqx Y w os) (hin : ∀ o ∈ os, l[o.st]? ≠ none)
 (hsteps : ylq P N l.toArray Q σ bs os F w 0 l)
 (hend : ∀ vs w', Ext (Mut (gy os)) w w' → AllOut σ l.toArray vs w' os → ylv Y bs F vs w' 0 l → zmq P σ l.toArray vs w w' bs → zwx vs bs → EW N Q .normal (envEnd σ l vs) w') : AK P N 0 l Q σ w := by
 simp only [Bool.and_eq_true] at hok
 obtain ⟨⟨⟨⟨hrow, hbx⟩, hwf⟩, hdl⟩, hox⟩ := hok;have hoat : ∀ {r : List Ox}, zqx Y w r → ∀ o ∈ r, Y o.g ∧ Blk w o.g o.T o.cs := by
  intro r;induction r with
  | nil => intro _ o ho; cases ho
  | cons x r ih =>
   intro h o ho;rcases List.mem_cons.1 ho with rfl | ho
   · exact ⟨h.1.1, h.1.2.1⟩
   · exact ih h.2 o ho
 have hopw : ∀ {r : List Ox}, zqx Y w r → oxOK bs r = true → ∀ a ∈ r, ∀ b ∈ r, a ≠ b → a.g ≠ b.g ∧ a.st ≠ b.st := by
  intro r;induction r with
  | nil => intro _ _ a ha; cases ha
  | cons x r ih =>
   intro h hk a ha b hb hab;simp only [oxOK, Bool.and_eq_true, List.all_eq_true, Bool.not_eq_true'] at hk
   rcases List.mem_cons.1 ha with rfl | ha'
   · rcases List.mem_cons.1 hb with rfl | hb'
     · exact absurd rfl hab
     · exact ⟨h.1.2.2 b hb', fun e => by have := hk.1.2 b hb'; rw [e] at this; simp at this⟩
   · rcases List.mem_cons.1 hb with rfl | hb'
     · exact ⟨fun e => h.1.2.2 a ha' e.symm, fun e => by have := hk.1.2 a ha'; rw [e] at this; simp at this⟩
     · exact ih h.2 hk.2 a ha' b hb' hab
 have hos1 : ∀ {r : List Ox}, oxOK bs r = true → ∀ o ∈ r, ob bs o.st = none ∧ ky bs o.st = none := by
  intro r;induction r with
  | nil => intro _ o ho; cases ho
  | cons x r ih =>
   intro hk o ho;simp only [oxOK, Bool.and_eq_true] at hk
   rcases List.mem_cons.1 ho with rfl | ho
   · exact ⟨by simpa using hk.1.1.1, by simpa using hk.1.1.2⟩
   · exact ih hk.2 o ho
 intro a ha;rw [show trL 0 l.length = Array.replicate l.toArray.size false by simp [trL]];have m0 : Mid P N Y l σ w bs os F (Array.replicate l.toArray.size false) a w (fun _ => undef) Y := by
  have hno : ∀ i, ¬ Ran (Array.replicate l.toArray.size false) i := fun i h => by
   unfold Ran at h;by_cases hi : i < l.length <;> simp [hi] at h
  exact ⟨by simp, ha.defers, ha.size, fun t v h => ha.get t v (yiz h).1, fun i d h => absurd h (hno i), fun i d v _ _ h => ha.get d v h, fun i h => absurd h (hno i), Ext.refl _ _, hY, fun _ h => h, hY,
   fun i h => absurd h (hno i), fun b _ h => absurd h (hno _), fun o ho => ⟨fun _ => (hoat hos o ho).2, fun h => absurd h (hno _)⟩, fun o ho => (hoat hos o ho).1, fun b _ c _ h => absurd h (hno _)⟩
 refine wpAny_mid (l := l) hrow hbx hwf (dstOK_at hdl) (fun o ho h => by rw [(hos1 hox o ho).1] at h; cases h) (fun o ho h => by rw [(hos1 hox o ho).2] at h; cases h) (hopw hos hox) hsteps ?_ _ _ _ _ _ _ ?_ m0
 · intro listed a w' vs X hall m;have hlen : ∀ i (o : Oper), l[i]? = some o → Ran listed i := fun i o h => hall i (List.getElem?_eq_some_iff.1 h).1;refine hend vs w' m.ext ?_ ?_ ?_ ?_ a ?_
   · have hst : ∀ o ∈ os, l[o.st]? ≠ none → Ran listed o.st := fun o _ h => hall _ (by
      rcases Nat.lt_or_ge o.st l.length with h1 | h1
      · exact h1
      · exact absurd (List.getElem?_eq_none h1) h)
     have key : ∀ r : List Ox, (∀ b ∈ r, b ∈ os) → AllOut σ l.toArray vs w' r := by
      intro r;induction r with
      | nil => intro _; trivial
      | cons b r ih =>
       intro hr;refine ⟨?_, ih fun c hc => hr c (List.mem_cons.2 (Or.inr hc))⟩;have hb := hr b (List.mem_cons.2 (Or.inl rfl));exact (m.outs b hb).2 (hst b hb (hin b hb))
     exact key os (fun _ h => h)
   · have key : ∀ (r : List Oper) (k : Nat), (∀ (i : Nat) (o : Oper), r[i]? = some o → l[k + i]? = some o) → ylv Y bs F vs w' k r := by
      intro r;induction r with
      | nil => intro k _; trivial
      | cons o r ih =>
       intro k hk;refine ⟨?_, ih (k + 1) (fun i o' h => by have := hk (i + 1) o' (by simpa using h); rwa [show k + (i + 1) = k + 1 + i by omega] at this)⟩;split
       · rename_i hb hf
         exact (m.facts k (hlen k o (by simpa using hk 0 o rfl)) hb hf).less m.outer
       · trivial
     exact key l 0 (fun i o h => by simpa using h)
   · have key : ∀ r : List Bx, (∀ b ∈ r, b ∈ bs) → zmq P σ l.toArray vs w w' r := by
      intro r;induction r with
      | nil => intro _; trivial
      | cons b r ih =>
       intro hr;refine ⟨?_, ih fun c hc => hr c (List.mem_cons.2 (Or.inr hc))⟩;have hb := hr b (List.mem_cons.2 (Or.inl rfl));obtain ⟨w1, w2⟩ := zzv hwf hb;have hst : Ran listed b.st := by
        unfold jc at w1;split at w1
        · rename_i o ho; exact hlen b.st o (by simpa using ho)
        · cases w1
       obtain ⟨g, cs, h1, h2, h20, h3, _, h5⟩ := m.boxes b hb (m.down _ hst _ w1);obtain ⟨v, y, rfl, h6, h7⟩ := h5 hst;exact ⟨g, v, y, h1, h20, h3, h6, h7⟩
     exact key bs (fun _ h => h)
   · have key : ∀ r : List Bx, (∀ b ∈ r, b ∈ bs) → bxOK r = true → zwx vs r := by
      intro r;induction r with
      | nil => intro _ _; trivial
      | cons b r ih =>
       intro hr hok;have hok' := hok;simp only [bxOK, Bool.and_eq_true, List.all_eq_true, Bool.not_eq_true'] at hok
       refine ⟨fun c hc => ?_, ih (fun c hc => hr c (List.mem_cons.2 (Or.inr hc))) hok.2⟩;have hb := hr b (List.mem_cons.2 (Or.inl rfl));have hc' := hr c (List.mem_cons.2 (Or.inr hc));have hran : ∀ b ∈ bs, Ran listed b.at_ := by
        intro b hb;obtain ⟨w1, w2⟩ := zzv hwf hb;have hst : Ran listed b.st := by
         unfold jc at w1;split at w1
         · rename_i o ho; exact hlen b.st o (by simpa using ho)
         · cases w1
        exact m.down _ hst _ w1
       refine m.apart b hb c hc' (hran b hb) (hran c hc') (fun e => ?_);have := (hok.1 c hc).1;rw [e] at this;simp at this
     exact key bs (fun _ h => h) hbx
   · refine ⟨m.defers, m.tmps, fun t v h => ?_⟩;rcases zlx h with h | h
     · obtain ⟨j, _, hjd, rfl⟩ := yix h;obtain ⟨o, ho, _⟩ := yhk hjd;exact m.ran j t (hlen j o ho) hjd
     · exact m.kept t v h
 · simp
end
section
variable {P : Program} {N : Nat} {Q : Exit → Act → World → Prop} {σ : Env} {w : World} {l : List Oper}
theorem any_prefix {m : Nat} (hg : gateOK l m = true) : ∀ (f : Nat) (ls : List Bool) (a : Act) (w : World), ls.length = m → ls.count false = f →
 (∀ i, Ran ls.toArray i → ∀ j ∈ jc l.toArray i, Ran ls.toArray j) →
 wpAny P .any (l.take m).toArray (Exit.then (fun a w => wpAny P .any l.toArray Q (l.length - m) (trL m l.length) a w) Q) f ls.toArray a w →
 wpAny P .any l.toArray Q (f + (l.length - m)) (ls ++ List.replicate (l.length - m) false).toArray a w := by
 unfold gateOK at hg;simp only [Bool.and_eq_true] at hg
 obtain ⟨⟨⟨hml, hrow⟩, hgd⟩, hcov⟩ := hg;have hml := Nat.le_of_ble_eq_true hml;have htk : ∀ i, i < m → (l.take m).toArray[i]? = l.toArray[i]? := fun i hi => by simp [List.getElem?_take, hi]
 have hget : ∀ (ls : List Bool) (i : Nat) (d : Bool), ls.length = m → i < m → (ls ++ List.replicate (l.length - m) false).toArray.getD i d = ls.toArray.getD i d := by
  intro ls i d hl hi;simp [Array.getD_eq_getD_getElem?, List.getElem?_append, hl, hi]
 have hget2 : ∀ (ls : List Bool) (i : Nat), ls.length = m → m ≤ i → (ls ++ List.replicate (l.length - m) false).toArray.getD i false = false := by
  intro ls i hl hi;have hni : ¬ i < m := by omega
  simp only [Array.getD_eq_getD_getElem?, List.getElem?_toArray, List.getElem?_append, hl, hni, if_false, List.getElem?_replicate]
  split <;> rfl
 have hfull : ∀ ls : List Bool, ls.length = m → (∀ i, i < m → Ran ls.toArray i) → ls.count false = 0 := by
  intro ls hl h;refine List.count_eq_zero.2 fun hf => ?_;obtain ⟨i, hi, he⟩ := List.getElem_of_mem hf;have := h i (by omega);unfold Ran at this;simp [hi, he] at this
 intro f;induction f with
 | zero =>
  intro ls a w hl hc hd h;have hall : ls = List.replicate m true := by
   refine List.eq_replicate_iff.2 ⟨hl, fun b hb => ?_⟩;cases b with
   | true => rfl
   | false => exact absurd hb (List.count_eq_zero.1 hc)
  have h2 := h.2;rw [Nat.zero_add, hall];exact h2
 | succ f ih =>
  intro ls a w hl hc hd h;rw [Nat.succ_add];refine ⟨fun hr => ?_, fun i hi => ?_⟩
  · exfalso
    have hall : ∀ i, i < m → Ran ls.toArray i := by
     intro i;induction i using Nat.strongRecOn with
     | _ i ihi =>
      intro him;rcases Classical.em (Ran ls.toArray i) with h' | h'
      · exact h'
      · exfalso
        have : i ∈ Region.ready .any l.toArray (ls ++ List.replicate (l.length - m) false).toArray := by
         have hil : i < l.length := by omega
         refine mem_ready.2 ⟨?_, l[i], by simp [hil], fun e he hb => ?_⟩
         · rw [hget ls i true hl him];unfold Ran at h';have : i < ls.length := by omega
           simp [this] at h' ⊢
           exact h'
         · have hlt := (zev hrow (i := i) (o := l[i]) (by simp [List.getElem?_take, him, hil])).1 e.on (zyq (by simpa using he) hb);have hei : e.on < i := by omega
           rw [hget ls e.on false hl (by omega)];exact ihi e.on hei (by omega)
        rw [hr] at this;cases this
    have := hfull ls hl hall;omega
  · obtain ⟨h0, o, ho, hdep⟩ := mem_ready.1 hi;rcases Nat.lt_or_ge i m with him | him
    · have hdl : ∀ j ∈ jc l.toArray i, Ran ls.toArray j := by
       intro j hj;have ho' : l[i]? = some o := by simpa using ho
       unfold jc at hj;rw [ho] at hj;obtain ⟨e, he, hb, rfl⟩ := znq hj;have hlt := (zev hrow (i := i) (o := o) (by simp [List.getElem?_take, him, ho'])).1 e.on (zyq he hb);have := hdep e (by simpa using he) hb;rwa [hget ls e.on false hl (by omega)] at this
      rw [hget ls i true hl him] at h0;have hi1 : i ∈ Region.ready .any (l.take m).toArray ls.toArray := by
       refine mem_ready.2 ⟨h0, o, by rw [htk i him]; exact ho, fun e he hb => ?_⟩;refine hdl e.on ?_;unfold jc;rw [ho];exact zyq (by simpa using he) hb
      have h1 := h.2 i hi1;have hset : ((ls ++ List.replicate (l.length - m) false).toArray.setIfInBounds i true) = (ls.set i true ++ List.replicate (l.length - m) false).toArray := by
       apply Array.toList_inj.1
       rw [Array.toList_setIfInBounds];simp [List.set_append, hl, him]
      have hset1 : ls.toArray.setIfInBounds i true = (ls.set i true).toArray := by
       apply Array.toList_inj.1
       rw [Array.toList_setIfInBounds]
      rw [hset1] at h1;rw [hset];have hlsi : ls[i]? = some false := by
       have hil : i < ls.length := by omega
       have e : ls[i] = false := by simpa [hil] using h0
       simp [hil, e]
      have hK : ∀ a w, wpAny P .any (l.take m).toArray (Exit.then (fun a w => wpAny P .any l.toArray Q (l.length - m) (trL m l.length) a w) Q) f (ls.set i true).toArray a w →
       wpAny P .any l.toArray Q (f + (l.length - m)) (ls.set i true ++ List.replicate (l.length - m) false).toArray a w := by
       intro a w h;refine ih (ls.set i true) a w (by simpa using hl) (by have := yqv ls i hlsi; omega) ?_ h;have hup : ∀ j, Ran ls.toArray j → Ran (ls.set i true).toArray j := by
        intro j hj;unfold Ran at hj ⊢;rw [← hset1];exact getD_set_true hj
       intro j hj k hk;rcases Classical.em (j = i) with rfl | hji
       · exact hup k (hdl k hk)
       · refine hup k (hd j ?_ k hk);unfold Ran at hj ⊢;rw [← hset1, getD_set_ne false (Ne.symm hji)] at hj;exact hj
      unfold wpOp at h1 ⊢;rw [htk i him, ho] at h1;rw [ho];simp only [] at h1 ⊢
      have hy : Region.wanted o (yielded (l.take m).toArray a.tmps) = Region.wanted o (yielded l.toArray a.tmps) := by
       unfold Region.wanted;cases hgo : o.guard with
       | none => rfl
       | some gw =>
        obtain ⟨g, want⟩ := gw;have hmem : o ∈ l.take m := by
         have ho' : l[i]? = some o := by simpa using ho
         exact List.mem_of_getElem? (i := i) (by simp [List.getElem?_take, him, ho'])
        have := (List.all_eq_true.1 hgd) o hmem;rw [hgo] at this;have hgm : g < m := Nat.le_of_ble_eq_true this;simp only [yielded, htk g hgm]
      rw [← hy];split
      · rename_i hw
        rw [if_pos hw] at h1;rcases h1 with h1 | ⟨h1, h2⟩
        · exact .inl (upon_then hK h1)
        · exact .inr ⟨h1, h2⟩
      · rename_i hw
        rw [if_neg hw] at h1;exact hK _ _ h1
    · exfalso
      have hil : i < l.length := by simpa using (Array.getElem?_eq_some_iff.1 ho).1
      have hdl : ∀ j ∈ jc l.toArray i, (ls ++ List.replicate (l.length - m) false).toArray.getD j false = true := by
       intro j hj;unfold jc at hj;rw [ho] at hj;obtain ⟨e, he, hb, rfl⟩ := znq hj;exact hdep e (by simpa using he) hb
      have hc2 := (List.all_eq_true.1 hcov) (i - m) (List.mem_range.2 (by omega));rw [show m + (i - m) = i by omega, Bool.or_eq_true] at hc2;rcases hc2 with hc2 | hc2
      · obtain ⟨j, hj, hmj⟩ := List.any_eq_true.1 hc2;have := hdl j hj;rw [hget2 ls j hl (Nat.le_of_ble_eq_true hmj)] at this;cases this
      · have hall := covers_all (L := fun j => (Ran ls.toArray j)) hd m _ hc2 (fun j hj => by
         have := hdl j hj;rcases Nat.lt_or_ge j m with h' | h'
         · rwa [hget ls j false hl h'] at this
         · rw [hget2 ls j hl h'] at this; cases this)
        have := hfull ls hl hall;omega
theorem ak_cut (m : Nat) (hg : gateOK l m = true) (h : AK P N 0 (l.take m) (Exit.then (fun a w => wpAny P .any l.toArray Q (l.length - m) (trL m l.length) a w) Q) σ w) : AK P N 0 l Q σ w := fun a ha => by
 have hml : m ≤ l.length := by
  unfold gateOK at hg;simp only [Bool.and_eq_true] at hg
  exact Nat.le_of_ble_eq_true hg.1.1.1
 have hlen : (l.take m).length = m := by simp [hml]
 have h1 := h a ha;have := any_prefix hg m (List.replicate m false) a w (by simp) (by simp) (fun i hi => by
  unfold Ran at hi;by_cases h' : i < m <;> simp [h'] at hi) (by
   unfold trL at h1;rw [hlen] at h1;simpa [trL] using h1)
 rw [List.replicate_append_replicate] at this;have e : m + (l.length - m) = l.length := by omega
 rw [e] at this;unfold trL;simpa using this
theorem ew_ak {m : Nat} (h : AK P N m l Q σ w) : EW N (Exit.then (fun a w => wpAny P .any l.toArray Q (l.length - m) (trL m l.length) a w) Q) .normal σ w := fun a ha => h a ha
end
section
variable {P : Program} {N : Nat} {ops : Array Oper} {Q : Exit → Act → World → Prop} {σ : Env} {w : World} {ty : TypeId} {pos : String} {af : Array Edge} {dst : Option Nat} {Post : Value → World → Prop}
theorem zgv {T e : TypeId} {x : Operand} {g n s : Nat} (hd : P.underlying T = some (.array n e)) (hs : vm P e s) (hx : ev σ x = some (.pointer (some ⟨g, 0, none⟩)))
 (k : Post (.slice (some ⟨g, 0, none⟩) n n) w) : OW P N ops Q ⟨dst, .slice T x none none none, ty, pos, af, none⟩ σ w Post :=
 yv (fun ρ ha => by
  simp only [execOp, Instr.sliceAt, Option.map_none, ha hx, Sem.run_bind, run_underlying hd, Result.andThen_ok, Instr.sureAddr, Instr.sliceBounds, Sem.run_pure, jy hs, Option.isSome_none, Bool.false_eq_true, if_false]
  simp [Addr.add]) k
theorem ow_sliceH {T e : TypeId} {x y : Operand} {g n c s h : Nat} {q : IntKind} {m : Int} (hd : P.underlying T = some (.slice e)) (hs : vm P e s) (hx : ev σ x = some (.slice (some ⟨g, 0, none⟩) n c)) (hy : ev σ y = some (.int q m)) (hm : m = (h : Int)) (hc : h ≤ c)
 (k : Post (.slice (some ⟨g, 0, none⟩) h c) w) : OW P N ops Q ⟨dst, .slice T x none (some y) none, ty, pos, af, none⟩ σ w Post :=
 ow_slice (l := 0) (h := h) hd hs hx rfl ⟨q, by rw [hy, hm]⟩ (Nat.zero_le _) hc (by
  rw [Nat.sub_zero, Nat.sub_zero, Nat.zero_mul];split
  · exact k
  · exact k)
end
end Go.Proofs.YtjdcjdohghkcgaaGreatDoor
namespace Go.Proofs.YtjdcjdohghkcgaaGreatDoor
theorem ex46 : Ext_ Tryz.prog 46 Extern.MathFloatBits.float64bits := ⟨_, Tryz.func46, by kernel_rfl, by kernel_rfl, by kernel_rfl, by kernel_rfl⟩
theorem om : Ext_ Tryz.prog 48 Extern.MathFloatBits.float64frombits := ⟨_, Tryz.func48, by kernel_rfl, by kernel_rfl, by kernel_rfl, by kernel_rfl⟩
theorem ex97 : Ext_ Tryz.prog 97 (Extern.MathFloor.toIntegral "math.archTrunc" .zero) := ⟨_, Tryz.func97, by kernel_rfl, by kernel_rfl, by kernel_rfl, by kernel_rfl⟩
theorem ex125 : Ext_ Tryz.prog 125 Extern.BytealgIndexByte.indexByte := ⟨_, Tryz.func125, by kernel_rfl, by kernel_rfl, by kernel_rfl, by kernel_rfl⟩
theorem ex148 : Ext_ Tryz.prog 148 (Extern.MathFloor.toIntegral "math.archFloor" .down) := ⟨_, Tryz.func148, by kernel_rfl, by kernel_rfl, by kernel_rfl, by kernel_rfl⟩
theorem ex151 : Ext_ Tryz.prog 151 Extern.MathFloatBits.float64bits := ⟨_, Tryz.func151, by kernel_rfl, by kernel_rfl, by kernel_rfl, by kernel_rfl⟩
theorem yvq : Ext_ Tryz.prog 182 Extern.MathFloatBits.float64frombits := ⟨_, Tryz.func182, by kernel_rfl, by kernel_rfl, by kernel_rfl, by kernel_rfl⟩
end Go.Proofs.YtjdcjdohghkcgaaGreatDoor
namespace Go.Proofs.YtjdcjdohghkcgaaGreatDoor
open Go.RowKit
set_option maxRecDepth 100000
def ykq (m : Nat) : Nat := if isN m then 9221120237041090560 else m
def zpv (z : Option Nat) : Nat := z.getD 9221120237041090560
theorem ji (m : Nat) : (qy m m != some .eq) = isN m := by
 cases h : isN m with
 | true => rw [zbq (.inl h)]; rfl
 | false => rw [zlk h h, zzq]; rfl
theorem zdx (m : Nat) (h : m < 18446744073709551616) : (BitVec.ofInt 64 (m : Int)).toNat = m := by
 rw [BitVec.toNat_ofInt];omega
theorem zrx {m : Nat} (h : m < 18446744073709551616) : IntKind.u64.wrap (m : Int) = (m : Int) := wrap_u64 (by omega)
theorem kz {m n : Nat} (hm : m < 18446744073709551616) (hn : n < 18446744073709551616) : IntKind.u64.wrap (BitVec.ofInt IntKind.u64.bits (m : Int) &&& BitVec.ofInt IntKind.u64.bits (n : Int)).toNat = ((m &&& n : Nat) : Int) := by
 have h1 := zdx m hm;have h2 := zdx n hn;show IntKind.u64.wrap (((BitVec.ofInt 64 (m : Int) &&& BitVec.ofInt 64 (n : Int)).toNat : Nat) : Int) = _
 rw [BitVec.toNat_and, h1, h2];exact zrx (Nat.lt_of_le_of_lt Nat.and_le_left hm)
def isZ (b : Nat) : Bool := decide (rg b = 0)
theorem zlq (b : Nat) : (qy b 0 == some .eq) = isZ b := by
 cases h : isN b with
 | true =>
  rw [zbq (.inl h)];have : isZ b = false := by unfold isN at h; unfold isZ; simp at h ⊢; omega
  rw [this]; rfl
 | false =>
  rw [zlk h (by decide)];have h0 : pc 0 = 0 := by decide
  rw [h0, zjk, isZ];by_cases hz : rg b = 0
  · have : pc b = 0 := by unfold pc; split <;> omega
    rw [this]; simp [hz]
  · have : pc b ≠ 0 := by unfold pc; split <;> omega
    rw [if_neg this]; split <;> simp [hz] <;> decide
def divV (a b : Nat) : Nat := if isZ b then 0 else zpv (fop .quo a b)
def divE (b : Nat) : Int := if isZ b then 6 else 0
def ordI (x y : Int) : Int := if x < y then -1 else if x > y then 1 else 0
def gm (a b : Nat) : Bool := !(isN a) && !(isN b)
def cmpF (a b : Nat) : Int := if gm a b then ordI (pc a) (pc b) else 0
theorem zck {a b : Nat} {o : Ordering} (h : (qy a b == some o) = true) : gm a b = true := by
 unfold gm;cases ha : isN a with
 | true => rw [zbq (.inl ha)] at h; cases h
 | false =>
  cases hb : isN b with
  | true => rw [zbq (.inr hb)] at h; cases h
  | false => rfl
theorem ztz {a b : Nat} (h : gm a b = true) : qy a b = some (zjk (pc a) (pc b)) := by
 unfold gm at h;simp at h
 exact zlk h.1 h.2
theorem cmpF_lt {a b : Nat} (h : (qy a b == some .lt) = true) : cmpF a b = -1 := by
 have ho := zck h;rw [ztz ho] at h;rw [cmpF, if_pos ho, ordI];unfold zjk at h;split at h
 · rename_i h1; rw [if_pos h1]
 · split at h <;> cases h
theorem cmpF_gt {a b : Nat} (h : (qy a b == some .gt) = true) : cmpF a b = 1 := by
 have ho := zck h;rw [ztz ho] at h;rw [cmpF, if_pos ho, ordI];unfold zjk at h;split at h
 · cases h
 · split at h
   · cases h
   · rename_i h1 h2; rw [if_neg h1, if_pos (by omega)]
theorem cmpF_no {a b : Nat} (h : (qy a b == some .lt) = false) (h2 : (qy a b == some .gt) = false) : cmpF a b = 0 ∧ gm a b = (qy a b == some .eq) := by
 cases ho : gm a b with
 | true =>
  rw [ztz ho] at h h2 ⊢;rw [cmpF, if_pos ho, ordI];rcases Int.lt_trichotomy (pc a) (pc b) with h1 | h1 | h1
  · rw [zzk h1] at h; cases h
  · rw [h1, zzq]; exact ⟨by rw [if_neg (by omega), if_neg (by omega)], rfl⟩
  · rw [ykz h1] at h2; cases h2
 | false =>
  refine ⟨by rw [cmpF, if_neg (by rw [ho]; decide)], ?_⟩;unfold gm at ho;cases ha : isN a with
  | true => rw [zbq (.inl ha)]; rfl
  | false =>
   cases hb : isN b with
   | true => rw [zbq (.inr hb)]; rfl
   | false => rw [ha, hb] at ho; cases ho
section
variable (w : World)
/-! ### package real -/
theorem bare_any (m : Nat) : Calls Tryz.prog 44 #[.float .f64 m] w fun e w' => e = .returned (.int .u64 ((ykq m : Nat) : Int)) ∧ Below w.heap.size w w' := by
 refine zo Tryz.func44 rfl Tryz.ntmps44 rfl ?_;have LW := erx (No) w;have XLW := grx (No) w;have E := erx (No) w;refine srx (anx rfl (zb (srx (mvx rfl (mvx rfl (za rfl (jm rfl rfl (rnx (yc 5 (.bool (isN m)) rfl ((by rw [ji] : (.bool (qy m m != some .eq) : Value) = _)) (yh rfl (fun h => ?_) (fun h => ?_)))))))))))
 ·
  refine srx (anx rfl (zt (zq (zr (rs := [.tmp 2]) (vs := [_]) rfl ⟨rfl, trivial⟩ ?_))));exact ⟨by rw [ykq, if_pos h]; rfl, (LW.step E XLW).toBelow⟩
 ·
  refine zf (zc (srx (mvx rfl (za rfl (ka ex46 rfl (anx rfl (zt (zr (rs := [.tmp 2]) (vs := [_]) rfl ⟨rfl, trivial⟩ ?_))))))));exact ⟨by rw [ykq, if_neg (by rw [h]; decide)]; rfl, (LW.step E XLW).toBelow⟩
section
variable (a b : Nat)
theorem cmp_any_r : Calls Tryz.prog 30 #[.int .u64 ((a : Nat) : Int), .int .u64 ((b : Nat) : Int)] w fun e w' => e = .returned (.tuple #[.int .i64 (cmpF a b), .bool (gm a b)]) ∧ Below w.heap.size w w' := by
 refine zo Tryz.func30 rfl Tryz.ntmps30 rfl ?_;have LW := erx (No) w;have XLW := grx (No) w;have E := erx (No) w
 refine srx (avx rfl (anx rfl (srx (mvx rfl (za rfl (ym (b := a) om rfl (mvx rfl (za rfl (ym (b := b) om rfl (avx rfl (anx rfl (zb (zw (srx (mvx rfl (mvx rfl (za rfl (xx rfl rfl (anx rfl (yh rfl (fun h => ?_) (fun h => ?_)))))))))))))))))))))
 ·
  refine srx (avx rfl (anx rfl (zt (yo (zq (zr (rs := [.tmp 4, .tmp 5]) (vs := [_, _]) rfl ⟨rfl, rfl, trivial⟩ ?_))))));exact ⟨by rw [cmpF_lt h, zck h]; rfl, (LW.step E XLW).toBelow⟩
 ·
  refine srx (mvx rfl (mvx rfl (za rfl (zhx rfl rfl (anx rfl (yh rfl (fun h2 => ?_) (fun h2 => ?_)))))))
  ·
   refine srx (avx rfl (anx rfl (zt (yo (zq (zr (rs := [.tmp 4, .tmp 5]) (vs := [_, _]) rfl ⟨rfl, rfl, trivial⟩ ?_))))));exact ⟨by rw [cmpF_gt h2, zck h2]; rfl, (LW.step E XLW).toBelow⟩
  ·
   refine zf (zl (zc (srx (mvx rfl (mvx rfl (za rfl (xy rfl rfl (avx rfl (anx rfl (zt (zr (rs := [.tmp 4, .tmp 5]) (vs := [_, _]) rfl ⟨rfl, rfl, trivial⟩ ?_)))))))))));exact ⟨by rw [(cmpF_no h h2).1, (cmpF_no h h2).2]; rfl, (LW.step E XLW).toBelow⟩
end
end
/-! ### the document's -/
section
variable (w : World)
section
variable (a : Nat) (ha : a < 18446744073709551616)
include ha
end
section
variable (a b : Nat) (ha : a < 18446744073709551616) (hb : b < 18446744073709551616)
include ha hb
end
end
theorem znv (m : Nat) : BitVec.ofInt 64 ((m : Nat) : Int) = BitVec.ofNat 64 m := BitVec.ofInt_natCast 64 m
theorem yvk {a : Nat} (ha : a < 18446744073709551616) : IntKind.u64.wrap (BitVec.ofInt IntKind.u64.bits ((a : Nat) : Int) &&& ~~~BitVec.ofInt IntKind.u64.bits 9223372036854775808).toNat = ((rg a : Nat) : Int) := by
 have h := andNot_sign_nat ha;show IntKind.u64.wrap (((BitVec.ofInt 64 ((a : Nat) : Int) &&& ~~~BitVec.ofInt 64 ((9223372036854775808 : Nat) : Int)).toNat : Nat) : Int) = _
 rw [znv, znv, h];exact zrx (Nat.lt_trans (rg_lt a) (by decide))
theorem yeq {a : Nat} (ha : a < 18446744073709551616) : IntKind.u64.wrap (BitVec.ofInt IntKind.u64.bits ((a : Nat) : Int) &&& ~~~BitVec.ofInt IntKind.u64.bits 9218868437227405312).toNat = ((a / 9223372036854775808 * 9223372036854775808 + a % 4503599627370496 : Nat) : Int) := by
 have h := andNot_exp_nat ha;show IntKind.u64.wrap (((BitVec.ofInt 64 ((a : Nat) : Int) &&& ~~~BitVec.ofInt 64 ((9218868437227405312 : Nat) : Int)).toNat : Nat) : Int) = _
 rw [znv, znv, h];exact zrx (by omega)
theorem gn {m n : Nat} (hm : m < 18446744073709551616) (hn : n < 18446744073709551616) : IntKind.u64.wrap (BitVec.ofInt IntKind.u64.bits (m : Int) ||| BitVec.ofInt IntKind.u64.bits (n : Int)).toNat = ((m ||| n : Nat) : Int) := by
 have h1 := zdx m hm;have h2 := zdx n hn;show IntKind.u64.wrap (((BitVec.ofInt 64 (m : Int) ||| BitVec.ofInt 64 (n : Int)).toNat : Nat) : Int) = _
 rw [BitVec.toNat_or, h1, h2];exact zrx (Nat.or_lt_two_pow (n := 64) (by omega) (by omega))
theorem and_sign {a : Nat} (ha : a < 18446744073709551616) : IntKind.u64.wrap (BitVec.ofInt IntKind.u64.bits ((a : Nat) : Int) &&& BitVec.ofInt IntKind.u64.bits 9223372036854775808).toNat = ((if ng a then 9223372036854775808 else 0 : Nat) : Int) := by
 have := kz (n := 9223372036854775808) ha (by decide);rw [and_sign_nat a ha] at this;exact this
theorem isN_rg (a : Nat) : isN (rg a) = isN a := by unfold isN rg; rw [Nat.mod_mod]
theorem rg_rg (a : Nat) : rg (rg a) = rg a := Nat.mod_mod _ _
theorem ng_rg (a : Nat) : ng (rg a) = false := by
 have := rg_lt a;unfold ng;rw [Nat.div_eq_of_lt this];rfl
theorem pc_rg (a : Nat) : pc (rg a) = ((rg a : Nat) : Int) := by rw [pc, ng_rg, rg_rg]; rfl
theorem ford_rg {a c : Nat} (ha : isN a = false) (hc : isN c = false) : qy (rg a) (rg c) = some (zjk ((rg a : Nat) : Int) ((rg c : Nat) : Int)) := by
 rw [zlk (by rw [isN_rg]; exact ha) (by rw [isN_rg]; exact hc), pc_rg, pc_rg]
theorem isinf_cond (a : Nat) : (qy (rg a) 9218868437227405311 == some .gt) = decide (rg a = 9218868437227405312) := by
 cases h : isN a with
 | true =>
  rw [zbq (.inl (by rw [isN_rg]; exact h))];have : ¬ rg a = 9218868437227405312 := by have := of_decide_eq_true h; omega
  rw [decide_eq_false this]; rfl
 | false =>
  have h2 := ford_rg (c := 9218868437227405311) h (by decide);rw [show rg 9218868437227405311 = 9218868437227405311 from by decide] at h2;have h3 : ¬ 9218868437227405312 < rg a := of_decide_eq_false h;rw [h2];by_cases h4 : rg a = 9218868437227405312
  · rw [h4]; decide
  · rw [decide_eq_false h4, zjk];split
    · rfl
    · split
      · rfl
      · omega
theorem sub_cond {a : Nat} (h : isN a = false) : (qy (rg a) 4503599627370496 == some .lt) = decide (rg a < 4503599627370496) := by
 have h2 := ford_rg (c := 4503599627370496) h (by decide);rw [show rg 4503599627370496 = 4503599627370496 from by decide] at h2;rw [h2];by_cases h4 : rg a < 4503599627370496
 · rw [decide_eq_true h4, zzk (by omega)]; rfl
 · rw [decide_eq_false h4, zjk, if_neg (by omega)];split <;> rfl
section
variable (w : World) (a : Nat) (ha : a < 18446744073709551616)
include ha
theorem ylz : Calls Tryz.prog 69 #[.float .f64 a] w fun e w' => e = .returned (.float .f64 (rg a)) ∧ Below w.heap.size w w' := by
 refine zo Tryz.func69 rfl Tryz.ntmps69 rfl ?_;have LW := erx (No) w;have XLW := grx (No) w;have E := erx (No) w;refine srx (anx rfl (srx (mvx rfl (za rfl (ka ex46 rfl (za rfl (kp rfl rfl (yvk ha) (za rfl (ym (b := rg a) om rfl (anx rfl (zt (zr (rs := [.tmp 2]) (vs := [_]) rfl ⟨rfl, trivial⟩ ?_))))))))))));exact ⟨rfl, (LW.step E XLW).toBelow⟩
theorem jd : Calls Tryz.prog 49 #[.float .f64 a, .int .i64 0] w fun e w' => e = .returned (.bool (decide (rg a = 9218868437227405312))) ∧ Below w.heap.size w w' := by
 refine zo Tryz.func49 rfl Tryz.ntmps49 rfl ?_;have LW := erx (No) w;have XLW := grx (No) w;have E := erx (No) w;refine srx (anx rfl (zb (srx (mvx rfl (za rfl (zx rfl rfl (rnx (zz rfl (zh (mvx rfl (za rfl (zg en69 rfl ((ylz _ a ha).mono ?_)))))))))))));rintro e w1 ⟨rfl, hb⟩;refine ⟨_, rfl, ?_⟩;replace E := blx E hb
 refine anx rfl (srx (mvx rfl (za rfl (zhx rfl rfl (anx rfl (zt (zr (rs := [.tmp 4]) (vs := [_]) rfl ⟨rfl, trivial⟩ ?_)))))));exact ⟨by rw [← isinf_cond]; rfl, (LW.step E XLW).toBelow⟩
omit ha in
theorem yex : Calls Tryz.prog 129 #[.float .f64 a] w fun e w' => e = .returned (.bool (isN a)) ∧ Below w.heap.size w w' := by
 refine zo Tryz.func129 rfl Tryz.ntmps129 rfl ?_;have LW := erx (No) w;have XLW := grx (No) w;have E := erx (No) w;refine srx (anx rfl (srx (mvx rfl (mvx rfl (za rfl (jm rfl rfl (anx rfl (zt (zr (rs := [.tmp 2]) (vs := [_]) rfl ⟨rfl, trivial⟩ ?_)))))))));exact ⟨by rw [← ji]; rfl, (LW.step E XLW).toBelow⟩
theorem copysign_any (b : Nat) (hb : b < 18446744073709551616) : Calls Tryz.prog 43 #[.float .f64 a, .float .f64 b] w fun e w' => e = .returned (.float .f64 (Ieee.double.word (ng b) (rg a))) ∧ Below w.heap.size w w' := by
 have hr := rg_lt a;have ho : (rg a ||| (if ng b then 9223372036854775808 else 0 : Nat)) = Ieee.double.word (ng b) (rg a) := by
  unfold Ieee.Format.word;rw [c1];split
  · rw [Nat.or_comm]; exact or_add 63 hr rfl
  · exact Nat.or_zero _
 have hs : (if ng b then 9223372036854775808 else 0 : Nat) < 18446744073709551616 := by split <;> decide
 refine zo Tryz.func43 rfl Tryz.ntmps43 rfl ?_;have LW := erx (No) w;have XLW := grx (No) w;have E := erx (No) w
 refine srx (anx rfl (srx (mvx rfl (za rfl (ka ex46 rfl (za rfl (kp rfl rfl (yvk ha) (mvx rfl (za rfl (ka ex46 rfl (za rfl (vd rfl rfl (and_sign hb) (za rfl (kh rfl rfl (gn (Nat.lt_trans hr (by decide)) hs) (za rfl (ym (b := rg a ||| (if ng b then 9223372036854775808 else 0 : Nat)) om rfl (anx rfl (zt (zr (rs := [.tmp 4]) (vs := [_]) rfl ⟨rfl, trivial⟩ ?_)))))))))))))))))))
 exact ⟨by rw [← ho]; rfl, (LW.step E XLW).toBelow⟩
end
theorem word_self {a : Nat} (ha : a < 18446744073709551616) : Ieee.double.word (ng a) (rg a) = a := by
 obtain ⟨h1, h2, h3⟩ := jn (ng a) (rg a) (rg_lt a);exact rg_ng_inj h3 ha h1 h2
def nzB (a : Nat) : Nat := Ieee.double.word (ng a) (nr (rg a))
def nzE (a : Nat) : Int := if rg a < 4503599627370496 then -52 else 0
theorem nzB_big {a : Nat} (ha : a < 18446744073709551616) (h : ¬ rg a < 4503599627370496) : nzB a = a := by
 rw [nzB, nr, if_neg h]; exact word_self ha
theorem nzB_lt {a : Nat} (h0 : rg a ≠ 0) (hf : rg a < 9218868437227405312) : nzB a < 18446744073709551616 := (jn (ng a) (nr (rg a)) (Nat.lt_trans (zyx h0 hf) (by decide))).2.2
theorem FRes.some {z : Option Nat} {r q : Nat} {w w' : World} (h : FRes z r w w') (hz : z = some q) : r = q := by
 rcases h with ⟨h1, _⟩ | ⟨h1, _⟩
 · rw [hz] at h1; exact (Option.some.inj h1).symm
 · rw [hz] at h1; cases h1
theorem yyz {a : Nat} (hf : rg a < 9218868437227405312) : isN a = false := decide_eq_false (by omega)
theorem shr52 (m : Nat) : ((m : Nat) : Int).fdiv (2 ^ (min (52 : Int).toNat IntKind.u64.bits)) = ((m / 4503599627370496 : Nat) : Int) := by
 show ((m : Nat) : Int).fdiv (2 ^ 52) = _
 rw [show (2 : Int) ^ 52 = ((4503599627370496 : Nat) : Int) from rfl, Int.fdiv_eq_ediv_of_nonneg _ (by omega)];rfl
theorem and_2047 {m : Nat} (hm : m < 18446744073709551616) : IntKind.u64.wrap (BitVec.ofInt IntKind.u64.bits ((m : Nat) : Int) &&& BitVec.ofInt IntKind.u64.bits 2047).toNat = ((m % 2048 : Nat) : Int) := by
 have := kz (n := 2047) hm (by decide);rw [show m &&& 2047 = m % 2048 from Nat.and_two_pow_sub_one_eq_mod m 11] at this;exact this
theorem ycx (s : Bool) {r : Nat} (hr : r < 9218868437227405312) : Ieee.double.word s r / 4503599627370496 % 2048 = r / 4503599627370496 ∧ Ieee.double.word s r / 9223372036854775808 * 9223372036854775808 + Ieee.double.word s r % 4503599627370496 = Ieee.double.word s (r % 4503599627370496) := by
 unfold Ieee.Format.word;rw [c1];cases s
 · simp only [Bool.false_eq_true, if_false]; omega
 · simp only [if_true]; omega
theorem frac_or {f x : Nat} (hf : f < 4503599627370496) (hx : x % 4503599627370496 = 0) : f ||| x = x + f := by
 rw [Nat.or_comm]; exact or_add 52 hf hx
theorem ypv (s : Bool) {f x : Nat} (hf : f < 4503599627370496) (hx : x % 4503599627370496 = 0) (hl : x + f < 9223372036854775808) : Ieee.double.word s f ||| x = Ieee.double.word s (x + f) := by
 have h1 := frac_or hf hx;unfold Ieee.Format.word;rw [c1];cases s
 · exact h1
 · show (9223372036854775808 + f) ||| x = 9223372036854775808 + (x + f)
   rw [← or_add 63 (a := 9223372036854775808) (b := f) (Nat.lt_trans hf (by decide)) rfl, Nat.or_assoc, h1];exact or_add 63 hl rfl
section
variable (w : World) (a : Nat) (ha : a < 18446744073709551616) (h0 : rg a ≠ 0) (hf : rg a < 9218868437227405312)
include ha h0 hf
theorem zjz : Calls Tryz.prog 130 #[.float .f64 a] w fun e w' => e = .returned (.tuple #[.float .f64 (nzB a), .int .i64 (nzE a)]) ∧ Below w.heap.size w w' := by
 refine zo Tryz.func130 rfl Tryz.ntmps130 rfl ?_;have LW := erx (No) w;have XLW := grx (No) w;have E := erx (No) w;refine srx (avx rfl (anx rfl (zb (srx (mvx rfl (za rfl (zg en69 rfl ((ylz _ a ha).mono ?_))))))));rintro e w1 ⟨rfl, hb⟩;refine ⟨_, rfl, ?_⟩;replace E := blx E hb
 refine za rfl (xx rfl rfl (rnx (yc 6 (.bool (decide (rg a < 4503599627370496))) rfl ((by rw [sub_cond (yyz hf)] : (.bool (qy (rg a) 4503599627370496 == some .lt) : Value) = _)) (yh rfl (fun h => ?_) (fun h => ?_)))))
 ·
  refine srx (mvx rfl (za rfl (yhq (m := a) (n := 4841369599423283200) (.inr (.inr (.inl rfl))) rfl rfl ?_)));intro r w2 hr;have Ec := hr.ext;replace E := E.trans Ec.no;refine avx rfl (anx rfl (zt (zq (zr (rs := [.tmp 2, .tmp 3]) (vs := [_, _]) rfl ⟨rfl, rfl, trivial⟩ ?_))))
  exact ⟨by rw [hr.some (normalize_mul h0 (of_decide_eq_true h)), nzE, if_pos (of_decide_eq_true h)]; rfl, (LW.step E XLW).toBelow⟩
 ·
  refine zf (zc (srx (mvx rfl (avx rfl (anx rfl (zt (zr (rs := [.tmp 2, .tmp 3]) (vs := [_, _]) rfl ⟨rfl, rfl, trivial⟩ ?_)))))));exact ⟨by rw [nzB_big ha (of_decide_eq_false h), nzE, if_neg (of_decide_eq_false h)]; rfl, (LW.step E XLW).toBelow⟩
theorem frexp_num : Calls Tryz.prog 96 #[.float .f64 a] w fun e w' => e = .returned (.tuple #[.float .f64 (frF a), .int .i64 (frE a)]) ∧ Below w.heap.size w w' := by
 have hz : isZ a = false := decide_eq_false h0;have hinf : decide (rg a = 9218868437227405312) = false := decide_eq_false (by omega);have hn := yyz hf;have hlt := nzB_lt h0 hf;have hlow := nr_low h0;have hhigh := zyx h0 hf;obtain ⟨hp1, hp2⟩ := ycx (ng a) hhigh;have hex : nr (rg a) / 4503599627370496 = ex (nr (rg a)) + 1 := by unfold ex; rw [if_neg (by omega)]; omega
 have hmg : mg (nr (rg a)) = 4503599627370496 + nr (rg a) % 4503599627370496 := by unfold mg; rw [if_neg (by omega)]
 have hexb : ex (nr (rg a)) ≤ 2045 := by omega
 have hfl : nr (rg a) % 4503599627370496 < 4503599627370496 := Nat.mod_lt _ (by decide);have hnze : nzE a = 0 ∨ nzE a = -52 := by unfold nzE; split <;> simp
 have hfw : Ieee.double.word (ng a) (nr (rg a) % 4503599627370496) < 18446744073709551616 := (jn _ _ (by omega)).2.2;have hor := ypv (ng a) (x := 4602678819172646912) hfl (by decide) (by omega);have hfrF : Ieee.double.word (ng a) (4602678819172646912 + nr (rg a) % 4503599627370496) = frF a := by rw [frF, hmg, Nat.add_sub_cancel_left]
 have hfrE : nzE a + (((ex (nr (rg a)) + 1 : Nat) : Int) - 1023 + 1) = frE a := by
  unfold nzE frE;split <;> omega
 refine zo Tryz.func96 rfl Tryz.ntmps96 rfl ?_;have LW := erx (No) w;have XLW := grx (No) w;have E := erx (No) w
 refine srx (avx rfl (anx rfl (zb (zw (srx (mvx rfl (za rfl (xy rfl rfl (anx rfl (yc 5 (.bool false) rfl ((by rw [zlq, hz] : (.bool (qy a 0 == some .eq) : Value) = _)) (zj rfl (srx (mvx rfl (za rfl (zg zqv rfl ((jd _ a ha).mono ?_))))))))))))))));rintro e w1 ⟨rfl, hb⟩;refine ⟨_, rfl, ?_⟩;replace E := blx E hb
 refine zv 11 (.bool false) rfl ((by rw [hinf] : (.bool (decide (rg a = 9218868437227405312)) : Value) = _)) (mvx rfl (onx rfl (zi rfl (onx rfl (zg en129 rfl ((yex _ a).mono ?_))))));rintro e w2 ⟨rfl, hb⟩;refine ⟨_, rfl, ?_⟩;replace E := blx E hb
 refine zv 14 (.bool false) rfl ((by rw [hn] : (.bool (isN a) : Value) = _)) (za rfl (yi rfl rfl (anx rfl (zj rfl (zf (zl (zc (srx (mvx rfl (za rfl (zg en130 rfl ((zjz _ a ha h0 hf).mono ?_))))))))))));rintro e w3 ⟨rfl, hb⟩;refine ⟨_, rfl, ?_⟩;replace E := blx E hb
 refine mvx rfl (za rfl (zm rfl rfl (za rfl (zm rfl rfl (avx rfl (anx rfl (srx (mvx rfl (za rfl (ka ex46 rfl (anx rfl (srx (mvx rfl (mvx rfl (za rfl (qd rfl rfl (by decide) (shr52 (nzB a)) (za rfl (vd rfl rfl (and_2047 (by omega)) (zv 27 (.int .u64 ((ex (nr (rg a)) + 1 : Nat) : Int)) rfl ((by rw [show nzB a / 4503599627370496 % 2048 = _ from hp1, hex] : (.int .u64 ((nzB a / 4503599627370496 % 2048 : Nat) : Int) : Value) = _)) (za rfl (yx Tryz.underlying3 Tryz.underlying32 rfl (zp (by omega)) (za rfl (yd rfl rfl (zp (by omega)) (za rfl (yb rfl rfl (zp (by omega)) (za rfl (yb rfl rfl (zp (by omega)) (anx rfl (srx (mvx rfl (za rfl (kp rfl rfl (yeq hlt) (zv 33 (.int .u64 ((Ieee.double.word (ng a) (nr (rg a) % 4503599627370496) : Nat) : Int)) rfl ((by rw [show nzB a / 9223372036854775808 * 9223372036854775808 + nzB a % 4503599627370496 = _ from hp2] : (.int .u64 ((nzB a / 9223372036854775808 * 9223372036854775808 + nzB a % 4503599627370496 : Nat) : Int) : Value) = _)) (anx rfl (srx (mvx rfl (za rfl (kh rfl rfl (gn (n := 4602678819172646912) hfw (by decide)) ?_))))))))))))))))))))))))))))))))))))))
 refine zv 35 (.int .u64 ((frF a : Nat) : Int)) rfl ((by rw [show Ieee.double.word (ng a) (nr (rg a) % 4503599627370496) ||| 4602678819172646912 = frF a from hor.trans hfrF] : (.int .u64 ((Ieee.double.word (ng a) (nr (rg a) % 4503599627370496) ||| 4602678819172646912 : Nat) : Int) : Value) = _)) (anx rfl (srx (mvx rfl (za rfl (ym (b := frF a) om rfl (anx rfl (zt (zr (rs := [.tmp 2, .tmp 3]) (vs := [_, _]) rfl ⟨rfl, rfl, trivial⟩ ?_))))))))
 exact ⟨by rw [← hfrE]; rfl, (LW.step E XLW).toBelow⟩
end
theorem and_2047i {m : Nat} (hm : m < 18446744073709551616) : IntKind.i64.wrap (BitVec.ofInt IntKind.i64.bits ((m : Nat) : Int) &&& BitVec.ofInt IntKind.i64.bits 2047).toNat = ((m % 2048 : Nat) : Int) := by
 have h1 := zdx m hm;have h2 := zdx 2047 (by decide);show IntKind.i64.wrap (((BitVec.ofInt 64 (m : Int) &&& BitVec.ofInt 64 ((2047 : Nat) : Int)).toNat : Nat) : Int) = _
 rw [BitVec.toNat_and, h1, h2, show m &&& 2047 = m % 2048 from Nat.and_two_pow_sub_one_eq_mod m 11];exact zp (by omega)
theorem sum_rung {x m f q : Nat} (h1 : x * 4503599627370496 + m = q) (h2 : m = 4503599627370496 + f) : (x + 1) * 4503599627370496 + f = q := by rw [← h1, h2, Nat.add_mul, Nat.one_mul, Nat.add_assoc]
theorem nzE_nd (a : Nat) : nzE a = -((nd (rg a) : Nat) : Int) := by unfold nzE nd; split <;> rfl
theorem one_mul_f {s : Bool} {q : Nat} (hq : q < 9218868437227405312) : fop .mul 4607182418800017408 (Ieee.double.word s q) = some (Ieee.double.word s q) := by
 obtain ⟨h1, h2, _⟩ := jn s q (Nat.lt_trans hq (by decide));have hc : rg 4607182418800017408 = 4607182418800017408 ∧ ng 4607182418800017408 = false ∧ vl 4607182418800017408 = 2 ^ 1074 := by decide +kernel
 have := mul_exact' (a := 4607182418800017408) (b := Ieee.double.word s q) (r := q) (by rw [hc.1]; decide) (by rw [h1]; exact hq) hq (fun P hP => by rewrite [hc.1, hc.2.2, ← hP, h1]; exact Nat.mul_comm P (vl q));rw [this, hc.2.1, h2, Bool.false_xor]
theorem p_split {P i j n : Nat} (h : P = 2 ^ n) (hn : n = i + j) : P = 2 ^ i * 2 ^ j := by rw [h, hn, Nat.pow_add]
theorem m53_aux {A B P q v1 v2 : Nat} (h1 : v1 = A) (h2 : v2 = q * B) (h3 : P = A * B) : v1 * v2 = q * P := by rw [h1, h2, h3, Nat.mul_left_comm]
theorem m53_mul {s : Bool} {q : Nat} (h0 : q ≠ 0) (hq : q < 4503599627370496) : fop .mul 4368491638549381120 (Ieee.double.word s ((ex (nr q) + 1) * 4503599627370496 + mg (nr q))) = some (Ieee.double.word s q) := by
 obtain ⟨hm1, hm2⟩ := mg_nr h0;have he : ex (nr q) ≤ 51 := by rw [(ydk h0 hq).1]; exact (zkq h0 hq).1
 obtain ⟨Q, hQ⟩ : ∃ Q, Q = (ex (nr q) + 1) * 4503599627370496 + mg (nr q) := ⟨_, rfl⟩;obtain ⟨p1, p2⟩ := zmv (e := ex (nr q) + 1) hm1 hm2;rw [← hQ] at p1 p2 ⊢;have hQl : Q < 9218868437227405312 := by omega
 obtain ⟨h1, h2, _⟩ := jn s Q (Nat.lt_trans hQl (by decide));have hc : rg 4368491638549381120 = 4368491638549381120 ∧ ng 4368491638549381120 = false ∧ vl 4368491638549381120 = 2 ^ 1021 := by decide +kernel
 have hvQ : vl Q = q * 2 ^ 53 := by
  rw [vl, p1, p2, Nat.pow_succ, ← Nat.mul_assoc];have := vl_nr h0 hq;unfold vl at this;rw [this, Nat.mul_assoc]
 have := mul_exact' (a := 4368491638549381120) (b := Ieee.double.word s Q) (r := q) (by rw [hc.1]; decide) (by rw [h1]; exact hQl) (by omega) (fun P hP => by
  rewrite [hc.1, h1, vl_sub hq]
  exact m53_aux hc.2.2 hvQ (p_split (i := 1021) (j := 53) (n := 1074) hP (by decide)))
 rw [this, hc.2.1, h2, Bool.false_xor]
section
variable (w : World) (a k q : Nat) (ha : a < 18446744073709551616) (h0 : rg a ≠ 0) (hf : rg a < 9218868437227405312) (hk : k < 4096) (hq : q < 9218868437227405312) (hv : vl q = vl (rg a) * 2 ^ k)
include ha h0 hf hk hq hv
theorem ldexp_norm (hn : 4503599627370496 ≤ q) : Calls Tryz.prog 101 #[.float .f64 a, .int .i64 ((k : Nat) : Int)] w fun e w' => e = .returned (.float .f64 (Ieee.double.word (ng a) q)) ∧ Below w.heap.size w w' := by
 have hz : isZ a = false := decide_eq_false h0;have hinf : decide (rg a = 9218868437227405312) = false := decide_eq_false (by omega);have hnn := yyz hf;have hlt := nzB_lt h0 hf;have hlow := nr_low h0;have hhigh := zyx h0 hf;obtain ⟨hp1, hp2⟩ := ycx (ng a) hhigh;have hex : nr (rg a) / 4503599627370496 = ex (nr (rg a)) + 1 := by unfold ex; rw [if_neg (by omega)]; omega
 have hmg : mg (nr (rg a)) = 4503599627370496 + nr (rg a) % 4503599627370496 := by unfold mg; rw [if_neg (by omega)]
 have hexb : ex (nr (rg a)) ≤ 2045 := by omega
 have hfl : nr (rg a) % 4503599627370496 < 4503599627370496 := Nat.mod_lt _ (by decide);have hnze := nzE_nd a;have hndb : nd (rg a) ≤ 52 := by unfold nd; split <;> omega
 have hfw : Ieee.double.word (ng a) (nr (rg a) % 4503599627370496) < 18446744073709551616 := (jn _ _ (by omega)).2.2;obtain ⟨hM, hE⟩ := ytx h0 (q := q) (by omega) hv;have hnq : nr q = q := by rw [nr, if_neg (by omega)]
 have hndq : nd q = 0 := by unfold nd; rw [if_neg (by omega)]
 rw [hnq] at hM hE;rw [hndq] at hE;have hrq := rung_of (r := q);have heq : ex q ≤ 2045 := by unfold ex; rw [if_neg (by omega)]; omega
 have hB : ((k : Nat) : Int) + nzE a + (((ex (nr (rg a)) + 1 : Nat) : Int) - 1023) = ((ex q : Nat) : Int) - 1022 := by omega
 have hor := ypv (ng a) (x := (ex q + 1) * 4503599627370496) hfl (Nat.mul_mod_left _ _) (by omega);have hsum := sum_rung hrq (hM.trans hmg);have hword := congrArg (Ieee.double.word (ng a)) hsum;refine zo Tryz.func101 rfl Tryz.ntmps101 rfl ?_;have LW := erx (No) w;have XLW := grx (No) w;have E := erx (No) w
 refine srx (anx rfl (zb (zw (srx (mvx rfl (za rfl (xy rfl rfl (anx rfl (yc 8 (.bool false) rfl ((by rw [zlq, hz] : (.bool (qy a 0 == some .eq) : Value) = _)) (zj rfl (srx (mvx rfl (za rfl (zg zqv rfl ((jd _ a ha).mono ?_)))))))))))))));rintro e w1 ⟨rfl, hb⟩;refine ⟨_, rfl, ?_⟩;replace E := blx E hb
 refine zv 14 (.bool false) rfl ((by rw [hinf] : (.bool (decide (rg a = 9218868437227405312)) : Value) = _)) (mvx rfl (onx rfl (zi rfl (onx rfl (zg en129 rfl ((yex _ a).mono ?_))))));rintro e w2 ⟨rfl, hb⟩;refine ⟨_, rfl, ?_⟩;replace E := blx E hb
 refine zv 17 (.bool false) rfl ((by rw [hnn] : (.bool (isN a) : Value) = _)) (za rfl (yi rfl rfl (anx rfl (zj rfl (zf (zl (zc (srx (mvx rfl (za rfl (zg en130 rfl ((zjz _ a ha h0 hf).mono ?_))))))))))));rintro e w3 ⟨rfl, hb⟩;refine ⟨_, rfl, ?_⟩;replace E := blx E hb
 refine mvx rfl (za rfl (zm rfl rfl (za rfl (zm rfl rfl (avx rfl (anx rfl (srx (mvx rfl (mvx rfl (za rfl (yb rfl rfl (zp (by omega)) (anx rfl (srx (mvx rfl (za rfl (ka ex46 rfl (anx rfl (srx (mvx rfl (mvx rfl (za rfl (qd rfl rfl (by decide) (shr52 (nzB a)) (za rfl (yx Tryz.underlying3 Tryz.underlying32 rfl (zp (by omega)) (za rfl (vd rfl rfl (and_2047i (by omega)) (zv 34 (.int .i64 ((ex (nr (rg a)) + 1 : Nat) : Int)) rfl ((by rw [show nzB a / 4503599627370496 % 2048 = _ from hp1, hex] : (.int .i64 ((nzB a / 4503599627370496 % 2048 : Nat) : Int) : Value) = _)) (za rfl (yd rfl rfl (zp (by omega)) (za rfl (yb rfl rfl (zp (by omega)) (anx rfl (zb (srx (mvx rfl (za rfl (yp rfl rfl ?_)))))))))))))))))))))))))))))))))))))
 refine rnx (yc 38 (.bool false) rfl ((by rw [hB, decide_eq_false (by omega)] : (.bool (decide (((((k : Nat) : Int) + (nzE a)) + (((ex (nr (rg a)) + 1 : Nat) : Int) - 1023)) < (-1075))) : Value) = _)) (yc 1 (.int .i64 (((ex q : Nat) : Int) - 1022)) rfl ((by rw [hB] : (.int .i64 ((((k : Nat) : Int) + (nzE a)) + (((ex (nr (rg a)) + 1 : Nat) : Int) - 1023)) : Value) = _)) (zj rfl (zf (zc (zb (srx (mvx rfl (za rfl (qh rfl rfl (rnx (yc 42 (.bool false) rfl ((by rw [decide_eq_false (by omega)] : (.bool (decide (1023 < (((ex q : Nat) : Int) - 1022))) : Value) = _)) (zj rfl (zf (zc (srx (anx rfl (zb (srx (mvx rfl (za rfl (yp rfl rfl (rnx (yc 48 (.bool false) rfl ((by rw [decide_eq_false (by omega)] : (.bool (decide ((((ex q : Nat) : Int) - 1022) < (-1022))) : Value) = _)) (zj rfl (zf (zc (srx (mvx rfl (za rfl (kp rfl rfl (yeq hlt) (zv 52 (.int .u64 ((Ieee.double.word (ng a) (nr (rg a) % 4503599627370496) : Nat) : Int)) rfl ((by rw [show nzB a / 9223372036854775808 * 9223372036854775808 + nzB a % 4503599627370496 = _ from hp2] : (.int .u64 ((nzB a / 9223372036854775808 * 9223372036854775808 + nzB a % 4503599627370496 : Nat) : Int) : Value) = _)) (avx rfl ?_)))))))))))))))))))))))))))))))))
 refine rnx (srx (mvx rfl (mvx rfl (za rfl (yb rfl rfl (zp (by omega)) (za rfl (yx Tryz.underlying32 Tryz.underlying3 rfl (wrap_u64 (by omega)) (za rfl (qm (z := (((ex q + 1) * 4503599627370496 : Nat) : Int)) rfl rfl (by decide) (by show IntKind.u64.wrap ((((ex q : Nat) : Int) - 1022 + 1023) * 4503599627370496) = _; rw [wrap_u64 (by omega)]; omega) (za rfl (kh rfl rfl (gn hfw (by omega)) (zv 58 (.int .u64 ((Ieee.double.word (ng a) q : Nat) : Int)) rfl ((by rw [hor.trans hword] : (.int .u64 ((Ieee.double.word (ng a) (nr (rg a) % 4503599627370496) ||| (ex q + 1) * 4503599627370496 : Nat) : Int) : Value) = _)) (anx rfl (srx (mvx rfl (mvx rfl (za rfl (ym (b := Ieee.double.word (ng a) q) om rfl (za rfl (yhq (m := 4607182418800017408) (n := Ieee.double.word (ng a) q) (.inr (.inr (.inl rfl))) rfl rfl ?_))))))))))))))))))))
 intro r w4 hr;have Ec := hr.ext;replace E := E.trans Ec.no;refine anx rfl (zt (zr (rs := [.tmp 4]) (vs := [_]) rfl ⟨rfl, trivial⟩ ?_));exact ⟨by rw [hr.some (one_mul_f hq)]; rfl, (LW.step E XLW).toBelow⟩
theorem ldexp_sub (hn : q < 4503599627370496) (hq0 : q ≠ 0) : Calls Tryz.prog 101 #[.float .f64 a, .int .i64 ((k : Nat) : Int)] w fun e w' => e = .returned (.float .f64 (Ieee.double.word (ng a) q)) ∧ Below w.heap.size w w' := by
 have _ := hq;have hz : isZ a = false := decide_eq_false h0;have hinf : decide (rg a = 9218868437227405312) = false := decide_eq_false (by omega);have hnn := yyz hf;have hlt := nzB_lt h0 hf;have hlow := nr_low h0;have hhigh := zyx h0 hf;obtain ⟨hp1, hp2⟩ := ycx (ng a) hhigh;have hex : nr (rg a) / 4503599627370496 = ex (nr (rg a)) + 1 := by unfold ex; rw [if_neg (by omega)]; omega
 have hmg : mg (nr (rg a)) = 4503599627370496 + nr (rg a) % 4503599627370496 := by unfold mg; rw [if_neg (by omega)]
 have hexb : ex (nr (rg a)) ≤ 2045 := by omega
 have hfl : nr (rg a) % 4503599627370496 < 4503599627370496 := Nat.mod_lt _ (by decide);have hnze := nzE_nd a;have hndb : nd (rg a) ≤ 52 := by unfold nd; split <;> omega
 have hfw : Ieee.double.word (ng a) (nr (rg a) % 4503599627370496) < 18446744073709551616 := (jn _ _ (by omega)).2.2;obtain ⟨hM, hE⟩ := ytx h0 (q := q) hq0 hv;have hndq : nd q = 52 := by unfold nd; rw [if_pos hn]
 rw [hndq] at hE;have heq : ex (nr q) ≤ 51 := by rw [(ydk hq0 hn).1]; exact (zkq hq0 hn).1
 have hB : ((k : Nat) : Int) + nzE a + (((ex (nr (rg a)) + 1 : Nat) : Int) - 1023) = ((ex (nr q) : Nat) : Int) - 1074 := by omega
 have hor := ypv (ng a) (x := (ex (nr q) + 2) * 4503599627370496) hfl (Nat.mul_mod_left _ _) (by omega);have hsum := sum_rung (x := ex (nr q) + 1) (m := mg (nr q)) rfl (hM.trans hmg);have hword := congrArg (Ieee.double.word (ng a)) hsum;refine zo Tryz.func101 rfl Tryz.ntmps101 rfl ?_;have LW := erx (No) w;have XLW := grx (No) w;have E := erx (No) w
 refine srx (anx rfl (zb (zw (srx (mvx rfl (za rfl (xy rfl rfl (anx rfl (yc 8 (.bool false) rfl ((by rw [zlq, hz] : (.bool (qy a 0 == some .eq) : Value) = _)) (zj rfl (srx (mvx rfl (za rfl (zg zqv rfl ((jd _ a ha).mono ?_)))))))))))))));rintro e w1 ⟨rfl, hb⟩;refine ⟨_, rfl, ?_⟩;replace E := blx E hb
 refine zv 14 (.bool false) rfl ((by rw [hinf] : (.bool (decide (rg a = 9218868437227405312)) : Value) = _)) (mvx rfl (onx rfl (zi rfl (onx rfl (zg en129 rfl ((yex _ a).mono ?_))))));rintro e w2 ⟨rfl, hb⟩;refine ⟨_, rfl, ?_⟩;replace E := blx E hb
 refine zv 17 (.bool false) rfl ((by rw [hnn] : (.bool (isN a) : Value) = _)) (za rfl (yi rfl rfl (anx rfl (zj rfl (zf (zl (zc (srx (mvx rfl (za rfl (zg en130 rfl ((zjz _ a ha h0 hf).mono ?_))))))))))));rintro e w3 ⟨rfl, hb⟩;refine ⟨_, rfl, ?_⟩;replace E := blx E hb
 refine mvx rfl (za rfl (zm rfl rfl (za rfl (zm rfl rfl (avx rfl (anx rfl (srx (mvx rfl (mvx rfl (za rfl (yb rfl rfl (zp (by omega)) (anx rfl (srx (mvx rfl (za rfl (ka ex46 rfl (anx rfl (srx (mvx rfl (mvx rfl (za rfl (qd rfl rfl (by decide) (shr52 (nzB a)) (za rfl (yx Tryz.underlying3 Tryz.underlying32 rfl (zp (by omega)) (za rfl (vd rfl rfl (and_2047i (by omega)) (zv 34 (.int .i64 ((ex (nr (rg a)) + 1 : Nat) : Int)) rfl ((by rw [show nzB a / 4503599627370496 % 2048 = _ from hp1, hex] : (.int .i64 ((nzB a / 4503599627370496 % 2048 : Nat) : Int) : Value) = _)) (za rfl (yd rfl rfl (zp (by omega)) (za rfl (yb rfl rfl (zp (by omega)) (anx rfl (zb (srx (mvx rfl (za rfl (yp rfl rfl ?_)))))))))))))))))))))))))))))))))))))
 refine rnx (yc 38 (.bool false) rfl ((by rw [hB, decide_eq_false (by omega)] : (.bool (decide (((((k : Nat) : Int) + (nzE a)) + (((ex (nr (rg a)) + 1 : Nat) : Int) - 1023)) < (-1075))) : Value) = _)) (yc 1 (.int .i64 (((ex (nr q) : Nat) : Int) - 1074)) rfl ((by rw [hB] : (.int .i64 ((((k : Nat) : Int) + (nzE a)) + (((ex (nr (rg a)) + 1 : Nat) : Int) - 1023)) : Value) = _)) (zj rfl (zf (zc (zb (srx (mvx rfl (za rfl (qh rfl rfl (rnx (yc 42 (.bool false) rfl ((by rw [decide_eq_false (by omega)] : (.bool (decide (1023 < (((ex (nr q) : Nat) : Int) - 1074))) : Value) = _)) (zj rfl (zf (zc (srx (anx rfl (zb (srx (mvx rfl (za rfl (yp rfl rfl (rnx (yc 48 (.bool true) rfl ((by rw [decide_eq_true (by omega)] : (.bool (decide ((((ex (nr q) : Nat) : Int) - 1074) < (-1022))) : Value) = _)) (zz rfl (srx (mvx rfl (za rfl (yb rfl rfl (zp (by omega)) (anx rfl (zh ?_)))))))))))))))))))))))))))))))
 refine anx rfl (srx (mvx rfl (za rfl (kp rfl rfl (yeq hlt) (zv 52 (.int .u64 ((Ieee.double.word (ng a) (nr (rg a) % 4503599627370496) : Nat) : Int)) rfl ((by rw [show nzB a / 9223372036854775808 * 9223372036854775808 + nzB a % 4503599627370496 = _ from hp2] : (.int .u64 ((nzB a / 9223372036854775808 * 9223372036854775808 + nzB a % 4503599627370496 : Nat) : Int) : Value) = _)) (anx rfl (srx (mvx rfl (mvx rfl (za rfl (yb rfl rfl (zp (by omega)) (za rfl (yx Tryz.underlying32 Tryz.underlying3 rfl (wrap_u64 (by omega)) (za rfl (qm (z := (((ex (nr q) + 2) * 4503599627370496 : Nat) : Int)) rfl rfl (by decide) (by show IntKind.u64.wrap ((((ex (nr q) : Nat) : Int) - 1074 + 53 + 1023) * 4503599627370496) = _; rw [wrap_u64 (by omega)]; omega) (za rfl (kh rfl rfl (gn hfw (by omega)) (zv 58 (.int .u64 ((Ieee.double.word (ng a) ((ex (nr q) + 1) * 4503599627370496 + mg (nr q)) : Nat) : Int)) rfl ((by rw [hor.trans hword] : (.int .u64 ((Ieee.double.word (ng a) (nr (rg a) % 4503599627370496) ||| (ex (nr q) + 2) * 4503599627370496 : Nat) : Int) : Value) = _)) (anx rfl (srx (mvx rfl (mvx rfl (za rfl (ym (b := Ieee.double.word (ng a) ((ex (nr q) + 1) * 4503599627370496 + mg (nr q))) om rfl (za rfl (yhq (m := 4368491638549381120) (n := Ieee.double.word (ng a) ((ex (nr q) + 1) * 4503599627370496 + mg (nr q))) (.inr (.inr (.inl rfl))) rfl rfl ?_))))))))))))))))))))))))))
 intro r w4 hr;have Ec := hr.ext;replace E := E.trans Ec.no;refine anx rfl (zt (zr (rs := [.tmp 4]) (vs := [_]) rfl ⟨rfl, trivial⟩ ?_));exact ⟨by rw [hr.some (m53_mul hq0 hn)]; rfl, (LW.step E XLW).toBelow⟩
end
section
variable {P : Program} {N : Nat} {ops : Array Oper} {Q : Exit → Act → World → Prop} {σ : Env} {w : World} {ty : TypeId} {pos : String} {af : Array Edge} {dst : Option Nat} {Post : Value → World → Prop}
theorem ypq {T U : TypeId} {x : Operand} {b : Nat} {q : IntKind} {z : Int} (hd : P.underlying U = some (.int q)) (hs : (P.underlying T).isSome = true) (hx : ev σ x = some (.float .f64 b)) (hz : floatToIntVal .f64 b q = some z) (k : Post (.int q z) w) : OW P N ops Q ⟨dst, .convert T U x, ty, pos, af, none⟩ σ w Post :=
 yv (fun ρ ha => by
  have h := run_convert_float_int (P := P) w T U .f64 q b z hs hd hz;simp only [execOp, ha hx, Sem.run_bind, h, Result.andThen_ok, Sem.run_pure]) k
theorem ow_i2f {T U : TypeId} {x : Operand} {n : Int} {q : IntKind} (hd : P.underlying U = some (.float .f64)) (hs : (P.underlying T).isSome = true) (hx : ev σ x = some (.int q n)) (k : Post (.float .f64 (FloatKind.f64.nearest n)) w) : OW P N ops Q ⟨dst, .convert T U x, ty, pos, af, none⟩ σ w Post :=
 yv (fun ρ ha => by
  have h : (convert T U (.int q n)).run P w = .ok (.float .f64 (FloatKind.f64.nearest n)) w := by
   obtain ⟨s, hs'⟩ := Option.isSome_iff_exists.1 hs;cases s <;> simp [convert, run_underlying hs', run_underlying hd, Conv.intToFloat]
  simp only [execOp, ha hx, Sem.run_bind, h, Result.andThen_ok, Sem.run_pure]) k
theorem isN_read (b : Nat) : (FloatKind.f64.decode b).isNaN = isN b := by
 show (Ieee.double.read b).isNaN = isN b
 rcases Nat.lt_trichotomy (rg b) 9218868437227405312 with h | h | h
 · rw [gg h, isN, decide_eq_false (by omega)]; rfl
 · rw [zaz h, isN, decide_eq_false (by omega)]; rfl
 · rw [read_nan h, isN, decide_eq_true h]; rfl
structure NRes (r : Nat) (w w' : World) : Prop where
 isn : isN r = true
 ext : Ext No w w'
 lt : r < 18446744073709551616
end
end Go.Proofs.YtjdcjdohghkcgaaGreatDoor
namespace Go.Proofs.YtjdcjdohghkcgaaGreatDoor
open Ieee
set_option maxRecDepth 100000
theorem two_split {p q s P : Nat} (hP : P = 2 ^ p) (h : p = q + s) : P = 2 ^ q * 2 ^ s := by rw [hP, h, Nat.pow_add]
theorem two_mono {k K P : Nat} (h : k ≤ K) (hP : P = 2 ^ K) : 2 ^ k ≤ P := by rw [hP]; exact Nat.pow_le_pow_right (by decide) h
theorem kr (n : Nat) : 0 < 2 ^ n := Nat.pow_pos (by decide)
theorem div_mul_p {x P w : Nat} (h : w = x / P) : w * P ≤ x := by rw [h]; exact Nat.div_mul_le_self _ _
theorem cut_zero (s : Bool) (n t : Nat) : Toward.zero.cut s n t = n / 2 ^ t := by
 have e : Toward.zero.cut s n t = n / (1 <<< min t (n.log2 + 2)) := by
  unfold Toward.cut;simp only [Bool.toNat_false, Nat.add_zero]
 rw [e, Nat.shiftLeft_eq, Nat.one_mul];rcases Nat.le_total t (n.log2 + 2) with h | h
 · rw [Nat.min_eq_left h]
 · rw [Nat.min_eq_right h];have h1 := @Nat.lt_log2_self n;have h2 : (2 : Nat) ^ (n.log2 + 1) ≤ 2 ^ (n.log2 + 2) := Nat.pow_le_pow_right (by decide) (by omega);have h3 : (2 : Nat) ^ (n.log2 + 2) ≤ 2 ^ t := Nat.pow_le_pow_right (by decide) h;rw [Nat.div_eq_of_lt (by omega), Nat.div_eq_of_lt (by omega)]
theorem shl_div (m i j : Nat) : m * 2 ^ (i - j) / 2 ^ (j - i) = m * 2 ^ i / 2 ^ j := by
 rcases Nat.le_total j i with h | h
 · rw [show j - i = 0 by omega, Nat.pow_zero, Nat.div_one, ywv h, Nat.mul_div_cancel _ (Nat.pow_pos (by decide))]
 · rw [show i - j = 0 by omega, Nat.pow_zero, Nat.mul_one];rw [show (2 : Nat) ^ j = 2 ^ (j - i) * 2 ^ i by rw [← Nat.pow_add]; congr 1; omega, Nat.mul_div_mul_right _ _ (Nat.pow_pos (by decide))]
def ve (a : Nat) : Nat := vl (rg a) / 2 ^ 1074
theorem ybq {a : Nat} (ha : rg a < 9218868437227405312) : (double.read a).integral .zero = .number (ng a) (ve a) 0 := by
 rw [gg ha, Datum.integral, cut_zero, Nat.shiftLeft_eq];have e1 : (-1074 + (ex (rg a) : Int)).toNat = ex (rg a) - 1074 := by omega
 have e2 : (-(-1074 + (ex (rg a) : Int))).toNat = 1074 - ex (rg a) := by omega
 rw [e1, e2, shl_div];rfl
theorem signed_zero (s : Bool) (m : Nat) : signed s m 0 = if s then -(m : Int) else (m : Int) := by
 unfold signed;rw [Nat.shiftLeft_zero]
theorem toInt_fin {a : Nat} (ha : rg a < 9218868437227405312) : (FloatKind.f64.decode a).toInt .zero = some (if ng a then -(ve a : Int) else (ve a : Int)) := by
 show Datum.toInt .zero (double.read a) = _
 unfold Datum.toInt;rw [ybq ha];simp only [signed_zero]
theorem f2i_i64 {a : Nat} (ha : rg a < 9218868437227405312) (h : ve a < 9223372036854775808) : floatToIntVal .f64 a .i64 = some (if ng a then -(ve a : Int) else (ve a : Int)) := by
 unfold floatToIntVal;rw [toInt_fin ha];have h1 : IntKind.i64.min = -9223372036854775808 := rfl;have h2 : IntKind.i64.max = 9223372036854775807 := rfl;simp only [h1, h2]
 rw [if_pos (by split <;> omega)]
theorem f2i_u64 {a : Nat} (ha : rg a < 9218868437227405312) (hs : ng a = false) (h : ve a < 18446744073709551616) : floatToIntVal .f64 a .u64 = some (ve a : Int) := by
 unfold floatToIntVal;rw [toInt_fin ha, hs];have h1 : IntKind.u64.min = 0 := rfl;have h2 : IntKind.u64.max = 18446744073709551615 := rfl;simp only [h1, h2, Bool.false_eq_true, if_false]
 rw [if_pos (by omega)]
theorem mul_div_p {m P x : Nat} (hP : 0 < P) (h : x = m * P) : x / P = m := by rw [h, Nat.mul_div_cancel _ hP]
theorem zrq (s : Bool) {q m : Nat} (hq : q < 9218868437227405312) (h : vl q = m * 2 ^ 1074) : ve (double.word s q) = m := by
 unfold ve;rewrite [(jn s q (Nat.lt_trans hq (by decide))).1]
 exact mul_div_p (kr 1074) h
theorem zuq {a : Nat} (ha : rg a < 9218868437227405312) : ∃ q, vl q = ve a * 2 ^ 1074 ∧ q ≤ rg a ∧ kx .zero a = double.word (ng a) q := by
 have key : ∃ q, vl q = ve a * 2 ^ 1074 ∧ q ≤ rg a := by
  have hle : ve a * 2 ^ 1074 ≤ vl (rg a) := div_mul_p rfl;rcases Nat.le_total (ex (rg a)) 1074 with h | h
  · refine rep_le (ve a) 1074 (rg a) ?_ hle;have := mg_lt (rg a);have h2 : vl (rg a) ≤ mg (rg a) * 2 ^ 1074 := Nat.mul_le_mul_left _ (two_mono h rfl);have h3 : ve a ≤ mg (rg a) := Nat.le_of_mul_le_mul_right (Nat.le_trans hle h2) (kr 1074);exact Nat.lt_of_le_of_lt h3 this
  · refine ⟨rg a, ?_, Nat.le_refl _⟩;have e : vl (rg a) = mg (rg a) * 2 ^ (ex (rg a) - 1074) * 2 ^ 1074 := ywv h _;have e2 : ve a = mg (rg a) * 2 ^ (ex (rg a) - 1074) := mul_div_p (kr 1074) e;rw [e2]; exact e
 obtain ⟨q, h1, h2⟩ := key;refine ⟨q, h1, h2, ?_⟩;show double.write ((double.read a).integral .zero) = _
 rw [ybq ha];exact yrv (u := 1074) (d := 0) (Nat.lt_of_le_of_lt h2 ha) (by omega) (by rw [h1, Nat.pow_zero, Nat.mul_one])
/-! ### rests -/
def addS (a b : Nat) : Bool := if sv a + sv b = 0 then ng a && ng b else decide (sv a + sv b < 0)
theorem dvd_p {x m P : Nat} (h : x = m * P) : P ∣ x := ⟨m, by rw [h, Nat.mul_comm]⟩
theorem zero_p {x j P : Nat} (h : x = j * P) (e : j = 0) : x = 0 := by rw [h, e, Nat.zero_mul]
def isWh (r : Nat) : Prop := 2 ^ 1074 ∣ vl r
theorem isWh_iff {a : Nat} : isWh (rg a) ↔ vl (rg a) = ve a * 2 ^ 1074 := by
 constructor
 · intro h; exact (Nat.div_mul_cancel h).symm
 · intro h; exact dvd_p h
noncomputable def modR (a b : Nat) : Nat := if rg b = 9218868437227405312 then rg a else rungOf (vl (rg a) % vl (rg b))
noncomputable def m0F (a b : Nat) : Nat := double.word (ng a) (modR a b)
theorem jz {b : Nat} (hb : rg b < 9218868437227405312) : isN b = false := decide_eq_false (by omega)
theorem zox (s : Bool) (m : Nat) (p : Int) : ng (double.nearest s m p) = s := by
 unfold Format.nearest;split
 · exact (jn s 0 (by decide)).2.1
 · refine (jn s _ (Nat.lt_of_le_of_lt (Nat.min_le_right _ _) ?_)).2.1;rw [c3]; decide
theorem quo_fin {a b : Nat} (ha : isN a = false) (hb : isN b = false) (h0 : rg b ≠ 0) (hi : rg a < 9218868437227405312 ∨ rg b < 9218868437227405312) : ∃ z, fop .quo a b = some z ∧ ng z = (ng a ^^ ng b) := by
 have hA : rg a < 9218868437227405312 ∨ rg a = 9218868437227405312 := by have := of_decide_eq_false ha; omega
 have hB : rg b < 9218868437227405312 ∨ rg b = 9218868437227405312 := by have := of_decide_eq_false hb; omega
 rcases hA with hA | hA <;> rcases hB with hB | hB
 · simp only [fop, Format.div, gg hA, gg hB, Datum.quotient]
   rw [if_neg (mg_pos h0)];exact ⟨_, rfl, zox _ _ _⟩
 · simp only [fop, Format.div, gg hA, zaz hB, Datum.quotient]
   exact ⟨_, rfl, zox _ _ _⟩
 · simp only [fop, Format.div, zaz hA, gg hB, Datum.quotient]
   exact ⟨_, rfl, (jn _ _ (by rw [c3]; decide)).2.1⟩
 · omega
def nanCase (a b : Nat) : Bool := isN a || isN b || decide (rg a = 9218868437227405312)
noncomputable def flipB (a b : Nat) : Bool := decide (modR a b ≠ 0) && (ng a != ng b)
noncomputable def modF (a b : Nat) : Nat := if nanCase a b then 9221120237041090560 else if modR a b = 0 then double.word (ng b) 0 else if flipB a b then zpv (fop .add (m0F a b) b) else m0F a b
noncomputable def subF (a b : Nat) : Nat := zpv (fop .sub a (m0F a b))
noncomputable def d0F (a b : Nat) : Nat := zpv (fop .quo (subF a b) b)
noncomputable def d1F (a b : Nat) : Nat := if flipB a b then zpv (fop .sub (d0F a b) 4607182418800017408) else d0F a b
def upB (d : Nat) : Bool := match fop .sub d (kx .down d) with
 | some z => qy z 4602678819172646912 == some .gt
 | none => false
def wholeF (d : Nat) : Nat := if upB d then zpv (fop .add (kx .down d) 4607182418800017408) else kx .down d
noncomputable def floorF (a b : Nat) : Nat := if nanCase a b then 9221120237041090560 else if isZ (d1F a b) then double.word (ng a ^^ ng b) 0 else wholeF (d1F a b)
theorem ansF_some {z : Option Nat} {r : Nat} (h : z = some r) : zpv z = r := by rw [h]; rfl
section
variable {a b : Nat} (ha : a < 18446744073709551616) (hf : rg a < 9218868437227405312) (hb : b < 18446744073709551616) (hn : isN b = false) (h0 : rg b ≠ 0)
include hf h0
include hn ha
end
theorem ford_neg {b : Nat} (hn : isN b = false) (h0 : rg b ≠ 0) : (qy b 0 == some .lt) = ng b := by
 rw [zlk hn (by decide)];have hp : pc 0 = 0 := by decide
 rw [hp];obtain ⟨p1, p2⟩ := ydz b;cases h : ng b with
 | true => rw [zzk (by rw [p1 h]; omega)]; rfl
 | false => rw [ykz (by rw [p2 h]; omega)]; rfl
theorem ford_nan_no {a b : Nat} (h : isN a = true) (o : Ordering) : (qy a b == some o) = false := by rw [zbq (.inl h)]; rfl
end Go.Proofs.YtjdcjdohghkcgaaGreatDoor
namespace Go.Proofs.YtjdcjdohghkcgaaGreatDoor
open Go.RowKit
set_option maxRecDepth 100000
theorem zxz {r : Nat} (h : r < 9223372036854775808) : rg r = r ∧ ng r = false := by
 have := jn false r h;exact ⟨this.1, this.2.1⟩
theorem frF_pos {r : Nat} (hr : r < 9218868437227405312) : frF r = 4602678819172646912 + (mg (nr r) - 4503599627370496) := by
 obtain ⟨h1, h2⟩ := zxz (r := r) (by omega);rw [frF, h1, h2]; rfl
theorem frE_pos {r : Nat} (hr : r < 9218868437227405312) : frE r = (ex (nr r) : Int) - 1021 - (nd r : Int) := by
 obtain ⟨h1, _⟩ := zxz (r := r) (by omega);unfold frE nd;rw [h1];split <;> rfl
theorem frE_bound {r : Nat} (hr : r < 9218868437227405312) : -1100 ≤ frE r ∧ frE r ≤ 1100 := by
 rw [frE_pos hr];have h1 : ex (nr r) ≤ 2045 := by
  by_cases h0 : r = 0
  · subst h0; decide
  · have := zyx h0 hr;unfold ex;split <;> omega
 have h2 : nd r ≤ 52 := by unfold nd; split <;> omega
 omega
section
variable (w : World)
section
variable (a : Nat) (ha : a < 18446744073709551616) (h0 : rg a ≠ 0) (hf : rg a < 9218868437227405312)
include ha
section
include h0 hf
theorem yrk : Calls Tryz.prog 59 #[.float .f64 a] w fun e w' => e = .returned (.tuple #[.float .f64 (frF a), .int .i64 (frE a)]) ∧ Below w.heap.size w w' := by
 refine zo Tryz.func59 rfl Tryz.ntmps59 rfl ?_;have LW := erx (No) w;have XLW := grx (No) w;have E := erx (No) w;refine srx (avx rfl (anx rfl (zb (zj rfl (zf (zc (srx (mvx rfl (za rfl (zg en96 rfl ((frexp_num _ a ha h0 hf).mono ?_)))))))))));rintro e w1 ⟨rfl, hb⟩;refine ⟨_, rfl, ?_⟩;replace E := blx E hb
 refine za rfl (zm rfl rfl (za rfl (zm rfl rfl (avx rfl (anx rfl (zt (zr (rs := [.tmp 2, .tmp 3]) (vs := [_, _]) rfl ⟨rfl, rfl, trivial⟩ ?_)))))));exact ⟨rfl, (LW.step E XLW).toBelow⟩
theorem ldexp_all (k q : Nat) (hk : k < 4096) (hq : q < 9218868437227405312) (hv : vl q = vl (rg a) * 2 ^ k) : Calls Tryz.prog 101 #[.float .f64 a, .int .i64 ((k : Nat) : Int)] w fun e w' => e = .returned (.float .f64 (Ieee.double.word (ng a) q)) ∧ Below w.heap.size w w' := by
 rcases Nat.lt_or_ge q 4503599627370496 with hn | hn
 · refine ldexp_sub w a k q ha h0 hf hk hq hv hn (fun e => ?_);subst e;rw [xt] at hv;have h1 : 0 < vl (rg a) := by
    rcases Nat.eq_zero_or_pos (vl (rg a)) with h' | h'
    · exact absurd (ysx.1 h') h0
    · exact h'
   have := Nat.mul_pos h1 (show 0 < 2 ^ k from Nat.pow_pos (by decide));omega
 · exact ldexp_norm w a k q ha h0 hf hk hq hv hn
theorem yrq (k q : Nat) (hk : k < 4096) (hq : q < 9218868437227405312) (hv : vl q = vl (rg a) * 2 ^ k) : Calls Tryz.prog 62 #[.float .f64 a, .int .i64 ((k : Nat) : Int)] w fun e w' => e = .returned (.float .f64 (Ieee.double.word (ng a) q)) ∧ Below w.heap.size w w' := by
 refine zo Tryz.func62 rfl Tryz.ntmps62 rfl ?_;have LW := erx (No) w;have XLW := grx (No) w;have E := erx (No) w;refine srx (anx rfl (zb (zj rfl (zf (zc (srx (mvx rfl (mvx rfl (za rfl (zg en101 rfl ((ldexp_all _ a ha h0 hf k q hk hq hv).mono ?_)))))))))));rintro e w1 ⟨rfl, hb⟩;refine ⟨_, rfl, ?_⟩;replace E := blx E hb
 refine anx rfl (zt (zr (rs := [.tmp 4]) (vs := [_]) rfl ⟨rfl, trivial⟩ ?_));exact ⟨rfl, (LW.step E XLW).toBelow⟩
end
section
variable (hz : rg a = 0)
include hz
theorem frexp_zero : Calls Tryz.prog 96 #[.float .f64 a] w fun e w' => e = .returned (.tuple #[.float .f64 a, .int .i64 0]) ∧ Below w.heap.size w w' := by
 have _ := ha;have hz2 : isZ a = true := decide_eq_true hz;refine zo Tryz.func96 rfl Tryz.ntmps96 rfl ?_;have LW := erx (No) w;have XLW := grx (No) w;have E := erx (No) w
 refine srx (avx rfl (anx rfl (zb (zw (srx (mvx rfl (za rfl (xy rfl rfl (anx rfl (yc 5 (.bool true) rfl ((by rw [zlq, hz2] : (.bool (qy a 0 == some .eq) : Value) = _)) (zz rfl (srx (mvx rfl (avx rfl (anx rfl (zt (yo (zq (zr (rs := [.tmp 2, .tmp 3]) (vs := [_, _]) rfl ⟨rfl, rfl, trivial⟩ ?_)))))))))))))))))))
 exact ⟨rfl, (LW.step E XLW).toBelow⟩
theorem Frexp_zero : Calls Tryz.prog 59 #[.float .f64 a] w fun e w' => e = .returned (.tuple #[.float .f64 a, .int .i64 0]) ∧ Below w.heap.size w w' := by
 refine zo Tryz.func59 rfl Tryz.ntmps59 rfl ?_;have LW := erx (No) w;have XLW := grx (No) w;have E := erx (No) w;refine srx (avx rfl (anx rfl (zb (zj rfl (zf (zc (srx (mvx rfl (za rfl (zg en96 rfl ((frexp_zero _ a ha hz).mono ?_)))))))))));rintro e w1 ⟨rfl, hb⟩;refine ⟨_, rfl, ?_⟩;replace E := blx E hb
 refine za rfl (zm rfl rfl (za rfl (zm rfl rfl (avx rfl (anx rfl (zt (zr (rs := [.tmp 2, .tmp 3]) (vs := [_, _]) rfl ⟨rfl, rfl, trivial⟩ ?_)))))));exact ⟨rfl, (LW.step E XLW).toBelow⟩
theorem ldexp_zero (k : Int) : Calls Tryz.prog 101 #[.float .f64 a, .int .i64 k] w fun e w' => e = .returned (.float .f64 a) ∧ Below w.heap.size w w' := by
 have _ := ha;have hz2 : isZ a = true := decide_eq_true hz;refine zo Tryz.func101 rfl Tryz.ntmps101 rfl ?_;have LW := erx (No) w;have XLW := grx (No) w;have E := erx (No) w
 refine srx (anx rfl (zb (zw (srx (mvx rfl (za rfl (xy rfl rfl (anx rfl (yc 8 (.bool true) rfl ((by rw [zlq, hz2] : (.bool (qy a 0 == some .eq) : Value) = _)) (zz rfl (srx (mvx rfl (anx rfl (zt (yo (zq (zr (rs := [.tmp 4]) (vs := [_]) rfl ⟨rfl, trivial⟩ ?_)))))))))))))))));exact ⟨rfl, (LW.step E XLW).toBelow⟩
theorem Ldexp_zero (k : Int) : Calls Tryz.prog 62 #[.float .f64 a, .int .i64 k] w fun e w' => e = .returned (.float .f64 a) ∧ Below w.heap.size w w' := by
 refine zo Tryz.func62 rfl Tryz.ntmps62 rfl ?_;have LW := erx (No) w;have XLW := grx (No) w;have E := erx (No) w;refine srx (anx rfl (zb (zj rfl (zf (zc (srx (mvx rfl (mvx rfl (za rfl (zg en101 rfl ((ldexp_zero _ a ha hz k).mono ?_)))))))))));rintro e w1 ⟨rfl, hb⟩;refine ⟨_, rfl, ?_⟩;replace E := blx E hb
 refine anx rfl (zt (zr (rs := [.tmp 4]) (vs := [_]) rfl ⟨rfl, trivial⟩ ?_));exact ⟨rfl, (LW.step E XLW).toBelow⟩
end
section
variable (hi : rg a = 9218868437227405312)
include hi
end
end
/-! ### math.mod -/
section
variable (a b : Nat) (ha : a < 18446744073709551616) (hb : b < 18446744073709551616) (hz : isZ b = false)
include ha hb hz
section
variable (hf : rg a < 9218868437227405312) (hn : isN b = false)
include hf hn
section
variable (ha0 : rg a ≠ 0)
include ha0
/-! ### the loop -/
variable (hq : rg b < 9218868437227405312)
include hq
end
end
end
end
theorem ks (m k : Nat) (hk : k < 64) : ((m : Nat) : Int).fdiv (2 ^ (min ((k : Nat) : Int).toNat IntKind.u64.bits)) = ((m / 2 ^ k : Nat) : Int) := by
 rw [Int.toNat_natCast, show min k IntKind.u64.bits = k from Nat.min_eq_left (by show k ≤ 64; omega), Int.fdiv_eq_ediv_of_nonneg _ (Int.le_of_lt (Int.pow_pos (by decide)))];rw [show (2 : Int) ^ k = ((2 ^ k : Nat) : Int) by simp];rfl
theorem zrz (m : Nat) : IntKind.u64.wrap ((m : Nat) : Int) = ((m % 18446744073709551616 : Nat) : Int) := by
 unfold IntKind.wrap;simp only [IntKind.bits, IntKind.signed, Bool.false_and, Bool.false_eq_true, if_false]
 omega
theorem oz (m k : Nat) (hk : k < 64) : IntKind.u64.wrap (((m : Nat) : Int) * 2 ^ (min ((k : Nat) : Int).toNat IntKind.u64.bits)) = ((m * 2 ^ k % 18446744073709551616 : Nat) : Int) := by
 rw [Int.toNat_natCast, show min k IntKind.u64.bits = k from Nat.min_eq_left (by show k ≤ 64; omega), show (2 : Int) ^ k = ((2 ^ k : Nat) : Int) by simp, ← Int.natCast_mul];exact zrz _
theorem yev (m n : Nat) : ((m : Nat) : Int).tmod ((n : Nat) : Int) = ((m % n : Nat) : Int) := rfl
theorem kg {p q : Prop} [Decidable p] [Decidable q] (h : p ↔ q) : (Value.bool (decide p)) = .bool (decide q) := by
 congr 1
 by_cases hp : p
 · rw [decide_eq_true hp, decide_eq_true (h.1 hp)]
 · rw [decide_eq_false hp, decide_eq_false (fun k => hp (h.2 k))]
section
variable (w : World)
/-! ### rest -/
section
variable (a b : Nat) (ha : a < 18446744073709551616) (hb : b < 18446744073709551616)
include ha hb
section
variable (ha0 : rg a ≠ 0) (hb0 : rg b ≠ 0) (hf : rg a < 9218868437227405312) (hq : rg b < 9218868437227405312)
include ha0 hb0 hf hq
end
end
end
theorem tdiv_nat (m n : Nat) : ((m : Nat) : Int).tdiv ((n : Nat) : Int) = ((m / n : Nat) : Int) := rfl
theorem quo_nat {m n : Nat} (h : m < 18446744073709551616) : IntKind.u64.wrap (((m : Nat) : Int).tdiv ((n : Nat) : Int)) = ((m / n : Nat) : Int) := by
 rw [tdiv_nat]; exact zrx (Nat.lt_of_le_of_lt (Nat.div_le_self m n) h)
theorem yxq (m n : Nat) : IntKind.u64.wrap (((m : Nat) : Int) * ((n : Nat) : Int)) = ((m * n % 18446744073709551616 : Nat) : Int) := by rw [← Int.natCast_mul]; exact zrz _
theorem add_nat (m n : Nat) : IntKind.u64.wrap (((m : Nat) : Int) + ((n : Nat) : Int)) = (((m + n) % 18446744073709551616 : Nat) : Int) := by rw [← Int.natCast_add]; exact zrz _
theorem ysk {M x y W : Nat} (hW : W < M) (h : (W + y) % M = x % M) : ((x : Int) - (y : Int)) % (M : Int) = (W : Int) := by
 have h' : ((W : Int) + (y : Int)) % (M : Int) = (x : Int) % (M : Int) := by exact_mod_cast h
 rw [Int.sub_emod, ← h', ← Int.sub_emod, Int.add_sub_cancel];exact Int.emod_eq_of_lt (by omega) (by omega)
theorem sub_nat {x y W : Nat} (hW : W < 18446744073709551616) (h : (W + y) % 18446744073709551616 = x % 18446744073709551616) : IntKind.u64.wrap (((x : Nat) : Int) - ((y : Nat) : Int)) = ((W : Nat) : Int) := by
 rw [IntKind.wrap_u64];exact ysk hW h
theorem shl_cut {lo B V : Nat} (hB : B = lo % 2147483648) (hV : V = B * 8589934592) : lo * 2 ^ 33 % 18446744073709551616 = V := by
 rw [hV, hB];exact Nat.mul_mod_mul_right 8589934592 lo 2147483648
theorem km {U d q r : Nat} (hq : q = U / d) (hr : r = U % d) : q * d + r = U := by rw [hq, hr, Nat.mul_comm]; exact Nat.div_add_mod U d
theorem xo {r U d : Nat} (hd : 0 < d) (hr : r = U % d) : r < d := by rw [hr]; exact Nat.mod_lt _ hd
theorem wrap_rest {M m q r d e f W x y : Nat} (hU : q * d + r = e) (hW : W = r * m + f) (hx : x = (e * m % M + f) % M) (hy : y = q * (d * m) % M) : (W + y) % M = x % M := by
 subst hx hy hW;rw [Nat.mod_mod, Nat.add_mod_mod, Nat.mod_add_mod, ← hU, Nat.add_mul, Nat.mul_assoc];congr 1
 omega
theorem div_gen {hi A B U V1 V0 q1 r1 q0 r0 m h y1 P a M : Nat} (hM : M = m * m) (hM2 : M = a * h) (hU : U = hi * h + A) (hV : V1 * m + V0 = B * h)
 (h1 : q1 * y1 + r1 = U) (h3 : q0 * y1 + r0 = r1 * m + V1) (hy : y1 * m = P * h) : (hi * M + (A * a + B)) * h = (q1 * m + q0) * P * h + (r0 * m + V0) := by
 have e1 : (hi * M + (A * a + B)) * h = (hi * h + A) * M + B * h := by
  rw [Nat.add_mul, Nat.add_mul, Nat.add_mul, Nat.mul_assoc A, ← hM2, Nat.mul_right_comm hi M h, Nat.add_assoc]
 have e2 : (q1 * m + q0) * P * h = (q1 * y1 * m + q0 * y1) * m := by
  rw [Nat.mul_assoc, ← hy, Nat.mul_comm y1 m, ← Nat.mul_assoc, Nat.mul_right_comm, Nat.add_mul, Nat.mul_right_comm q1 m y1]
 rw [e1, ← hU, ← hV, ← h1, hM, e2, Nat.add_mul, Nat.add_mul];have e3 : q0 * y1 * m + r0 * m = r1 * m * m + V1 * m := by rw [← Nat.add_mul, h3, Nat.add_mul]
 rw [← Nat.mul_assoc, ← Nat.mul_assoc];omega
theorem div_R {S Q P h m r0 V0 y1 : Nat} (h0 : 0 < h) (e : S * h = Q * P * h + (r0 * m + V0)) (hr : r0 < y1) (hv : V0 < m) (hy : y1 * m = P * h) : ∃ R, r0 * m + V0 = R * h ∧ R < P ∧ S = Q * P + R := by
 have hle : Q * P ≤ S := Nat.le_of_mul_le_mul_right (by omega) h0;obtain ⟨R, rfl⟩ : ∃ R, S = Q * P + R := ⟨S - Q * P, by omega⟩;rw [Nat.add_mul] at e;have e1 : r0 * m + V0 = R * h := by omega
 refine ⟨R, e1, ?_, rfl⟩;have e2 : (r0 + 1) * m ≤ y1 * m := Nat.mul_le_mul_right m hr;rw [Nat.add_mul, Nat.one_mul, hy] at e2;exact Nat.lt_of_mul_lt_mul_right (a := h) (by omega)
theorem div_eqs {hi A B U V1 V0 q1 r1 q0 r0 : Nat} (hU : U = hi * 8589934592 + A) (hV : V1 * 4294967296 + V0 = B * 8589934592)
 (h1 : q1 * 4294967294 + r1 = U) (h3 : q0 * 4294967294 + r0 = r1 * 4294967296 + V1) (h4 : r0 < 4294967294) (h5 : V0 < 4294967296) :
 ∃ R, r0 * 4294967296 + V0 = R * 8589934592 ∧ R < 2147483647 ∧ hi * 18446744073709551616 + (A * 2147483648 + B) = (q1 * 4294967296 + q0) * 2147483647 + R :=
 div_R (by decide) (div_gen (m := 4294967296) (a := 2147483648) rfl rfl hU hV h1 h3 rfl) h4 h5 rfl
theorem rr155_1 : Gives 155 #[.int .u64 2147483647] (.int .i64 31) := by
 intro w;refine zo Tryz.func155 rfl Tryz.ntmps155 rfl ?_;have LW := erx (No) w;have XLW := grx (No) w;have E := erx (No) w
 refine srx (anx rfl (zb (srx (mvx rfl (za rfl (qz rfl rfl (rnx (zj rfl (zf (zc (zb (srx (mvx rfl (za rfl (qz rfl rfl (rnx (zz rfl (srx (mvx rfl (za rfl (qd (z := 32767) rfl rfl (by decide) (by kernel_rfl) (anx rfl (zh (mvx rfl (za rfl (yb (z := 16) rfl rfl (by kernel_rfl) (anx rfl (zb (srx (mvx rfl ?_))))))))))))))))))))))))))))))
 refine za rfl (qz rfl rfl (rnx (zz rfl (srx (mvx rfl (za rfl (qd (z := 127) rfl rfl (by decide) (by kernel_rfl) (anx rfl (zh (mvx rfl (za rfl (yb (z := 24) rfl rfl (by kernel_rfl) (anx rfl (srx (mvx rfl (mvx rfl (za rfl (yx (z := 127) Tryz.underlying5 Tryz.underlying32 rfl (by kernel_rfl) (za rfl (yj (j := 127) (b := 7) Tryz.underlying9 rfl rfl rfl (by kernel_rfl) (za rfl (yx (z := 7) Tryz.underlying3 Tryz.underlying5 rfl (by kernel_rfl) (za rfl (yb (z := 31) rfl rfl (by kernel_rfl) (anx rfl (zt (zr (rs := [.tmp 2]) (vs := [.int .i64 31]) rfl ⟨rfl, trivial⟩ ?_)))))))))))))))))))))))))))
 exact ⟨rfl, (LW.step E XLW).toBelow⟩
theorem rr131_2 : Gives 131 #[.int .u64 2147483647] (.int .i64 33) := by
 intro w;refine zo Tryz.func131 rfl Tryz.ntmps131 rfl ?_;have LW := erx (No) w;have XLW := grx (No) w;have E := erx (No) w;refine srx (anx rfl (srx (mvx rfl (za rfl (zg en155 rfl ((rr155_1 _).mono ?_))))));rintro e w1 ⟨rfl, hb⟩;refine ⟨_, rfl, ?_⟩;replace E := blx E hb
 refine za rfl (yd (z := 33) rfl rfl (by kernel_rfl) (anx rfl (zt (zr (rs := [.tmp 2]) (vs := [.int .i64 33]) rfl ⟨rfl, trivial⟩ ?_))));exact ⟨rfl, (LW.step E XLW).toBelow⟩
section
variable (w : World)
theorem div64_prime (hi lo : Nat) (h1 : hi < 2147483647) (h2 : lo < 18446744073709551616) : Calls Tryz.prog 102 #[.int .u64 ((hi : Nat) : Int), .int .u64 ((lo : Nat) : Int), .int .u64 2147483647] w fun e w' => e = .returned (.tuple #[.int .u64 (((hi * 18446744073709551616 + lo) / 2147483647 : Nat) : Int), .int .u64 (((hi * 18446744073709551616 + lo) % 2147483647 : Nat) : Int)]) ∧ Below w.heap.size w w' := by
 obtain ⟨A, hA⟩ : ∃ A, A = lo / 2147483648 := ⟨_, rfl⟩;obtain ⟨B, hB⟩ : ∃ B, B = lo % 2147483648 := ⟨_, rfl⟩;obtain ⟨U, hU⟩ : ∃ U, U = hi * 8589934592 + A := ⟨_, rfl⟩;obtain ⟨V, hV⟩ : ∃ V, V = B * 8589934592 := ⟨_, rfl⟩;have eV : lo * 2 ^ 33 % 18446744073709551616 = V := shl_cut hB hV;have eA : lo / 2 ^ 31 = A := hA.symm
 have ehi : hi * 2 ^ 33 % 18446744073709551616 = hi * 8589934592 := Nat.mod_eq_of_lt (Nat.lt_of_lt_of_le (Nat.mul_lt_mul_of_pos_right h1 (by decide)) (by decide));have bA : A < 8589934592 := by omega
 have eor : hi * 8589934592 ||| A = U := by rw [hU]; exact or_add 33 bA (Nat.mul_mod_left hi 8589934592)
 have bB : B < 2147483648 := xo (by decide) hB;obtain ⟨V1, hV1⟩ : ∃ V1, V1 = V / 4294967296 := ⟨_, rfl⟩;obtain ⟨V0, hV0⟩ : ∃ V0, V0 = V % 4294967296 := ⟨_, rfl⟩;obtain ⟨q1, hq1⟩ : ∃ q1, q1 = U / 4294967294 := ⟨_, rfl⟩;obtain ⟨r1, hr1⟩ : ∃ r1, r1 = U % 4294967294 := ⟨_, rfl⟩;obtain ⟨W, hW⟩ : ∃ W, W = r1 * 4294967296 + V1 := ⟨_, rfl⟩;obtain ⟨q0, hq0⟩ : ∃ q0, q0 = W / 4294967294 := ⟨_, rfl⟩
 obtain ⟨r0, hr0⟩ : ∃ r0, r0 = W % 4294967294 := ⟨_, rfl⟩;obtain ⟨R, e1, e2, e3⟩ := div_eqs (hi := hi) (A := A) (B := B) (U := U) (V1 := V1) (V0 := V0) (q1 := q1) (r1 := r1) (q0 := q0) (r0 := r0) hU ((km hV1 hV0).trans hV) (km hq1 hr1) ((km hq0 hr0).trans hW) (xo (by decide) hr0) (xo (by decide) hV0);have elo : A * 2147483648 + B = lo := km hA hB
 have b1 := xo (by decide) hr1;have b0 := xo (by decide) hr0;have bV0 := xo (by decide) hV0;rw [elo] at e3;have eR : (hi * 18446744073709551616 + lo) % 2147483647 = R := by rw [e3, Nat.add_comm, Nat.add_mul_mod_self_right, Nat.mod_eq_of_lt e2]
 have eQ : (hi * 18446744073709551616 + lo) / 2147483647 = q1 * 4294967296 + q0 := by rw [e3, Nat.add_comm, Nat.add_mul_div_right _ _ (by decide), Nat.div_eq_of_lt e2, Nat.zero_add]
 have bU : U < 18446744073709551616 := by omega
 have bq1 : q1 < 4294967296 := by omega
 have bq0 : q0 < 4294967296 := by omega
 have bW : W < 18446744073709551616 := by omega
 refine zo Tryz.func102 rfl Tryz.ntmps102 rfl ?_;have LW := erx (No) w;have XLW := grx (No) w;have E := erx (No) w
 refine srx (avx rfl (anx rfl (zb (srx (mvx rfl (za rfl (zx rfl rfl (rnx (zj rfl (zf (zc (zb (srx (mvx rfl (mvx rfl (za rfl (kw rfl rfl (rnx (yc 24 (.bool false) rfl ((by rw [decide_eq_false (by omega)] : (.bool (decide (2147483647 ≤ ((hi : Nat) : Int))) : Value) = _)) (zj rfl (zf (zc (zb (srx (mvx rfl (za rfl (zx rfl rfl (rnx (yh rfl (fun h => ?_) (fun h => ?_))))))))))))))))))))))))))))))
 ·
  have h := beq_iff_eq.1 h;obtain rfl : hi = 0 := by omega
  refine zb ?_;have OY : ∀ q9, (Mut (gy [])) q9 → q9 < (World.drew w).heap.size → (No) q9 := fun k h _ => (Mut.none_) k h;refine qo (No) Mut.none_ [] [] (kq [Fx.of (.int .u64 ((lo : Nat) : Int)),
   Fx.of (.int .u64 2147483647),
   Fx.of (.int .u64 ((lo / 2147483647 : Nat) : Int)),
   Fx.of (.int .u64 ((lo : Nat) : Int)),
   Fx.of (.int .u64 2147483647),
   Fx.of (.int .u64 ((lo % 2147483647 : Nat) : Int)),
   Fx.of (.int .u64 ((lo / 2147483647 : Nat) : Int)),
   Fx.of (.int .u64 ((lo % 2147483647 : Nat) : Int))]) mixed rfl trivial (fun _ h => by cases h) ?_ ?_
  · refine ⟨?_, ?_, ?_, ?_, ?_, ?_, ?_, ?_, trivial⟩
    · intro vs X wq K;exact zi rfl ⟨Below.refl _ _, Left.of rfl⟩
    · intro vs X wq K;exact zi rfl ⟨Below.refl _ _, Left.of rfl⟩
    · intro vs X wq K;obtain ⟨_, e0, k0⟩ := K.dep 0 rfl rfl rfl;refine zd 28 (.int .u64 ((lo : Nat) : Int)) rfl e0 ?_;obtain ⟨_, e1, k1⟩ := K.dep 1 rfl rfl rfl;refine zd 29 (.int .u64 2147483647) rfl e1 ?_;exact ydq (z := ((lo / 2147483647 : Nat) : Int)) rfl rfl (by decide) (quo_nat (n := 2147483647) h2) ⟨Below.refl _ _, Left.of rfl⟩
    · intro vs X wq K;exact zi rfl ⟨Below.refl _ _, Left.of rfl⟩
    · intro vs X wq K;exact zi rfl ⟨Below.refl _ _, Left.of rfl⟩
    · intro vs X wq K;obtain ⟨_, e3, k3⟩ := K.dep 3 rfl rfl rfl;refine zd 31 (.int .u64 ((lo : Nat) : Int)) rfl e3 ?_;obtain ⟨_, e4, k4⟩ := K.dep 4 rfl rfl rfl;refine zd 32 (.int .u64 2147483647) rfl e4 ?_;exact xw (z := ((lo % 2147483647 : Nat) : Int)) rfl rfl (by decide) (yev lo 2147483647) ⟨Below.refl _ _, Left.of rfl⟩
    · intro vs X wq K;obtain ⟨_, e2, k2⟩ := K.dep 2 rfl rfl rfl;refine zd 30 (.int .u64 ((lo / 2147483647 : Nat) : Int)) rfl e2 ?_;exact vc rfl ⟨Below.refl _ _, Left.of rfl⟩
    · intro vs X wq K;obtain ⟨_, e5, k5⟩ := K.dep 5 rfl rfl rfl;refine zd 33 (.int .u64 ((lo % 2147483647 : Nat) : Int)) rfl e5 ?_;exact vc rfl ⟨Below.refl _ _, Left.of rfl⟩
  intro vs w1 LE AO AL AF AA;replace E := E.drew.trans (LE.mono OY);obtain ⟨_, e6, k6⟩ := AL.2.2.2.2.2.2.1;obtain ⟨_, e7, k7⟩ := AL.2.2.2.2.2.2.2.1;refine vj (τ := [(0, _), (1, _), (2, _), (6, .int .u64 ((lo / 2147483647 : Nat) : Int)), (7, .int .u64 ((lo % 2147483647 : Nat) : Int))]) ⟨rfl, rfl, rfl, congrArg some e6, congrArg some e7, trivial⟩ ?_;clear AL AF AA LE AO OY e6 e7 k6 k7
  refine zc (zt (zq (zr (rs := [.tmp 6, .tmp 7]) (vs := [_, _]) rfl ⟨rfl, rfl, trivial⟩ ?_)));exact ⟨by rw [Nat.zero_mul, Nat.zero_add]; rfl, (LW.step E XLW).toBelow⟩
 ·
  refine zf (zc (srx (mvx rfl (za rfl (zg en131 rfl ((rr131_2 _).mono ?_))))));rintro e w2 ⟨rfl, hb⟩;refine ⟨_, rfl, ?_⟩;replace E := blx E hb
  refine za rfl (yx (z := 33) Tryz.underlying144 Tryz.underlying3 rfl (by kernel_rfl) (anx rfl (srx (mvx rfl (mvx rfl (za rfl (qm (z := 18446744065119617024) rfl rfl (by decide) (by kernel_rfl) (anx rfl (srx (mvx rfl (za rfl (qd (z := 4294967294) rfl rfl (by decide) (by kernel_rfl) (anx rfl (srx (mvx rfl (za rfl (vd (z := 0) rfl rfl (by kernel_rfl) (anx rfl (srx (mvx rfl (mvx rfl (za rfl (qm rfl rfl (by decide) (oz hi 33 (by decide)) (zv 46 (.int .u64 ((hi * 8589934592 : Nat) : Int)) rfl ((by rw [ehi] : (.int .u64 ((hi * 2 ^ 33 % 18446744073709551616 : Nat) : Int) : Value) = _)) (mvx rfl (mvx rfl (za rfl (yd (z := 31) rfl rfl (by kernel_rfl) (za rfl (qd rfl rfl (by decide) (ks lo 31 (by decide)) (zv 50 (.int .u64 ((A : Nat) : Int)) rfl ((by rw [eA] : (.int .u64 ((lo / 2 ^ 31 : Nat) : Int) : Value) = _)) (za rfl (kh rfl rfl (gn (by omega) (by omega)) (zv 51 (.int .u64 ((U : Nat) : Int)) rfl ((by rw [eor] : (.int .u64 ((hi * 8589934592 ||| A : Nat) : Int) : Value) = _)) (avx rfl ?_)))))))))))))))))))))))))))))))))))
  refine rnx (srx (mvx rfl (mvx rfl (za rfl (qm rfl rfl (by decide) (oz lo 33 (by decide)) (zv 54 (.int .u64 ((V : Nat) : Int)) rfl ((by rw [eV] : (.int .u64 ((lo * 2 ^ 33 % 18446744073709551616 : Nat) : Int) : Value) = _)) (anx rfl (srx (mvx rfl (za rfl (qd rfl rfl (by decide) (ks V 32 (by decide)) (zv 56 (.int .u64 ((V1 : Nat) : Int)) rfl ((by rw [hV1] : (.int .u64 ((V / 2 ^ 32 : Nat) : Int) : Value) = _)) (anx rfl (srx (mvx rfl (za rfl (vd rfl rfl (kz (n := 4294967295) (by omega) (by decide)) (zv 58 (.int .u64 ((V0 : Nat) : Int)) rfl ((by rw [show V &&& 4294967295 = V % 4294967296 from Nat.and_two_pow_sub_one_eq_mod V 32, hV0] : (.int .u64 ((V &&& 4294967295 : Nat) : Int) : Value) = _)) (anx rfl (srx (mvx rfl (mvx rfl (za rfl (ydq (z := ((U / 4294967294 : Nat) : Int)) rfl rfl (by decide) (quo_nat (n := 4294967294) bU) (zv 61 (.int .u64 ((q1 : Nat) : Int)) rfl ((by rw [hq1] : (.int .u64 ((U / 4294967294 : Nat) : Int) : Value) = _)) (anx rfl (srx (mvx rfl (mvx rfl ?_)))))))))))))))))))))))))))))
  refine mvx rfl (za rfl (qg rfl rfl (wrap_u64 (by omega)) (za rfl (yd rfl rfl (wrap_u64 (by omega)) (anx rfl (zb (zw (kf (zb (srx (mvx rfl (za rfl (qz rfl rfl (mvx rfl (zv 16 (.int .u64 ((r1 : Nat) : Int)) rfl ((by congr 1; omega : (.int .u64 (((U : Nat) : Int) - (((q1 : Nat) : Int) * 4294967294)) : Value) = _)) (zv 69 (.bool false) rfl ((by rw [decide_eq_false (by omega)] : (.bool (decide (4294967296 ≤ ((q1 : Nat) : Int))) : Value) = _)) (onx rfl (zi rfl (onx rfl (zi rfl (onx rfl (qg rfl rfl (wrap_u64 (by omega)) (onx rfl (zi rfl (onx rfl (qg rfl rfl (wrap_u64 (by omega)) (onx rfl (zi rfl (onx rfl (yb rfl rfl (wrap_u64 (by omega)) (onx rfl (qh rfl rfl (za rfl (yi rfl rfl (rnx (yc 78 (.bool false) rfl ((by rw [decide_eq_false (by omega)] : (.bool (decide (((4294967296 * ((r1 : Nat) : Int)) + ((V1 : Nat) : Int)) < (((q1 : Nat) : Int) * 0))) : Value) = _)) (zj rfl (yr (zn (zn (ya (zc (srx (mvx rfl (za rfl (qg rfl rfl (yxq U 4294967296) (mvx rfl ?_)))))))))))))))))))))))))))))))))))))))))))))))
  refine za rfl (yb rfl rfl (add_nat _ V1) (mvx rfl (mvx rfl (za rfl (qg rfl rfl (yxq q1 18446744065119617024) (za rfl (yd (z := ((W : Nat) : Int)) rfl rfl (sub_nat bW (wrap_rest (m := 4294967296) (km hq1 hr1) hW rfl rfl)) (anx rfl (srx (mvx rfl (mvx rfl (za rfl (ydq (z := ((W / 4294967294 : Nat) : Int)) rfl rfl (by decide) (quo_nat (n := 4294967294) bW) (zv 96 (.int .u64 ((q0 : Nat) : Int)) rfl ((by rw [hq0] : (.int .u64 ((W / 4294967294 : Nat) : Int) : Value) = _)) (anx rfl (srx (mvx rfl (mvx rfl (mvx rfl (za rfl (qg rfl rfl (wrap_u64 (by omega)) (za rfl (yd rfl rfl (wrap_u64 (by omega)) (anx rfl (zb (zw (kf (zb (srx (mvx rfl (za rfl (qz rfl rfl (mvx rfl (zv 16 (.int .u64 ((r0 : Nat) : Int)) rfl ((by congr 1; omega : (.int .u64 (((W : Nat) : Int) - (((q0 : Nat) : Int) * 4294967294)) : Value) = _)) (zv 104 (.bool false) rfl ((by rw [decide_eq_false (by omega)] : (.bool (decide (4294967296 ≤ ((q0 : Nat) : Int))) : Value) = _)) (onx rfl (zi rfl (onx rfl (zi rfl ?_)))))))))))))))))))))))))))))))))))))))
  refine onx rfl (qg rfl rfl (wrap_u64 (by omega)) (onx rfl (zi rfl (onx rfl (qg rfl rfl (wrap_u64 (by omega)) (onx rfl (zi rfl (onx rfl (yb rfl rfl (wrap_u64 (by omega)) (onx rfl (qh rfl rfl (za rfl (yi rfl rfl (rnx (yc 113 (.bool false) rfl ((by rw [decide_eq_false (by omega)] : (.bool (decide (((4294967296 * ((r0 : Nat) : Int)) + ((V0 : Nat) : Int)) < (((q0 : Nat) : Int) * 0))) : Value) = _)) (zj rfl (yr (zn (zn (ya (zc (srx (mvx rfl (za rfl (qg rfl rfl (wrap_u64 (by omega)) (mvx rfl (za rfl (yb rfl rfl (wrap_u64 (by omega)) (mvx rfl (zv 124 (.int .u64 ((q1 * 4294967296 + q0 : Nat) : Int)) rfl ((by rw [Int.natCast_add, Int.natCast_mul]; rfl : (.int .u64 ((((q1 : Nat) : Int) * 4294967296) + ((q0 : Nat) : Int)) : Value) = _)) (za rfl (qg rfl rfl (yxq W 4294967296) (mvx rfl (za rfl (yb rfl rfl (add_nat _ V0) (mvx rfl (mvx rfl (za rfl (qg rfl rfl (yxq q0 18446744065119617024) (za rfl (yd (z := ((R * 8589934592 : Nat) : Int)) rfl rfl (sub_nat (Nat.lt_of_lt_of_le (Nat.mul_lt_mul_of_pos_right e2 (by decide)) (by decide)) (wrap_rest (m := 4294967296) (km hq0 hr0) e1.symm rfl rfl)) (mvx rfl (za rfl (qd rfl rfl (by decide) (ks (R * 8589934592) 33 (by decide)) (zv 134 (.int .u64 ((R : Nat) : Int)) rfl ((by rw [show R * 8589934592 / 2 ^ 33 = R from Nat.mul_div_cancel R (show 0 < 8589934592 by decide)] : (.int .u64 ((R * 8589934592 / 2 ^ 33 : Nat) : Int) : Value) = _)) (avx rfl (anx rfl (zt (zr (rs := [.tmp 6, .tmp 7]) (vs := [_, _]) rfl ⟨rfl, rfl, trivial⟩ ?_)))))))))))))))))))))))))))))))))))))))))))))))))
  exact ⟨by rw [eR, eQ]; rfl, (LW.step E XLW).toBelow⟩
theorem yov (hi lo : Nat) (h1 : hi < 18446744073709551616) (h2 : lo < 18446744073709551616) : Calls Tryz.prog 71 #[.int .u64 ((hi : Nat) : Int), .int .u64 ((lo : Nat) : Int), .int .u64 2147483647] w fun e w' => e = .returned (.int .u64 (((hi * 18446744073709551616 + lo) % 2147483647 : Nat) : Int)) ∧ Below w.heap.size w w' := by
 have e : (hi % 2147483647 * 18446744073709551616 + lo) % 2147483647 = (hi * 18446744073709551616 + lo) % 2147483647 := by omega
 have _ := h1;refine zo Tryz.func71 rfl Tryz.ntmps71 rfl ?_;have LW := erx (No) w;have XLW := grx (No) w;have E := erx (No) w
 refine srx (anx rfl (srx (mvx rfl (mvx rfl (za rfl (xw (z := ((hi % 2147483647 : Nat) : Int)) rfl rfl (by decide) (yev hi 2147483647) (mvx rfl (mvx rfl (za rfl (zg en102 rfl ((div64_prime _ (hi % 2147483647) lo (Nat.mod_lt _ (by decide)) h2).mono ?_)))))))))));rintro e w1 ⟨rfl, hb⟩;refine ⟨_, rfl, ?_⟩;replace E := blx E hb
 refine mvx rfl (za rfl (zm rfl rfl (za rfl (zm rfl rfl (avx rfl (anx rfl (srx (mvx rfl (anx rfl (zt (zr (rs := [.tmp 6]) (vs := [_]) rfl ⟨rfl, trivial⟩ ?_)))))))))));exact ⟨by rw [← e]; rfl, (LW.step E XLW).toBelow⟩
end
theorem frF_parts {r : Nat} (hr : r < 9218868437227405312) (h0 : r ≠ 0) : frF r < 9218868437227405312 ∧ frF r ≠ 0 ∧ vl (frF r) = mg (nr r) * 2 ^ 1021 := by
 obtain ⟨m1, m2⟩ := mg_nr h0;obtain ⟨p1, p2⟩ := zmv (e := 1021) m1 m2;have e : frF r = 1021 * 4503599627370496 + mg (nr r) := by rw [frF_pos hr]; omega
 refine ⟨by omega, by omega, ?_⟩;rw [e, vl, p1, p2]
theorem fullQ {r : Nat} (h0 : r ≠ 0) : vl (1074 * 4503599627370496 + mg (nr r)) = mg (nr r) * 2 ^ 1074 ∧ 1074 * 4503599627370496 + mg (nr r) < 9218868437227405312 := by
 obtain ⟨m1, m2⟩ := mg_nr h0;obtain ⟨p1, p2⟩ := zmv (e := 1074) m1 m2;refine ⟨?_, by omega⟩;show mg _ * 2 ^ ex _ = _
 rewrite [p1, p2]; rfl
def zjx (W : World) (base : Nat) (key : Option Nat) (n : Nat) (xs : List Value) (e : Ending) (w' : World) : Prop :=
 ∃ A c, e = .returned (.slice A n c) ∧ w'.ownsRow base 5 1 (.slice A n c) n xs ∧ Ext (Mut [key]) W w' ∧ ∀ q, (Value.slice A n c).ownBlock = some q → key = some q ∨ W.heap.size ≤ q
theorem yuz {r r' : Option Nat} {n : Nat} (h : ∀ q, Mut [r'] q → Mut [r] q ∨ n ≤ q) : ∀ q, r' = some q → r = some q ∨ n ≤ q := fun q e => (h q (Or.inl e.symm)).imp (fun h => h.elim (fun e => e.symm) (fun e => e.elim)) id
section
variable (w : World) (base : Nat) (A : Option Addr) (c : Nat) (HB : base ≤ w.heap.size) (ho : w.ownsRow base 5 1 (.slice A 0 c) 0 [])
include HB ho
theorem efg_ze : Calls Tryz.prog 154 #[.slice A 0 c, .bool true, .slice none 0 0, .int .i64 0, .int .i64 0, .int .i64 (-1), .int .u8 101, .bool true] w (zjx w base (Value.slice A 0 c).ownBlock 6 [.int .u8 45, .int .u8 48, .int .u8 101, .int .u8 43, .int .u8 48, .int .u8 48]) := by
 refine zo Tryz.func154 rfl Tryz.ntmps154 rfl ?_;have Odst : World.ownsRow w base 5 1 (.slice A 0 c) 0 ([]) := ho;have HF : Per (Mut [((Value.slice A 0 c).ownBlock)]) w (fun _ => True) := Per.true_;have LW := erx (Mut [((Value.slice A 0 c).ownBlock)]) w;have XLW := grx (Mut [((Value.slice A 0 c).ownBlock)]) w;have E := erx (Mut [((Value.slice A 0 c).ownBlock)]) w
 refine srx (anx rfl (zb (srx (mvx rfl (za rfl (zx rfl rfl (mvx rfl (onx rfl (zi rfl (onx rfl (zx rfl rfl (za rfl (yi rfl rfl (rnx (zj rfl (zf (zc (zb (srx (mvx rfl (rnx (zw (zb (srx (za rfl (zx rfl rfl (anx rfl (zz rfl (zf (zc (zz rfl (zb (srx ?_)))))))))))))))))))))))))))))))))
 refine mvx rfl (rnx (zz rfl (zh (mvx rfl (za rfl (vn (cs := #[.int .u8 45]) Tryz.underlying97 sz5 zr5 (by decide) rfl (by rw [jx]; rfl) ?_))))));intro gb1 w2 Bb1 Eb1 Gb1;have Db1_dst : Apart (some gb1) ((Value.slice A 0 c).ownBlock) := Apart.of_lt (jr Odst) Gb1;have Ddst_b1 := Db1_dst.symm;have Gb1 : _ ≤ gb1 := Nat.le_trans E.size Gb1
 have GLb1 := Nat.le_trans LW.size Gb1;replace Odst := qp Odst Eb1 NotIn.nil;replace E := E.trans Eb1.no;replace HF := HF.cons (ye Gb1);replace E := E.cons (some gb1);replace XLW := Mut.grow XLW (fun k e => Or.inr (Nat.le_trans LW.size ((ye Gb1) k e)));replace HF := HF.on E;replace LW := LW.step E XLW
 have SB : ∀ q9, Mut [((Value.slice A 0 c).ownBlock)] q9 → Mut [(some gb1), ((Value.slice A 0 c).ownBlock)] q9 := (Mut.skip (Mut.keep Mut.nil_));replace HF := HF.less SB;replace XLW := fun k h => XLW k (SB k h);clear SB;replace E := erx (Mut [((Value.slice A 0 c).ownBlock)]) w2;replace HF := HF.and (Per.blkN Bb1 (NotIn.cons Db1_dst NotIn.nil))
 refine za rfl (gj (news := [.int .u8 45]) Tryz.underlying97 yaz rfl (by decide) rfl Odst rfl (gi (HF.on E).here.2 ((HF.on E).here.2).lt rfl) (by simp [Value.oneCell']) (by unfold maxLen; omega) (by omega) (by exact Nat.le_trans HB (Nat.le_trans LW.size E.size)) ?_);intro v0 w4 On En KN;obtain ⟨Aq3, cq3, rfl⟩ := jw On
 replace KN : ∀ q9, ((Value.slice Aq3 1 cq3).ownBlock) = some q9 → ((Value.slice A 0 c).ownBlock) = some q9 ∨ w2.heap.size ≤ q9 := KN;have HY : Gro (Mut [((Value.slice Aq3 1 cq3).ownBlock)]) (Mut [((Value.slice A 0 c).ownBlock)]) w2 := (Mut.grow Mut.none_ (fun k e => (KN k e).elim (fun e => Or.inl (Mut.head k e)) (fun h => Or.inr (Nat.le_trans E.size h))));replace E := E.step1 En Mut.head
 replace HF := HF.turn E HY;have XT := fun q9 (h : (Mut [((Value.slice Aq3 1 cq3).ownBlock)]) q9) => (HY q9 h).elim (XLW q9) (fun h => Or.inr (Nat.le_trans LW.size h));replace LW := LW.step E XLW;replace XLW := XT;replace E := erx (Mut [((Value.slice Aq3 1 cq3).ownBlock)]) w4;clear HY;replace Odst : World.ownsRow w4 base 5 1 (.slice Aq3 1 cq3) 1 ([.int .u8 45]) := by
  have e : (([]) : List Value) ++ ([.int .u8 45] : List Value) = [.int .u8 45] := rfl;rw [← e];exact On
 clear On KN En;refine anx rfl (srx (anx rfl (zb (srx (mvx rfl (za rfl (vw rfl rfl (rnx (zj rfl (zf (zc (srx (mvx rfl (mvx rfl (za rfl (vn (cs := #[.int .u8 48]) Tryz.underlying97 sz5 zr5 (by decide) rfl (by rw [jx]; rfl) ?_))))))))))))))));intro gb5 w6 Bb5 Eb5 Gb5
 have Db5_dst : Apart (some gb5) ((Value.slice Aq3 1 cq3).ownBlock) := Apart.of_lt (jr Odst) Gb5;have Ddst_b5 := Db5_dst.symm;have Gb5 : _ ≤ gb5 := Nat.le_trans E.size Gb5;have GLb5 := Nat.le_trans LW.size Gb5;replace Odst := qp Odst Eb5 NotIn.nil;replace E := E.trans Eb5.no;replace HF := HF.cons (ye Gb5);replace E := E.cons (some gb5)
 replace XLW := Mut.grow XLW (fun k e => Or.inr (Nat.le_trans LW.size ((ye Gb5) k e)));replace HF := HF.on E;replace LW := LW.step E XLW;have SB : ∀ q9, Mut [((Value.slice Aq3 1 cq3).ownBlock)] q9 → Mut [(some gb5), ((Value.slice Aq3 1 cq3).ownBlock)] q9 := (Mut.skip (Mut.keep Mut.nil_));replace HF := HF.less SB;replace XLW := fun k h => XLW k (SB k h);clear SB
 replace E := erx (Mut [((Value.slice Aq3 1 cq3).ownBlock)]) w6;replace HF := HF.and (Per.blkN Bb5 (NotIn.cons Db5_dst NotIn.nil))
 refine za rfl (gj (news := [.int .u8 48]) Tryz.underlying97 yaz rfl (by decide) rfl Odst rfl (gi (HF.on E).here.2 ((HF.on E).here.2).lt rfl) (by simp [Value.oneCell']) (by unfold maxLen; omega) (by omega) (by exact Nat.le_trans HB (Nat.le_trans LW.size E.size)) ?_);intro v0 w8 On En KN;obtain ⟨Aq7, cq7, rfl⟩ := jw On
 replace KN : ∀ q9, ((Value.slice Aq7 2 cq7).ownBlock) = some q9 → ((Value.slice Aq3 1 cq3).ownBlock) = some q9 ∨ w6.heap.size ≤ q9 := KN;have HY : Gro (Mut [((Value.slice Aq7 2 cq7).ownBlock)]) (Mut [((Value.slice Aq3 1 cq3).ownBlock)]) w6 := (Mut.grow Mut.none_ (fun k e => (KN k e).elim (fun e => Or.inl (Mut.head k e)) (fun h => Or.inr (Nat.le_trans E.size h))));replace E := E.step1 En Mut.head
 replace HF := HF.turn E HY;have XT := fun q9 (h : (Mut [((Value.slice Aq7 2 cq7).ownBlock)]) q9) => (HY q9 h).elim (XLW q9) (fun h => Or.inr (Nat.le_trans LW.size h));replace LW := LW.step E XLW;replace XLW := XT;replace E := erx (Mut [((Value.slice Aq7 2 cq7).ownBlock)]) w8;clear HY;replace Odst : World.ownsRow w8 base 5 1 (.slice Aq7 2 cq7) 2 ([.int .u8 45, .int .u8 48]) := by
  have e : (([.int .u8 45]) : List Value) ++ ([.int .u8 48] : List Value) = [.int .u8 45, .int .u8 48] := rfl;rw [← e];exact On
 clear On KN En;refine anx rfl (zb (srx (mvx rfl (za rfl (qh rfl rfl (rnx (zj rfl (zf (zc (srx (mvx rfl (mvx rfl (za rfl (vn (cs := #[.int .u8 101]) Tryz.underlying97 sz5 zr5 (by decide) rfl (by rw [jx]; rfl) ?_))))))))))))));intro gb9 w10 Bb9 Eb9 Gb9
 have Db9_dst : Apart (some gb9) ((Value.slice Aq7 2 cq7).ownBlock) := Apart.of_lt (jr Odst) Gb9;have Ddst_b9 := Db9_dst.symm;have Gb9 : _ ≤ gb9 := Nat.le_trans E.size Gb9;have GLb9 := Nat.le_trans LW.size Gb9;replace Odst := qp Odst Eb9 NotIn.nil;replace E := E.trans Eb9.no;replace HF := HF.cons (ye Gb9);replace E := E.cons (some gb9)
 replace XLW := Mut.grow XLW (fun k e => Or.inr (Nat.le_trans LW.size ((ye Gb9) k e)));replace HF := HF.on E;replace LW := LW.step E XLW;have SB : ∀ q9, Mut [((Value.slice Aq7 2 cq7).ownBlock)] q9 → Mut [(some gb9), ((Value.slice Aq7 2 cq7).ownBlock)] q9 := (Mut.skip (Mut.keep Mut.nil_));replace HF := HF.less SB;replace XLW := fun k h => XLW k (SB k h);clear SB
 replace E := erx (Mut [((Value.slice Aq7 2 cq7).ownBlock)]) w10;replace HF := HF.and (Per.blkN Bb9 (NotIn.cons Db9_dst NotIn.nil))
 refine za rfl (gj (news := [.int .u8 101]) Tryz.underlying97 yaz rfl (by decide) rfl Odst rfl (gi (HF.on E).here.2 ((HF.on E).here.2).lt rfl) (by simp [Value.oneCell']) (by unfold maxLen; omega) (by omega) (by exact Nat.le_trans HB (Nat.le_trans LW.size E.size)) ?_);intro v0 w12 On En KN;obtain ⟨Aq11, cq11, rfl⟩ := jw On
 replace KN : ∀ q9, ((Value.slice Aq11 3 cq11).ownBlock) = some q9 → ((Value.slice Aq7 2 cq7).ownBlock) = some q9 ∨ w10.heap.size ≤ q9 := KN;have HY : Gro (Mut [((Value.slice Aq11 3 cq11).ownBlock)]) (Mut [((Value.slice Aq7 2 cq7).ownBlock)]) w10 := (Mut.grow Mut.none_ (fun k e => (KN k e).elim (fun e => Or.inl (Mut.head k e)) (fun h => Or.inr (Nat.le_trans E.size h))))
 replace E := E.step1 En Mut.head;replace HF := HF.turn E HY;have XT := fun q9 (h : (Mut [((Value.slice Aq11 3 cq11).ownBlock)]) q9) => (HY q9 h).elim (XLW q9) (fun h => Or.inr (Nat.le_trans LW.size h));replace LW := LW.step E XLW;replace XLW := XT;replace E := erx (Mut [((Value.slice Aq11 3 cq11).ownBlock)]) w12;clear HY
 replace Odst : World.ownsRow w12 base 5 1 (.slice Aq11 3 cq11) 3 ([.int .u8 45, .int .u8 48, .int .u8 101]) := by
  have e : (([.int .u8 45, .int .u8 48]) : List Value) ++ ([.int .u8 101] : List Value) = [.int .u8 45, .int .u8 48, .int .u8 101] := rfl;rw [← e];exact On
 clear On KN En
 refine anx rfl (srx (mvx rfl (za rfl (yd (z := (-1)) rfl rfl (by kernel_rfl) (anx rfl (zb (srx (mvx rfl (za rfl (zx rfl rfl (rnx (zz rfl (zh (anx rfl (zb (srx (mvx rfl (za rfl (yp rfl rfl (rnx (zj rfl (zh (anx rfl (srx (mvx rfl (mvx rfl (za rfl (vn (cs := #[.int .u8 43]) Tryz.underlying97 sz5 zr5 (by decide) rfl (by rw [jx]; rfl) ?_))))))))))))))))))))))))))))
 intro gb13 w14 Bb13 Eb13 Gb13;have Db13_dst : Apart (some gb13) ((Value.slice Aq11 3 cq11).ownBlock) := Apart.of_lt (jr Odst) Gb13;have Ddst_b13 := Db13_dst.symm;have Gb13 : _ ≤ gb13 := Nat.le_trans E.size Gb13;have GLb13 := Nat.le_trans LW.size Gb13;replace Odst := qp Odst Eb13 NotIn.nil;replace E := E.trans Eb13.no;replace HF := HF.cons (ye Gb13)
 replace E := E.cons (some gb13);replace XLW := Mut.grow XLW (fun k e => Or.inr (Nat.le_trans LW.size ((ye Gb13) k e)));replace HF := HF.on E;replace LW := LW.step E XLW;have SB : ∀ q9, Mut [((Value.slice Aq11 3 cq11).ownBlock)] q9 → Mut [(some gb13), ((Value.slice Aq11 3 cq11).ownBlock)] q9 := (Mut.skip (Mut.keep Mut.nil_));replace HF := HF.less SB;replace XLW := fun k h => XLW k (SB k h)
 clear SB;replace E := erx (Mut [((Value.slice Aq11 3 cq11).ownBlock)]) w14;replace HF := HF.and (Per.blkN Bb13 (NotIn.cons Db13_dst NotIn.nil))
 refine za rfl (gj (news := [.int .u8 43]) Tryz.underlying97 yaz rfl (by decide) rfl Odst rfl (gi (HF.on E).here.2 ((HF.on E).here.2).lt rfl) (by simp [Value.oneCell']) (by unfold maxLen; omega) (by omega) (by exact Nat.le_trans HB (Nat.le_trans LW.size E.size)) ?_);intro v0 w16 On En KN;obtain ⟨Aq15, cq15, rfl⟩ := jw On
 replace KN : ∀ q9, ((Value.slice Aq15 4 cq15).ownBlock) = some q9 → ((Value.slice Aq11 3 cq11).ownBlock) = some q9 ∨ w14.heap.size ≤ q9 := KN;have HY : Gro (Mut [((Value.slice Aq15 4 cq15).ownBlock)]) (Mut [((Value.slice Aq11 3 cq11).ownBlock)]) w14 := (Mut.grow Mut.none_ (fun k e => (KN k e).elim (fun e => Or.inl (Mut.head k e)) (fun h => Or.inr (Nat.le_trans E.size h))))
 replace E := E.step1 En Mut.head;replace HF := HF.turn E HY;have XT := fun q9 (h : (Mut [((Value.slice Aq15 4 cq15).ownBlock)]) q9) => (HY q9 h).elim (XLW q9) (fun h => Or.inr (Nat.le_trans LW.size h));replace LW := LW.step E XLW;replace XLW := XT;replace E := erx (Mut [((Value.slice Aq15 4 cq15).ownBlock)]) w16;clear HY
 replace Odst : World.ownsRow w16 base 5 1 (.slice Aq15 4 cq15) 4 ([.int .u8 45, .int .u8 48, .int .u8 101, .int .u8 43]) := by
  have e : (([.int .u8 45, .int .u8 48, .int .u8 101]) : List Value) ++ ([.int .u8 43] : List Value) = [.int .u8 45, .int .u8 48, .int .u8 101, .int .u8 43] := rfl;rw [← e];exact On
 clear On KN En
 refine anx rfl (zb (zw (srx (mvx rfl (za rfl (yp rfl rfl (anx rfl (zz rfl (zh (mvx rfl (mvx rfl (za rfl (yx (z := 0) Tryz.underlying5 Tryz.underlying3 rfl (by kernel_rfl) (za rfl (yb (z := 48) rfl rfl (by kernel_rfl) (za rfl (vn (cs := #[.int .u8 48, .int .u8 48]) Tryz.underlying97 sz5 zr5 (by decide) rfl (by rw [jx]; rfl) ?_)))))))))))))))))
 intro gb17 w18 Bb17 Eb17 Gb17;have Db17_dst : Apart (some gb17) ((Value.slice Aq15 4 cq15).ownBlock) := Apart.of_lt (jr Odst) Gb17;have Ddst_b17 := Db17_dst.symm;have Gb17 : _ ≤ gb17 := Nat.le_trans E.size Gb17;have GLb17 := Nat.le_trans LW.size Gb17;replace Odst := qp Odst Eb17 NotIn.nil;replace E := E.trans Eb17.no;replace HF := HF.cons (ye Gb17)
 replace E := E.cons (some gb17);replace XLW := Mut.grow XLW (fun k e => Or.inr (Nat.le_trans LW.size ((ye Gb17) k e)));replace HF := HF.on E;replace LW := LW.step E XLW;have SB : ∀ q9, Mut [((Value.slice Aq15 4 cq15).ownBlock)] q9 → Mut [(some gb17), ((Value.slice Aq15 4 cq15).ownBlock)] q9 := (Mut.skip (Mut.keep Mut.nil_));replace HF := HF.less SB;replace XLW := fun k h => XLW k (SB k h)
 clear SB;replace E := erx (Mut [((Value.slice Aq15 4 cq15).ownBlock)]) w18;replace HF := HF.and (Per.blkN Bb17 (NotIn.cons Db17_dst NotIn.nil))
 refine za rfl (gj (news := [.int .u8 48, .int .u8 48]) Tryz.underlying97 yaz rfl (by decide) rfl Odst rfl (gi (HF.on E).here.2 ((HF.on E).here.2).lt rfl) (by simp [Value.oneCell']) (by unfold maxLen; omega) (by omega) (by exact Nat.le_trans HB (Nat.le_trans LW.size E.size)) ?_);intro v0 w20 On En KN;obtain ⟨Aq19, cq19, rfl⟩ := jw On
 replace KN : ∀ q9, ((Value.slice Aq19 6 cq19).ownBlock) = some q9 → ((Value.slice Aq15 4 cq15).ownBlock) = some q9 ∨ w18.heap.size ≤ q9 := KN;have HY : Gro (Mut [((Value.slice Aq19 6 cq19).ownBlock)]) (Mut [((Value.slice Aq15 4 cq15).ownBlock)]) w18 := (Mut.grow Mut.none_ (fun k e => (KN k e).elim (fun e => Or.inl (Mut.head k e)) (fun h => Or.inr (Nat.le_trans E.size h))))
 replace E := E.step1 En Mut.head;have XT := fun q9 (h : (Mut [((Value.slice Aq19 6 cq19).ownBlock)]) q9) => (HY q9 h).elim (XLW q9) (fun h => Or.inr (Nat.le_trans LW.size h));replace LW := LW.step E XLW;replace XLW := XT;replace E := erx (Mut [((Value.slice Aq19 6 cq19).ownBlock)]) w20;clear HY
 replace Odst : World.ownsRow w20 base 5 1 (.slice Aq19 6 cq19) 6 ([.int .u8 45, .int .u8 48, .int .u8 101, .int .u8 43, .int .u8 48, .int .u8 48]) := by
  have e : (([.int .u8 45, .int .u8 48, .int .u8 101, .int .u8 43]) : List Value) ++ ([.int .u8 48, .int .u8 48] : List Value) = [.int .u8 45, .int .u8 48, .int .u8 101, .int .u8 43, .int .u8 48, .int .u8 48] := rfl;rw [← e];exact On
 clear On KN En;refine avx rfl (yg (zl (zc (srx (mvx rfl (anx rfl (zt (yo (zq (zr (rs := [.tmp 16]) (vs := [_]) rfl ⟨rfl, trivial⟩ ?_))))))))));exact ⟨_, _, rfl, Odst, (LW.step E XLW), yuz XLW⟩
theorem efg_zf : Calls Tryz.prog 154 #[.slice A 0 c, .bool true, .slice none 0 0, .int .i64 0, .int .i64 0, .int .i64 (-1), .int .u8 102, .bool true] w (zjx w base (Value.slice A 0 c).ownBlock 2 [.int .u8 45, .int .u8 48]) := by
 refine zo Tryz.func154 rfl Tryz.ntmps154 rfl ?_;have Odst : World.ownsRow w base 5 1 (.slice A 0 c) 0 ([]) := ho;have HF : Per (Mut [((Value.slice A 0 c).ownBlock)]) w (fun _ => True) := Per.true_;have LW := erx (Mut [((Value.slice A 0 c).ownBlock)]) w;have XLW := grx (Mut [((Value.slice A 0 c).ownBlock)]) w;have E := erx (Mut [((Value.slice A 0 c).ownBlock)]) w
 refine srx (anx rfl (zb (srx (mvx rfl (za rfl (zx rfl rfl (mvx rfl (onx rfl (zi rfl (onx rfl (zx rfl rfl (za rfl (yi rfl rfl (rnx (zj rfl (zf (zc (zb (srx (mvx rfl (rnx (zw (zb (srx (za rfl (zx rfl rfl (anx rfl (zj rfl (zh (za rfl (zx rfl rfl (anx rfl (zj rfl ?_)))))))))))))))))))))))))))))))))
 refine srx (za rfl (zx rfl rfl (anx rfl (zz rfl (zb (srx (mvx rfl (rnx (zz rfl (zh (mvx rfl (za rfl (vn (cs := #[.int .u8 45]) Tryz.underlying97 sz5 zr5 (by decide) rfl (by rw [jx]; rfl) ?_)))))))))))));intro gb1 w2 Bb1 Eb1 Gb1;have Db1_dst : Apart (some gb1) ((Value.slice A 0 c).ownBlock) := Apart.of_lt (jr Odst) Gb1
 have Ddst_b1 := Db1_dst.symm;have Gb1 : _ ≤ gb1 := Nat.le_trans E.size Gb1;have GLb1 := Nat.le_trans LW.size Gb1;replace Odst := qp Odst Eb1 NotIn.nil;replace E := E.trans Eb1.no;replace HF := HF.cons (ye Gb1);replace E := E.cons (some gb1);replace XLW := Mut.grow XLW (fun k e => Or.inr (Nat.le_trans LW.size ((ye Gb1) k e)));replace HF := HF.on E;replace LW := LW.step E XLW
 have SB : ∀ q9, Mut [((Value.slice A 0 c).ownBlock)] q9 → Mut [(some gb1), ((Value.slice A 0 c).ownBlock)] q9 := (Mut.skip (Mut.keep Mut.nil_));replace HF := HF.less SB;replace XLW := fun k h => XLW k (SB k h);clear SB;replace E := erx (Mut [((Value.slice A 0 c).ownBlock)]) w2;replace HF := HF.and (Per.blkN Bb1 (NotIn.cons Db1_dst NotIn.nil))
 refine za rfl (gj (news := [.int .u8 45]) Tryz.underlying97 yaz rfl (by decide) rfl Odst rfl (gi (HF.on E).here.2 ((HF.on E).here.2).lt rfl) (by simp [Value.oneCell']) (by unfold maxLen; omega) (by omega) (by exact Nat.le_trans HB (Nat.le_trans LW.size E.size)) ?_);intro v0 w4 On En KN;obtain ⟨Aq3, cq3, rfl⟩ := jw On
 replace KN : ∀ q9, ((Value.slice Aq3 1 cq3).ownBlock) = some q9 → ((Value.slice A 0 c).ownBlock) = some q9 ∨ w2.heap.size ≤ q9 := KN;have HY : Gro (Mut [((Value.slice Aq3 1 cq3).ownBlock)]) (Mut [((Value.slice A 0 c).ownBlock)]) w2 := (Mut.grow Mut.none_ (fun k e => (KN k e).elim (fun e => Or.inl (Mut.head k e)) (fun h => Or.inr (Nat.le_trans E.size h))));replace E := E.step1 En Mut.head
 replace HF := HF.turn E HY;have XT := fun q9 (h : (Mut [((Value.slice Aq3 1 cq3).ownBlock)]) q9) => (HY q9 h).elim (XLW q9) (fun h => Or.inr (Nat.le_trans LW.size h));replace LW := LW.step E XLW;replace XLW := XT;replace E := erx (Mut [((Value.slice Aq3 1 cq3).ownBlock)]) w4;clear HY;replace Odst : World.ownsRow w4 base 5 1 (.slice Aq3 1 cq3) 1 ([.int .u8 45]) := by
  have e : (([]) : List Value) ++ ([.int .u8 45] : List Value) = [.int .u8 45] := rfl;rw [← e];exact On
 clear On KN En;refine anx rfl (zb (srx (mvx rfl (za rfl (qh rfl rfl (rnx (zj rfl (zh (mvx rfl (za rfl (vn (cs := #[.int .u8 48]) Tryz.underlying97 sz5 zr5 (by decide) rfl (by rw [jx]; rfl) ?_)))))))))));intro gb5 w6 Bb5 Eb5 Gb5;have Db5_dst : Apart (some gb5) ((Value.slice Aq3 1 cq3).ownBlock) := Apart.of_lt (jr Odst) Gb5
 have Ddst_b5 := Db5_dst.symm;have Gb5 : _ ≤ gb5 := Nat.le_trans E.size Gb5;have GLb5 := Nat.le_trans LW.size Gb5;replace Odst := qp Odst Eb5 NotIn.nil;replace E := E.trans Eb5.no;replace HF := HF.cons (ye Gb5);replace E := E.cons (some gb5);replace XLW := Mut.grow XLW (fun k e => Or.inr (Nat.le_trans LW.size ((ye Gb5) k e)));replace HF := HF.on E;replace LW := LW.step E XLW
 have SB : ∀ q9, Mut [((Value.slice Aq3 1 cq3).ownBlock)] q9 → Mut [(some gb5), ((Value.slice Aq3 1 cq3).ownBlock)] q9 := (Mut.skip (Mut.keep Mut.nil_));replace HF := HF.less SB;replace XLW := fun k h => XLW k (SB k h);clear SB;replace E := erx (Mut [((Value.slice Aq3 1 cq3).ownBlock)]) w6;replace HF := HF.and (Per.blkN Bb5 (NotIn.cons Db5_dst NotIn.nil))
 refine za rfl (gj (news := [.int .u8 48]) Tryz.underlying97 yaz rfl (by decide) rfl Odst rfl (gi (HF.on E).here.2 ((HF.on E).here.2).lt rfl) (by simp [Value.oneCell']) (by unfold maxLen; omega) (by omega) (by exact Nat.le_trans HB (Nat.le_trans LW.size E.size)) ?_);intro v0 w8 On En KN;obtain ⟨Aq7, cq7, rfl⟩ := jw On
 replace KN : ∀ q9, ((Value.slice Aq7 2 cq7).ownBlock) = some q9 → ((Value.slice Aq3 1 cq3).ownBlock) = some q9 ∨ w6.heap.size ≤ q9 := KN;have HY : Gro (Mut [((Value.slice Aq7 2 cq7).ownBlock)]) (Mut [((Value.slice Aq3 1 cq3).ownBlock)]) w6 := (Mut.grow Mut.none_ (fun k e => (KN k e).elim (fun e => Or.inl (Mut.head k e)) (fun h => Or.inr (Nat.le_trans E.size h))));replace E := E.step1 En Mut.head
 have XT := fun q9 (h : (Mut [((Value.slice Aq7 2 cq7).ownBlock)]) q9) => (HY q9 h).elim (XLW q9) (fun h => Or.inr (Nat.le_trans LW.size h));replace LW := LW.step E XLW;replace XLW := XT;replace E := erx (Mut [((Value.slice Aq7 2 cq7).ownBlock)]) w8;clear HY;replace Odst : World.ownsRow w8 base 5 1 (.slice Aq7 2 cq7) 2 ([.int .u8 45, .int .u8 48]) := by
  have e : (([.int .u8 45]) : List Value) ++ ([.int .u8 48] : List Value) = [.int .u8 45, .int .u8 48] := rfl;rw [← e];exact On
 clear On KN En;refine anx rfl (zb (srx (mvx rfl (za rfl (qh rfl rfl (rnx (zj rfl (zf (zc (srx (mvx rfl (anx rfl (zt (yo (zq (zr (rs := [.tmp 16]) (vs := [_]) rfl ⟨rfl, trivial⟩ ?_))))))))))))))));exact ⟨_, _, rfl, Odst, (LW.step E XLW), yuz XLW⟩
theorem ftoa_ze : Calls Tryz.prog 124 #[.slice A 0 c, .float .f64 9223372036854775808, .int .u8 101, .int .i64 (-1)] w (zjx w base (Value.slice A 0 c).ownBlock 6 [.int .u8 45, .int .u8 48, .int .u8 101, .int .u8 43, .int .u8 48, .int .u8 48]) := by
 refine zo Tryz.func124 rfl Tryz.ntmps124 rfl ?_;have Odst : World.ownsRow w base 5 1 (.slice A 0 c) 0 ([]) := ho;have LW := erx (Mut [((Value.slice A 0 c).ownBlock)]) w;have XLW := grx (Mut [((Value.slice A 0 c).ownBlock)]) w;have E := erx (Mut [((Value.slice A 0 c).ownBlock)]) w
 refine srx (anx rfl (srx (anx rfl (srx (avx rfl (avx rfl (anx rfl (zb (zw (srx (za rfl (zx rfl rfl (anx rfl (zj rfl (srx (za rfl (zx rfl rfl (anx rfl (zz rfl (srx (mvx rfl (za rfl (ka ex151 rfl (anx rfl ?_))))))))))))))))))))))))
 refine srx (anx rfl (srx (anx rfl (zh (avx rfl (yg (zl (zc (srx (mvx rfl (mvx rfl (mvx rfl (za rfl (yb (z := 63) rfl rfl (by kernel_rfl) (za rfl (qd (z := 1) rfl rfl (by decide) (by kernel_rfl) (za rfl (vw rfl rfl (anx rfl (zb ?_))))))))))))))))))))
 have OY : ∀ q9, (Mut (gy [])) q9 → q9 < (World.drew w).heap.size → (Mut [((Value.slice A 0 c).ownBlock)]) q9 := fun k h _ => (Mut.none_) k h;refine qo (Mut [((Value.slice A 0 c).ownBlock)]) (Mut.grow Mut.none_ (jr Odst)) [] [] (kq [Fx.of (.int .u64 9223372036854775808),
  Fx.of (.int .i64 52),
  Fx.of (.int .u64 2048),
  Fx.of (.int .i64 2048),
  Fx.of (.int .i64 11),
  Fx.of (.int .i64 2048),
  Fx.of (.int .i64 2047),
  Fx.of (.int .i64 0),
  Fx.of (.int .i64 0)]) mixed rfl trivial (fun _ h => by cases h) ?_ ?_
 · refine ⟨?_, ?_, ?_, ?_, ?_, ?_, ?_, ?_, ?_, trivial⟩
   · intro vs X wq K;exact zi rfl ⟨Below.refl _ _, Left.of rfl⟩
   · intro vs X wq K;exact zi rfl ⟨Below.refl _ _, Left.of rfl⟩
   · intro vs X wq K;obtain ⟨_, e0, k0⟩ := K.dep 0 rfl rfl rfl;refine zd 50 (.int .u64 9223372036854775808) rfl e0 ?_;obtain ⟨_, e1, k1⟩ := K.dep 1 rfl rfl rfl;refine zd 51 (.int .i64 52) rfl e1 ?_;exact qd (z := 2048) rfl rfl (by decide) (by kernel_rfl) ⟨Below.refl _ _, Left.of rfl⟩
   · intro vs X wq K;obtain ⟨_, e2, k2⟩ := K.dep 2 rfl rfl rfl;refine zd 52 (.int .u64 2048) rfl e2 ?_;exact yx (z := 2048) Tryz.underlying3 Tryz.underlying32 rfl (by kernel_rfl) ⟨Below.refl _ _, Left.of rfl⟩
   · intro vs X wq K;exact zi rfl ⟨Below.refl _ _, Left.of rfl⟩
   · intro vs X wq K;obtain ⟨_, e4, k4⟩ := K.dep 4 rfl rfl rfl;refine zd 54 (.int .i64 11) rfl e4 ?_;exact qm (z := 2048) rfl rfl (by decide) (by kernel_rfl) ⟨Below.refl _ _, Left.of rfl⟩
   · intro vs X wq K;obtain ⟨_, e5, k5⟩ := K.dep 5 rfl rfl rfl;refine zd 55 (.int .i64 2048) rfl e5 ?_;exact yd (z := 2047) rfl rfl (by kernel_rfl) ⟨Below.refl _ _, Left.of rfl⟩
   · intro vs X wq K;obtain ⟨_, e3, k3⟩ := K.dep 3 rfl rfl rfl;refine zd 53 (.int .i64 2048) rfl e3 ?_;obtain ⟨_, e6, k6⟩ := K.dep 6 rfl rfl rfl;refine zd 56 (.int .i64 2047) rfl e6 ?_;exact vd (z := 0) rfl rfl (by kernel_rfl) ⟨Below.refl _ _, Left.of rfl⟩
   · intro vs X wq K;obtain ⟨_, e7, k7⟩ := K.dep 7 rfl rfl rfl;refine zd 57 (.int .i64 0) rfl e7 ?_;exact vc rfl ⟨Below.refl _ _, Left.of rfl⟩
 intro vs w1 LE AO AL AF AA;have LOdst := Odst;replace Odst := qp (w := World.drew _) Odst LE NotIn.nil;replace E := E.drew.trans (LE.mono OY);obtain ⟨_, e8, k8⟩ := AL.2.2.2.2.2.2.2.2.1;refine vj (τ := [(0, _), (2, _), (3, _), (8, _), (9, _), (10, _), (11, _), (12, _), (13, _), (14, .int .i64 0)]) ⟨rfl, rfl, rfl, rfl, rfl, rfl, rfl, rfl, rfl, congrArg some e8, trivial⟩ ?_
 clear AL AF AA LE AO OY e8 k8 LOdst
 refine zc (srx (mvx rfl (mvx rfl (za rfl (qm (z := 4503599627370496) rfl rfl (by decide) (by kernel_rfl) (za rfl (yd (z := 4503599627370495) rfl rfl (by kernel_rfl) (za rfl (vd (z := 0) rfl rfl (by kernel_rfl) (anx rfl (zb (srx (mvx rfl (mvx rfl (za rfl (qm (z := 2048) rfl rfl (by decide) (by kernel_rfl) (za rfl (yd (z := 2047) rfl rfl (by kernel_rfl) (za rfl (zx rfl rfl (rnx (zj rfl (zf (zc (zb (srx (mvx rfl (za rfl (zx rfl rfl (rnx (zz rfl (zh (mvx rfl (za rfl (yb (z := 1) rfl rfl (by kernel_rfl) (anx rfl (srx ?_)))))))))))))))))))))))))))))))))))))
 refine mvx rfl (mvx rfl (za rfl (yb (z := (-1022)) rfl rfl (by kernel_rfl) (anx rfl (zb (srx (mvx rfl (za rfl (zx rfl rfl (rnx (zj rfl (zf (zc (zb (srx (mvx rfl (za rfl (zx rfl rfl (mvx rfl (onx rfl (zi rfl (onx rfl (zx rfl rfl (za rfl (yi rfl rfl (rnx (zj rfl (zf (zc (zb (srx (mvx rfl (za rfl (zx rfl rfl (rnx (zz rfl (srx ?_)))))))))))))))))))))))))))))))))))))
 refine mvx rfl (mvx rfl (mvx rfl (mvx rfl (mvx rfl (za rfl (yp rfl rfl (za rfl (zg en154 rfl ((efg_ze _ base A c (Nat.le_trans HB (Nat.le_trans LW.size E.size)) Odst).mono ?_)))))))));rintro e w2 ⟨A1, c1, rfl, On, En, KN⟩;refine ⟨_, rfl, ?_⟩;replace KN : ∀ q9, ((Value.slice A1 6 c1).ownBlock) = some q9 → ((Value.slice A 0 c).ownBlock) = some q9 ∨ w1.heap.size ≤ q9 := KN
 have HY : Gro (Mut [((Value.slice A1 6 c1).ownBlock)]) (Mut [((Value.slice A 0 c).ownBlock)]) w := (Mut.grow Mut.none_ (fun k e => (KN k e).elim (fun e => Or.inl (Mut.head k e)) (fun h => Or.inr (Nat.le_trans E.size h))));replace E := E.step1 En Mut.head;have XT := fun q9 (h : (Mut [((Value.slice A1 6 c1).ownBlock)]) q9) => (HY q9 h).elim (XLW q9) (fun h => Or.inr (Nat.le_trans LW.size h))
 replace LW := LW.step E XLW;replace XLW := XT;replace E := erx (Mut [((Value.slice A1 6 c1).ownBlock)]) w2;clear HY;replace Odst : World.ownsRow w2 base 5 1 (.slice A1 6 c1) 6 ([.int .u8 45, .int .u8 48, .int .u8 101, .int .u8 43, .int .u8 48, .int .u8 48]) := On;clear On KN En;refine anx rfl (zt (zq (zr (rs := [.tmp 8]) (vs := [_]) rfl ⟨rfl, trivial⟩ ?_)))
 exact ⟨_, _, rfl, Odst, (LW.step E XLW), yuz XLW⟩
theorem ftoa_zf : Calls Tryz.prog 124 #[.slice A 0 c, .float .f64 9223372036854775808, .int .u8 102, .int .i64 (-1)] w (zjx w base (Value.slice A 0 c).ownBlock 2 [.int .u8 45, .int .u8 48]) := by
 refine zo Tryz.func124 rfl Tryz.ntmps124 rfl ?_;have Odst : World.ownsRow w base 5 1 (.slice A 0 c) 0 ([]) := ho;have LW := erx (Mut [((Value.slice A 0 c).ownBlock)]) w;have XLW := grx (Mut [((Value.slice A 0 c).ownBlock)]) w;have E := erx (Mut [((Value.slice A 0 c).ownBlock)]) w
 refine srx (anx rfl (srx (anx rfl (srx (avx rfl (avx rfl (anx rfl (zb (zw (srx (za rfl (zx rfl rfl (anx rfl (zj rfl (srx (za rfl (zx rfl rfl (anx rfl (zz rfl (srx (mvx rfl (za rfl (ka ex151 rfl (anx rfl ?_))))))))))))))))))))))))
 refine srx (anx rfl (srx (anx rfl (zh (avx rfl (yg (zl (zc (srx (mvx rfl (mvx rfl (mvx rfl (za rfl (yb (z := 63) rfl rfl (by kernel_rfl) (za rfl (qd (z := 1) rfl rfl (by decide) (by kernel_rfl) (za rfl (vw rfl rfl (anx rfl (zb ?_))))))))))))))))))))
 have OY : ∀ q9, (Mut (gy [])) q9 → q9 < (World.drew w).heap.size → (Mut [((Value.slice A 0 c).ownBlock)]) q9 := fun k h _ => (Mut.none_) k h;refine qo (Mut [((Value.slice A 0 c).ownBlock)]) (Mut.grow Mut.none_ (jr Odst)) [] [] (kq [Fx.of (.int .u64 9223372036854775808),
  Fx.of (.int .i64 52),
  Fx.of (.int .u64 2048),
  Fx.of (.int .i64 2048),
  Fx.of (.int .i64 11),
  Fx.of (.int .i64 2048),
  Fx.of (.int .i64 2047),
  Fx.of (.int .i64 0),
  Fx.of (.int .i64 0)]) mixed rfl trivial (fun _ h => by cases h) ?_ ?_
 · refine ⟨?_, ?_, ?_, ?_, ?_, ?_, ?_, ?_, ?_, trivial⟩
   · intro vs X wq K;exact zi rfl ⟨Below.refl _ _, Left.of rfl⟩
   · intro vs X wq K;exact zi rfl ⟨Below.refl _ _, Left.of rfl⟩
   · intro vs X wq K;obtain ⟨_, e0, k0⟩ := K.dep 0 rfl rfl rfl;refine zd 50 (.int .u64 9223372036854775808) rfl e0 ?_;obtain ⟨_, e1, k1⟩ := K.dep 1 rfl rfl rfl;refine zd 51 (.int .i64 52) rfl e1 ?_;exact qd (z := 2048) rfl rfl (by decide) (by kernel_rfl) ⟨Below.refl _ _, Left.of rfl⟩
   · intro vs X wq K;obtain ⟨_, e2, k2⟩ := K.dep 2 rfl rfl rfl;refine zd 52 (.int .u64 2048) rfl e2 ?_;exact yx (z := 2048) Tryz.underlying3 Tryz.underlying32 rfl (by kernel_rfl) ⟨Below.refl _ _, Left.of rfl⟩
   · intro vs X wq K;exact zi rfl ⟨Below.refl _ _, Left.of rfl⟩
   · intro vs X wq K;obtain ⟨_, e4, k4⟩ := K.dep 4 rfl rfl rfl;refine zd 54 (.int .i64 11) rfl e4 ?_;exact qm (z := 2048) rfl rfl (by decide) (by kernel_rfl) ⟨Below.refl _ _, Left.of rfl⟩
   · intro vs X wq K;obtain ⟨_, e5, k5⟩ := K.dep 5 rfl rfl rfl;refine zd 55 (.int .i64 2048) rfl e5 ?_;exact yd (z := 2047) rfl rfl (by kernel_rfl) ⟨Below.refl _ _, Left.of rfl⟩
   · intro vs X wq K;obtain ⟨_, e3, k3⟩ := K.dep 3 rfl rfl rfl;refine zd 53 (.int .i64 2048) rfl e3 ?_;obtain ⟨_, e6, k6⟩ := K.dep 6 rfl rfl rfl;refine zd 56 (.int .i64 2047) rfl e6 ?_;exact vd (z := 0) rfl rfl (by kernel_rfl) ⟨Below.refl _ _, Left.of rfl⟩
   · intro vs X wq K;obtain ⟨_, e7, k7⟩ := K.dep 7 rfl rfl rfl;refine zd 57 (.int .i64 0) rfl e7 ?_;exact vc rfl ⟨Below.refl _ _, Left.of rfl⟩
 intro vs w1 LE AO AL AF AA;have LOdst := Odst;replace Odst := qp (w := World.drew _) Odst LE NotIn.nil;replace E := E.drew.trans (LE.mono OY);obtain ⟨_, e8, k8⟩ := AL.2.2.2.2.2.2.2.2.1;refine vj (τ := [(0, _), (2, _), (3, _), (8, _), (9, _), (10, _), (11, _), (12, _), (13, _), (14, .int .i64 0)]) ⟨rfl, rfl, rfl, rfl, rfl, rfl, rfl, rfl, rfl, congrArg some e8, trivial⟩ ?_
 clear AL AF AA LE AO OY e8 k8 LOdst
 refine zc (srx (mvx rfl (mvx rfl (za rfl (qm (z := 4503599627370496) rfl rfl (by decide) (by kernel_rfl) (za rfl (yd (z := 4503599627370495) rfl rfl (by kernel_rfl) (za rfl (vd (z := 0) rfl rfl (by kernel_rfl) (anx rfl (zb (srx (mvx rfl (mvx rfl (za rfl (qm (z := 2048) rfl rfl (by decide) (by kernel_rfl) (za rfl (yd (z := 2047) rfl rfl (by kernel_rfl) (za rfl (zx rfl rfl (rnx (zj rfl (zf (zc (zb (srx (mvx rfl (za rfl (zx rfl rfl (rnx (zz rfl (zh (mvx rfl (za rfl (yb (z := 1) rfl rfl (by kernel_rfl) (anx rfl (srx ?_)))))))))))))))))))))))))))))))))))))
 refine mvx rfl (mvx rfl (za rfl (yb (z := (-1022)) rfl rfl (by kernel_rfl) (anx rfl (zb (srx (mvx rfl (za rfl (zx rfl rfl (rnx (zj rfl (zf (zc (zb (srx (mvx rfl (za rfl (zx rfl rfl (mvx rfl (onx rfl (zi rfl (onx rfl (zx rfl rfl (za rfl (yi rfl rfl (rnx (zj rfl (zf (zc (zb (srx (mvx rfl (za rfl (zx rfl rfl (rnx (zz rfl (srx ?_)))))))))))))))))))))))))))))))))))))
 refine mvx rfl (mvx rfl (mvx rfl (mvx rfl (mvx rfl (za rfl (yp rfl rfl (za rfl (zg en154 rfl ((efg_zf _ base A c (Nat.le_trans HB (Nat.le_trans LW.size E.size)) Odst).mono ?_)))))))));rintro e w2 ⟨A1, c1, rfl, On, En, KN⟩;refine ⟨_, rfl, ?_⟩;replace KN : ∀ q9, ((Value.slice A1 2 c1).ownBlock) = some q9 → ((Value.slice A 0 c).ownBlock) = some q9 ∨ w1.heap.size ≤ q9 := KN
 have HY : Gro (Mut [((Value.slice A1 2 c1).ownBlock)]) (Mut [((Value.slice A 0 c).ownBlock)]) w := (Mut.grow Mut.none_ (fun k e => (KN k e).elim (fun e => Or.inl (Mut.head k e)) (fun h => Or.inr (Nat.le_trans E.size h))));replace E := E.step1 En Mut.head;have XT := fun q9 (h : (Mut [((Value.slice A1 2 c1).ownBlock)]) q9) => (HY q9 h).elim (XLW q9) (fun h => Or.inr (Nat.le_trans LW.size h))
 replace LW := LW.step E XLW;replace XLW := XT;replace E := erx (Mut [((Value.slice A1 2 c1).ownBlock)]) w2;clear HY;replace Odst : World.ownsRow w2 base 5 1 (.slice A1 2 c1) 2 ([.int .u8 45, .int .u8 48]) := On;clear On KN En;refine anx rfl (zt (zq (zr (rs := [.tmp 8]) (vs := [_]) rfl ⟨rfl, trivial⟩ ?_)));exact ⟨_, _, rfl, Odst, (LW.step E XLW), yuz XLW⟩
end
theorem ct69_4 : Gives 69 #[.float .f64 9223372036854775808] (.float .f64 0) := by
 intro w;refine zo Tryz.func69 rfl Tryz.ntmps69 rfl ?_;have LW := erx (No) w;have XLW := grx (No) w;have E := erx (No) w;refine srx (anx rfl (srx (mvx rfl (za rfl (ka ex46 rfl (za rfl (kp (z := 0) rfl rfl (by kernel_rfl) (za rfl (ym (b := 0) om rfl (anx rfl (zt (zr (rs := [.tmp 2]) (vs := [.float .f64 0]) rfl ⟨rfl, trivial⟩ ?_))))))))))))
 exact ⟨rfl, (LW.step E XLW).toBelow⟩
theorem ct49_4 : Gives 49 #[.float .f64 9223372036854775808, .int .i64 0] (.bool false) := by
 intro w;refine zo Tryz.func49 rfl Tryz.ntmps49 rfl ?_;have LW := erx (No) w;have XLW := grx (No) w;have E := erx (No) w;refine srx (anx rfl (zb (srx (mvx rfl (za rfl (zx rfl rfl (rnx (zz rfl (zh (mvx rfl (za rfl (zg en69 rfl ((ct69_4 _).mono ?_)))))))))))));rintro e w1 ⟨rfl, hb⟩;refine ⟨_, rfl, ?_⟩;replace E := blx E hb
 refine anx rfl (srx (mvx rfl (za rfl (zhx rfl rfl (zv 14 (.bool false) rfl (by kernel_rfl : (.bool (qy 0 9218868437227405311 == some .gt) : Value) = _) (anx rfl (zt (zr (rs := [.tmp 4]) (vs := [.bool false]) rfl ⟨rfl, trivial⟩ ?_))))))));exact ⟨rfl, (LW.step E XLW).toBelow⟩
theorem ct90_7 : Gives 90 #[.string ⟨#[45, 48, 101, 43, 48, 48]⟩, .int .u8 101] (.int .i64 2) := by
 intro w;refine zo Tryz.func90 rfl Tryz.ntmps90 rfl ?_;have LW := erx (No) w;have XLW := grx (No) w;have E := erx (No) w
 refine srx (anx rfl (srx (mvx rfl (mvx rfl (za rfl (ztx ex125 rfl (run_indexByte_string _ _ _) (zv 7 (.int .i64 2) rfl (by kernel_rfl : (.int .i64 (firstIdx ⟨#[45, 48, 101, 43, 48, 48]⟩ (101 : Int).toNat.toUInt8) : Value) = _) (anx rfl (zt (zr (rs := [.tmp 4]) (vs := [.int .i64 2]) rfl ⟨rfl, trivial⟩ ?_))))))))));exact ⟨rfl, (LW.step E XLW).toBelow⟩
theorem ct51_7 : Gives 51 #[.string ⟨#[45, 48, 101, 43, 48, 48]⟩, .int .u8 101] (.int .i64 2) := by
 intro w;refine zo Tryz.func51 rfl Tryz.ntmps51 rfl ?_;have LW := erx (No) w;have XLW := grx (No) w;have E := erx (No) w;refine srx (anx rfl (srx (mvx rfl (mvx rfl (za rfl (zg en90 rfl ((ct90_7 _).mono ?_)))))));rintro e w1 ⟨rfl, hb⟩;refine ⟨_, rfl, ?_⟩;replace E := blx E hb;refine anx rfl (zt (zr (rs := [.tmp 4]) (vs := [.int .i64 2]) rfl ⟨rfl, trivial⟩ ?_))
 exact ⟨rfl, (LW.step E XLW).toBelow⟩
theorem ct91_9 : Gives 91 #[.string ⟨#[43, 48, 48]⟩] (.tuple #[.int .i64 0, .nilIface]) := by
 intro w;refine zo Tryz.func91 rfl Tryz.ntmps91 rfl ?_;have HF : Per (No) w (fun _ => True) := Per.true_;have LW := erx (No) w;have XLW := grx (No) w;have E := erx (No) w
 refine srx (avx rfl (anx rfl (srx (mvx rfl (za rfl (qr Tryz.underlying9 rfl (anx rfl (zb (srx (mvx rfl (za rfl (zu rfl (za rfl (zu rfl (za rfl (zu rfl (za rfl (vq rfl rfl (za rfl (vq rfl rfl (za rfl (zu rfl (za rfl (yi rfl rfl (mvx rfl (onx rfl (zi rfl (onx rfl (zi rfl (onx rfl (yp rfl rfl (onx rfl (zi rfl (onx rfl (zi rfl (onx rfl (yp rfl rfl (onx rfl (yk rfl rfl (onx rfl (yk rfl rfl (za rfl (yi rfl rfl (rnx (zz rfl (srx (mvx rfl ?_)))))))))))))))))))))))))))))))))))))))))))))))
 refine anx rfl (zb (srx (mvx rfl (za rfl (yj (j := 0) (b := 43) Tryz.underlying9 rfl rfl rfl (by kernel_rfl) (za rfl (zx rfl rfl (mvx rfl (onx rfl (zi rfl (onx rfl (yj (j := 0) (b := 43) Tryz.underlying9 rfl rfl rfl (by kernel_rfl) (onx rfl (zx rfl rfl (za rfl (yi rfl rfl (rnx (zz rfl (srx (mvx rfl (za rfl (kn (l := 1) (h := 3) Tryz.underlying9 rfl ⟨_, rfl⟩ rfl (by decide) (by decide) (zv 41 (.string ⟨#[48, 48]⟩) rfl (by kernel_rfl : (.string ((⟨#[43, 48, 48]⟩ : ByteArray).extract 1 3) : Value) = _) (anx rfl (srx (mvx rfl (za rfl (qr Tryz.underlying9 rfl (za rfl (yp rfl rfl (rnx (zj rfl (zf (zc (srx (anx rfl ?_))))))))))))))))))))))))))))))))))))
 refine zb (srx (mvx rfl (za rfl (ytk (n := 2) (xs := [.int .u8 48, .int .u8 48]) Tryz.underlying9 Tryz.underlying97 Tryz.underlying5 rfl rfl rfl ?_))));intro gb1 cb1 w2 Rb1 Eb1 Gb1;replace E := E.trans Eb1.no;replace HF := HF.on E;replace LW := LW.step E XLW;replace E := erx (No) w2;replace HF := HF.and (Per.rowL Rb1)
 refine za rfl (gx Tryz.underlying97 rfl (zv 48 (.int .i64 2) rfl (by kernel_rfl : (.int .i64 (2 : Nat) : Value) = _) (mvx rfl (rnx (zw (kf (srx (za rfl (yp rfl rfl (rnx (zb (zz rfl (zf (zc (zb (zw (srx (za rfl (yn (j := 0) Tryz.underlying97 sz5 rfl rfl rfl (by decide) (za rfl (yl Tryz.underlying5 rfl rfl ((HF.on E).here.2 0 _ rfl) (anx rfl (srx (mvx rfl (za rfl (yd (z := 0) rfl rfl (by kernel_rfl) (anx rfl (zb (srx (mvx rfl (za rfl (qh rfl rfl (rnx (zj rfl ?_))))))))))))))))))))))))))))))))))
 refine zf (zc (zh (mvx rfl (za rfl (qg (z := 0) rfl rfl (by kernel_rfl) (mvx rfl (za rfl (yx (z := 0) Tryz.underlying3 Tryz.underlying5 rfl (by kernel_rfl) (za rfl (yb (z := 0) rfl rfl (by kernel_rfl) (avx rfl (yg (zl (zc (zh (za rfl (yb (z := 1) rfl rfl (by kernel_rfl) (mvx rfl (yg (vv (srx (za rfl (yp rfl rfl (rnx (zb (zz rfl (zf (zc (zb (zw (srx (za rfl (yn (j := 1) Tryz.underlying97 sz5 rfl rfl rfl (by decide) (za rfl (yl Tryz.underlying5 rfl rfl ((HF.on E).here.2 1 _ rfl) (anx rfl (srx (mvx rfl (za rfl (yd (z := 0) rfl rfl (by kernel_rfl) (avx rfl ?_)))))))))))))))))))))))))))))))))))))))))
 refine rnx (zb (srx (mvx rfl (za rfl (qh rfl rfl (rnx (zj rfl (zf (zc (zh (mvx rfl (za rfl (qg (z := 0) rfl rfl (by kernel_rfl) (mvx rfl (za rfl (yx (z := 0) Tryz.underlying3 Tryz.underlying5 rfl (by kernel_rfl) (za rfl (yb (z := 0) rfl rfl (by kernel_rfl) (avx rfl (yg (zl (zc (zh (za rfl (yb (z := 2) rfl rfl (by kernel_rfl) (mvx rfl (yg (vv (srx (za rfl (yp rfl rfl (rnx (zb (zj rfl (yr (zn (zn (ya (zc (zb ?_))))))))))))))))))))))))))))))))))))))))
 refine srx (mvx rfl (za rfl (yj (j := 0) (b := 43) Tryz.underlying9 rfl rfl rfl (by kernel_rfl) (za rfl (zx rfl rfl (rnx (zj rfl (zf (zc (srx (mvx rfl (avx rfl (anx rfl (zt (zq (zr (rs := [.tmp 2, .tmp 3]) (vs := [.int .i64 0, .nilIface]) rfl ⟨rfl, rfl, trivial⟩ ?_))))))))))))))));exact ⟨rfl, (LW.step E XLW).toBelow⟩
theorem ct52_9 : Gives 52 #[.string ⟨#[43, 48, 48]⟩] (.tuple #[.int .i64 0, .nilIface]) := by
 intro w;refine zo Tryz.func52 rfl Tryz.ntmps52 rfl ?_;have LW := erx (No) w;have XLW := grx (No) w;have E := erx (No) w;refine srx (avx rfl (anx rfl (srx (mvx rfl (za rfl (zg en91 rfl ((ct91_9 _).mono ?_)))))));rintro e w1 ⟨rfl, hb⟩;refine ⟨_, rfl, ?_⟩;replace E := blx E hb
 refine mvx rfl (za rfl (zm rfl rfl (za rfl (zm rfl rfl (avx rfl (anx rfl (zb (srx (mvx rfl (za rfl (ow_neqN Tryz.underlying81 rfl (rnx (zj rfl (zf (zc (srx (mvx rfl (avx rfl (anx rfl (zt (zr (rs := [.tmp 2, .tmp 3]) (vs := [.int .i64 0, .nilIface]) rfl ⟨rfl, rfl, trivial⟩ ?_)))))))))))))))))))));exact ⟨rfl, (LW.step E XLW).toBelow⟩
theorem ct90_14 : Gives 90 #[.string ⟨#[45, 48]⟩, .int .u8 46] (.int .i64 (-1)) := by
 intro w;refine zo Tryz.func90 rfl Tryz.ntmps90 rfl ?_;have LW := erx (No) w;have XLW := grx (No) w;have E := erx (No) w
 refine srx (anx rfl (srx (mvx rfl (mvx rfl (za rfl (ztx ex125 rfl (run_indexByte_string _ _ _) (zv 7 (.int .i64 (-1)) rfl (by kernel_rfl : (.int .i64 (firstIdx ⟨#[45, 48]⟩ (46 : Int).toNat.toUInt8) : Value) = _) (anx rfl (zt (zr (rs := [.tmp 4]) (vs := [.int .i64 (-1)]) rfl ⟨rfl, trivial⟩ ?_))))))))));exact ⟨rfl, (LW.step E XLW).toBelow⟩
theorem ct127_14 : Gives 127 #[.string ⟨#[45, 48]⟩, .string ⟨#[46]⟩] (.int .i64 (-1)) := by
 intro w;refine zo Tryz.func127 rfl Tryz.ntmps127 rfl ?_;have LW := erx (No) w;have XLW := grx (No) w;have E := erx (No) w
 refine srx (anx rfl (srx (mvx rfl (za rfl (qr Tryz.underlying9 rfl (anx rfl (zb (zw (srx (mvx rfl (za rfl (zx rfl rfl (mvx rfl (onx rfl (zi rfl (onx rfl (zi rfl (onx rfl (znz rfl rfl (zv 22 (.bool false) rfl (by simp only [xl]; rfl : (.bool ((⟨#[46]⟩ : ByteArray).toList == (⟨#[45, 48]⟩ : ByteArray).toList) : Value) = _) (za rfl (yi rfl rfl (anx rfl (zj rfl (srx (mvx rfl (za rfl (zx rfl rfl (anx rfl (zz rfl (srx (mvx rfl (mvx rfl ?_)))))))))))))))))))))))))))))))))
 refine za rfl (yj (j := 0) (b := 46) Tryz.underlying9 rfl rfl rfl (by kernel_rfl) (za rfl (zg en90 rfl ((ct90_14 _).mono ?_))));rintro e w1 ⟨rfl, hb⟩;refine ⟨_, rfl, ?_⟩;replace E := blx E hb;refine anx rfl (zt (yo (zq (zr (rs := [.tmp 4]) (vs := [.int .i64 (-1)]) rfl ⟨rfl, trivial⟩ ?_))));exact ⟨rfl, (LW.step E XLW).toBelow⟩
theorem ct92_14 : Gives 92 #[.string ⟨#[45, 48]⟩, .string ⟨#[46]⟩] (.int .i64 (-1)) := by
 intro w;refine zo Tryz.func92 rfl Tryz.ntmps92 rfl ?_;have LW := erx (No) w;have XLW := grx (No) w;have E := erx (No) w;refine srx (anx rfl (srx (mvx rfl (mvx rfl (za rfl (zg en127 rfl ((ct127_14 _).mono ?_)))))));rintro e w1 ⟨rfl, hb⟩;refine ⟨_, rfl, ?_⟩;replace E := blx E hb;refine anx rfl (zt (zr (rs := [.tmp 4]) (vs := [.int .i64 (-1)]) rfl ⟨rfl, trivial⟩ ?_))
 exact ⟨rfl, (LW.step E XLW).toBelow⟩
theorem ct53_14 : Gives 53 #[.string ⟨#[45, 48]⟩, .string ⟨#[46]⟩] (.bool false) := by
 intro w;refine zo Tryz.func53 rfl Tryz.ntmps53 rfl ?_;have LW := erx (No) w;have XLW := grx (No) w;have E := erx (No) w;refine srx (anx rfl (srx (mvx rfl (mvx rfl (za rfl (zg en92 rfl ((ct92_14 _).mono ?_)))))));rintro e w1 ⟨rfl, hb⟩;refine ⟨_, rfl, ?_⟩;replace E := blx E hb
 refine za rfl (qz rfl rfl (anx rfl (zt (zr (rs := [.tmp 4]) (vs := [.bool false]) rfl ⟨rfl, trivial⟩ ?_))));exact ⟨rfl, (LW.step E XLW).toBelow⟩
section
variable (w : World)
theorem format_ze : Calls Tryz.prog 89 #[.float .f64 9223372036854775808, .int .u8 101, .int .i64 (-1), .int .i64 64] w fun e w' => e = .returned (.string ⟨#[45, 48, 101, 43, 48, 48]⟩) ∧ Below w.heap.size w w' := by
 refine zo Tryz.func89 rfl Tryz.ntmps89 rfl ?_;have LW := erx (No) w;have XLW := grx (No) w;have E := erx (No) w
 refine srx (anx rfl (zb (srx (mvx rfl (za rfl (zx rfl rfl (rnx (zj rfl (zf (zc (zb (srx (mvx rfl (za rfl (zx rfl rfl (rnx (zz rfl (srx (mvx rfl (za rfl (yb (z := 3) rfl rfl (by kernel_rfl) (za rfl (ypz rfl rfl (zv 25 (.int .i64 24) rfl (by kernel_rfl : (.int .i64 (if (24 : Int) > 3 then 24 else 3) : Value) = _) ?_))))))))))))))))))))))))
 have XC : ∀ q9, (No) q9 → q9 < w.heap.size := Mut.none_;have SC := Nat.le_trans LW.size E.size;have SE := E.size;refine za rfl (yhz (n := 24) (base := w.heap.size) Tryz.underlying97 yaz rfl rfl rfl rfl (by decide) (by decide) SC (by decide) ?_);intro gmk1 w2 Nmk1 Emk1 Gmk1;replace E := E.trans Emk1.no;clear Emk1
 have Omk1 : World.ownsRow w2 w.heap.size 5 1 (.slice (some ⟨gmk1, 0, none⟩) 0 24) 0 ([]) := Nmk1;replace E := E.cons ((Value.slice (some ⟨gmk1, 0, none⟩) 0 24).ownBlock);replace XLW := Mut.grow XLW (fun k e => Or.inr (Nat.le_trans LW.size ((fun k e => Nat.le_trans SE ((ye Gmk1) k e)) k e)));clear XC
 refine mvx rfl (mvx rfl (mvx rfl (za rfl (zg en124 rfl ((ftoa_ze _ w.heap.size (some ⟨gmk1, 0, none⟩) 24 (Nat.le_trans LW.size E.size) Omk1).mono ?_)))));rintro e w3 ⟨A1, c1, rfl, On, En, KN⟩;refine ⟨_, rfl, ?_⟩;replace KN : ∀ q9, ((Value.slice A1 6 c1).ownBlock) = some q9 → ((Value.slice (some ⟨gmk1, 0, none⟩) 0 24).ownBlock) = some q9 ∨ w2.heap.size ≤ q9 := KN
 have HY : Gro (Mut [((Value.slice A1 6 c1).ownBlock)]) (Mut [((Value.slice (some ⟨gmk1, 0, none⟩) 0 24).ownBlock)]) w := (Mut.grow Mut.none_ (fun k e => (KN k e).elim (fun e => Or.inl (Mut.head k e)) (fun h => Or.inr (Nat.le_trans E.size h))));replace E := E.step1 En Mut.head
 have XT := fun q9 (h : (Mut [((Value.slice A1 6 c1).ownBlock)]) q9) => (HY q9 h).elim (XLW q9) (fun h => Or.inr (Nat.le_trans LW.size h));replace LW := LW.step E XLW;replace XLW := XT;replace E := erx (Mut [((Value.slice A1 6 c1).ownBlock)]) w3;clear HY
 replace Omk1 : World.ownsRow w3 w.heap.size 5 1 (.slice A1 6 c1) 6 ([.int .u8 45, .int .u8 48, .int .u8 101, .int .u8 43, .int .u8 48, .int .u8 48]) := On;clear On KN En
 refine za rfl (zaq (l := [45, 48, 101, 43, 48, 48]) Tryz.underlying97 Tryz.underlying5 Tryz.underlying9 rfl (zxq Omk1 rfl) (anx rfl (zt (zq (zr (rs := [.tmp 8]) (vs := [_]) rfl ⟨rfl, trivial⟩ ?_)))));exact ⟨rfl, (LW.step E XLW).toBelow⟩
theorem format_ze' : Calls Tryz.prog 50 #[.float .f64 9223372036854775808, .int .u8 101, .int .i64 (-1), .int .i64 64] w fun e w' => e = .returned (.string ⟨#[45, 48, 101, 43, 48, 48]⟩) ∧ Below w.heap.size w w' := by
 refine zo Tryz.func50 rfl Tryz.ntmps50 rfl ?_;have LW := erx (No) w;have XLW := grx (No) w;have E := erx (No) w;refine srx (anx rfl (srx (mvx rfl (mvx rfl (mvx rfl (mvx rfl (za rfl (zg en89 rfl ((format_ze _).mono ?_)))))))));rintro e w1 ⟨rfl, hb⟩;refine ⟨_, rfl, ?_⟩;replace E := blx E hb;refine anx rfl (zt (zr (rs := [.tmp 8]) (vs := [_]) rfl ⟨rfl, trivial⟩ ?_))
 exact ⟨rfl, (LW.step E XLW).toBelow⟩
theorem format_zf : Calls Tryz.prog 89 #[.float .f64 9223372036854775808, .int .u8 102, .int .i64 (-1), .int .i64 64] w fun e w' => e = .returned (.string ⟨#[45, 48]⟩) ∧ Below w.heap.size w w' := by
 refine zo Tryz.func89 rfl Tryz.ntmps89 rfl ?_;have LW := erx (No) w;have XLW := grx (No) w;have E := erx (No) w
 refine srx (anx rfl (zb (srx (mvx rfl (za rfl (zx rfl rfl (rnx (zj rfl (zf (zc (zb (srx (mvx rfl (za rfl (zx rfl rfl (rnx (zz rfl (srx (mvx rfl (za rfl (yb (z := 3) rfl rfl (by kernel_rfl) (za rfl (ypz rfl rfl (zv 25 (.int .i64 24) rfl (by kernel_rfl : (.int .i64 (if (24 : Int) > 3 then 24 else 3) : Value) = _) ?_))))))))))))))))))))))))
 have XC : ∀ q9, (No) q9 → q9 < w.heap.size := Mut.none_;have SC := Nat.le_trans LW.size E.size;have SE := E.size;refine za rfl (yhz (n := 24) (base := w.heap.size) Tryz.underlying97 yaz rfl rfl rfl rfl (by decide) (by decide) SC (by decide) ?_);intro gmk1 w2 Nmk1 Emk1 Gmk1;replace E := E.trans Emk1.no;clear Emk1
 have Omk1 : World.ownsRow w2 w.heap.size 5 1 (.slice (some ⟨gmk1, 0, none⟩) 0 24) 0 ([]) := Nmk1;replace E := E.cons ((Value.slice (some ⟨gmk1, 0, none⟩) 0 24).ownBlock);replace XLW := Mut.grow XLW (fun k e => Or.inr (Nat.le_trans LW.size ((fun k e => Nat.le_trans SE ((ye Gmk1) k e)) k e)));clear XC
 refine mvx rfl (mvx rfl (mvx rfl (za rfl (zg en124 rfl ((ftoa_zf _ w.heap.size (some ⟨gmk1, 0, none⟩) 24 (Nat.le_trans LW.size E.size) Omk1).mono ?_)))));rintro e w3 ⟨A1, c1, rfl, On, En, KN⟩;refine ⟨_, rfl, ?_⟩;replace KN : ∀ q9, ((Value.slice A1 2 c1).ownBlock) = some q9 → ((Value.slice (some ⟨gmk1, 0, none⟩) 0 24).ownBlock) = some q9 ∨ w2.heap.size ≤ q9 := KN
 have HY : Gro (Mut [((Value.slice A1 2 c1).ownBlock)]) (Mut [((Value.slice (some ⟨gmk1, 0, none⟩) 0 24).ownBlock)]) w := (Mut.grow Mut.none_ (fun k e => (KN k e).elim (fun e => Or.inl (Mut.head k e)) (fun h => Or.inr (Nat.le_trans E.size h))));replace E := E.step1 En Mut.head
 have XT := fun q9 (h : (Mut [((Value.slice A1 2 c1).ownBlock)]) q9) => (HY q9 h).elim (XLW q9) (fun h => Or.inr (Nat.le_trans LW.size h));replace LW := LW.step E XLW;replace XLW := XT;replace E := erx (Mut [((Value.slice A1 2 c1).ownBlock)]) w3;clear HY;replace Omk1 : World.ownsRow w3 w.heap.size 5 1 (.slice A1 2 c1) 2 ([.int .u8 45, .int .u8 48]) := On;clear On KN En
 refine za rfl (zaq (l := [45, 48]) Tryz.underlying97 Tryz.underlying5 Tryz.underlying9 rfl (zxq Omk1 rfl) (anx rfl (zt (zq (zr (rs := [.tmp 8]) (vs := [_]) rfl ⟨rfl, trivial⟩ ?_)))));exact ⟨rfl, (LW.step E XLW).toBelow⟩
theorem format_zf' : Calls Tryz.prog 50 #[.float .f64 9223372036854775808, .int .u8 102, .int .i64 (-1), .int .i64 64] w fun e w' => e = .returned (.string ⟨#[45, 48]⟩) ∧ Below w.heap.size w w' := by
 refine zo Tryz.func50 rfl Tryz.ntmps50 rfl ?_;have LW := erx (No) w;have XLW := grx (No) w;have E := erx (No) w;refine srx (anx rfl (srx (mvx rfl (mvx rfl (mvx rfl (mvx rfl (za rfl (zg en89 rfl ((format_zf _).mono ?_)))))))));rintro e w1 ⟨rfl, hb⟩;refine ⟨_, rfl, ?_⟩;replace E := blx E hb;refine anx rfl (zt (zr (rs := [.tmp 8]) (vs := [_]) rfl ⟨rfl, trivial⟩ ?_))
 exact ⟨rfl, (LW.step E XLW).toBelow⟩
theorem text_z : Calls Tryz.prog 15 #[.int .u64 9223372036854775808] w fun e w' => e = .returned (.string ⟨#[45, 48, 46, 48]⟩) ∧ Below w.heap.size w w' := by
 refine zo Tryz.func15 rfl Tryz.ntmps15 rfl ?_;have LW := erx (No) w;have XLW := grx (No) w;have E := erx (No) w
 refine srx (anx rfl (srx (mvx rfl (za rfl (ym (b := 9223372036854775808) om rfl (anx rfl (zb (zw (srx (mvx rfl (mvx rfl (za rfl (jm rfl rfl (zv 13 (.bool false) rfl (by kernel_rfl : (.bool (qy 9223372036854775808 9223372036854775808 != some .eq) : Value) = _) (anx rfl (zj rfl (srx (mvx rfl (za rfl (zg zqv rfl ((ct49_4 _).mono ?_)))))))))))))))))))))
 rintro e w1 ⟨rfl, hb⟩;refine ⟨_, rfl, ?_⟩;replace E := blx E hb;refine anx rfl (zj rfl (zf (zl (zc (srx (mvx rfl (za rfl (zg en50 rfl ((format_ze' _).mono ?_)))))))));rintro e w2 ⟨rfl, hb⟩;refine ⟨_, rfl, ?_⟩;replace E := blx E hb;refine anx rfl (srx (mvx rfl (za rfl (zg en51 rfl ((ct51_7 _).mono ?_)))));rintro e w3 ⟨rfl, hb⟩;refine ⟨_, rfl, ?_⟩
 replace E := blx E hb
 refine anx rfl (srx (mvx rfl (mvx rfl (za rfl (yb (z := 3) rfl rfl (by kernel_rfl) (za rfl (kn (l := 3) (h := 6) Tryz.underlying9 rfl ⟨_, rfl⟩ rfl (by decide) (by decide) (zv 27 (.string ⟨#[43, 48, 48]⟩) rfl (by kernel_rfl : (.string ((⟨#[45, 48, 101, 43, 48, 48]⟩ : ByteArray).extract 3 6) : Value) = _) (za rfl (zg en52 rfl ((ct52_9 _).mono ?_)))))))))))
 rintro e w4 ⟨rfl, hb⟩;refine ⟨_, rfl, ?_⟩;replace E := blx E hb
 refine mvx rfl (za rfl (zm rfl rfl (za rfl (zm rfl rfl (avx rfl (anx rfl (zb (srx (mvx rfl (za rfl (yp rfl rfl (mvx rfl (onx rfl (zi rfl (onx rfl (qh rfl rfl (za rfl (yi rfl rfl (rnx (zj rfl (zf (zc (srx (mvx rfl (za rfl (zg en50 rfl ((format_zf' _).mono ?_)))))))))))))))))))))))))));rintro e w5 ⟨rfl, hb⟩
 refine ⟨_, rfl, ?_⟩;replace E := blx E hb;refine anx rfl (zb (srx (mvx rfl (za rfl (zg en53 rfl ((ct53_14 _).mono ?_))))));rintro e w6 ⟨rfl, hb⟩;refine ⟨_, rfl, ?_⟩;replace E := blx E hb
 refine za rfl (jj rfl (rnx (zz rfl (zh (mvx rfl (za rfl (zhq rfl rfl (by decide) (zv 44 (.string ⟨#[45, 48, 46, 48]⟩) rfl (by kernel_rfl : (.string ((⟨#[45, 48]⟩ : ByteArray) ++ (⟨#[46, 48]⟩ : ByteArray)) : Value) = _) (anx rfl (srx (mvx rfl (anx rfl (zt (zr (rs := [.tmp 2]) (vs := [_]) rfl ⟨rfl, trivial⟩ ?_))))))))))))));exact ⟨rfl, (LW.step E XLW).toBelow⟩
end
def Ten16 (w : World) : Prop := w.cell? ⟨13, 728, none⟩ = some (.int .u64 10240000000000000000) ∧ w.cell? ⟨13, 729, none⟩ = some (.int .u64 0)
theorem co70_1 : Gives 70 #[.int .u64 9223372036854775296, .int .u64 10240000000000000000] (.tuple #[.int .u64 5119999999999999715, .int .u64 14442061007222210560]) := by
 intro w;refine zo Tryz.func70 rfl Tryz.ntmps70 rfl ?_;have LW := erx (No) w;have XLW := grx (No) w;have E := erx (No) w
 refine srx (avx rfl (anx rfl (srx (mvx rfl (za rfl (vd (z := 4294966784) rfl rfl (by kernel_rfl) (anx rfl (srx (mvx rfl (za rfl (qd (z := 2147483647) rfl rfl (by decide) (by kernel_rfl) (anx rfl (srx (mvx rfl (za rfl (vd (z := 67108864) rfl rfl (by kernel_rfl) (anx rfl (srx (mvx rfl (za rfl (qd (z := 2384185791) rfl rfl (by decide) (by kernel_rfl) (anx rfl (srx (mvx rfl (mvx rfl (za rfl (qg (z := 288230341791973376) rfl rfl (by kernel_rfl) (avx rfl ?_))))))))))))))))))))))))))))
 refine rnx (srx (mvx rfl (mvx rfl (za rfl (qg (z := 144115188008747008) rfl rfl (by kernel_rfl) (mvx rfl (za rfl (qd (z := 67108856) rfl rfl (by decide) (by kernel_rfl) (za rfl (yb (z := 144115188075855864) rfl rfl (by kernel_rfl) (anx rfl (srx (mvx rfl (za rfl (vd (z := 4294967288) rfl rfl (by kernel_rfl) (anx rfl (srx (mvx rfl (za rfl (qd (z := 33554431) rfl rfl (by decide) (by kernel_rfl) (anx rfl (srx (mvx rfl (mvx rfl (mvx rfl (za rfl (qg (z := 10239998779229766144) rfl rfl (by kernel_rfl) (za rfl (yb (z := 10239998783524733432) rfl rfl (by kernel_rfl) (anx rfl (srx (mvx rfl ?_))))))))))))))))))))))))))))))))
 refine mvx rfl (za rfl (qg (z := 5119999997582259777) rfl rfl (by kernel_rfl) (mvx rfl (za rfl (yb (z := 5119999997615814208) rfl rfl (by kernel_rfl) (mvx rfl (za rfl (qd (z := 2384185507) rfl rfl (by decide) (by kernel_rfl) (za rfl (yb (z := 5119999999999999715) rfl rfl (by kernel_rfl) (anx rfl (srx (mvx rfl (mvx rfl (za rfl (qg (z := 14442061007222210560) rfl rfl (by kernel_rfl) (anx rfl (zt (zr (rs := [.tmp 4, .tmp 5]) (vs := [.int .u64 5119999999999999715, .int .u64 14442061007222210560]) rfl ⟨rfl, rfl, trivial⟩ ?_)))))))))))))))))))
 exact ⟨rfl, (LW.step E XLW).toBelow⟩
theorem co70_2 : Gives 70 #[.int .u64 9223372036854776832, .int .u64 10240000000000000000] (.tuple #[.int .u64 5120000000000000568, .int .u64 8009366132974682112]) := by
 intro w;refine zo Tryz.func70 rfl Tryz.ntmps70 rfl ?_;have LW := erx (No) w;have XLW := grx (No) w;have E := erx (No) w
 refine srx (avx rfl (anx rfl (srx (mvx rfl (za rfl (vd (z := 1024) rfl rfl (by kernel_rfl) (anx rfl (srx (mvx rfl (za rfl (qd (z := 2147483648) rfl rfl (by decide) (by kernel_rfl) (anx rfl (srx (mvx rfl (za rfl (vd (z := 67108864) rfl rfl (by kernel_rfl) (anx rfl (srx (mvx rfl (za rfl (qd (z := 2384185791) rfl rfl (by decide) (by kernel_rfl) (anx rfl (srx (mvx rfl (mvx rfl (za rfl (qg (z := 68719476736) rfl rfl (by kernel_rfl) (avx rfl ?_))))))))))))))))))))))))))))
 refine rnx (srx (mvx rfl (mvx rfl (za rfl (qg (z := 144115188075855872) rfl rfl (by kernel_rfl) (mvx rfl (za rfl (qd (z := 16) rfl rfl (by decide) (by kernel_rfl) (za rfl (yb (z := 144115188075855888) rfl rfl (by kernel_rfl) (anx rfl (srx (mvx rfl (za rfl (vd (z := 16) rfl rfl (by kernel_rfl) (anx rfl (srx (mvx rfl (za rfl (qd (z := 33554432) rfl rfl (by decide) (by kernel_rfl) (anx rfl (srx (mvx rfl (mvx rfl (mvx rfl (za rfl (qg (z := 2441406249984) rfl rfl (by kernel_rfl) (za rfl (yb (z := 2441406250000) rfl rfl (by kernel_rfl) (anx rfl (srx (mvx rfl ?_))))))))))))))))))))))))))))))))
 refine mvx rfl (za rfl (qg (z := 5119999999966445568) rfl rfl (by kernel_rfl) (mvx rfl (za rfl (yb (z := 5120000000000000000) rfl rfl (by kernel_rfl) (mvx rfl (za rfl (qd (z := 568) rfl rfl (by decide) (by kernel_rfl) (za rfl (yb (z := 5120000000000000568) rfl rfl (by kernel_rfl) (anx rfl (srx (mvx rfl (mvx rfl (za rfl (qg (z := 8009366132974682112) rfl rfl (by kernel_rfl) (anx rfl (zt (zr (rs := [.tmp 4, .tmp 5]) (vs := [.int .u64 5120000000000000568, .int .u64 8009366132974682112]) rfl ⟨rfl, rfl, trivial⟩ ?_)))))))))))))))))))
 exact ⟨rfl, (LW.step E XLW).toBelow⟩
theorem co191_3 : Gives 191 #[.int .i64 (-52)] (.int .i64 (-16)) := by
 intro w;refine zo Tryz.func191 rfl Tryz.ntmps191 rfl ?_;have LW := erx (No) w;have XLW := grx (No) w;have E := erx (No) w
 refine srx (anx rfl (srx (mvx rfl (za rfl (qg (z := (-32827860)) rfl rfl (by kernel_rfl) (za rfl (yd (z := (-33089523)) rfl rfl (by kernel_rfl) (za rfl (qd (z := (-16)) rfl rfl (by decide) (by kernel_rfl) (anx rfl (zt (zr (rs := [.tmp 2]) (vs := [.int .i64 (-16)]) rfl ⟨rfl, trivial⟩ ?_))))))))))));exact ⟨rfl, (LW.step E XLW).toBelow⟩
theorem co193_4 : Gives 193 #[.int .i64 16] (.int .i64 53) := by
 intro w;refine zo Tryz.func193 rfl Tryz.ntmps193 rfl ?_;have LW := erx (No) w;have XLW := grx (No) w;have E := erx (No) w;refine srx (anx rfl (srx (mvx rfl (za rfl (qg (z := 1741648) rfl rfl (by kernel_rfl) (za rfl (qd (z := 53) rfl rfl (by decide) (by kernel_rfl) (anx rfl (zt (zr (rs := [.tmp 2]) (vs := [.int .i64 53]) rfl ⟨rfl, trivial⟩ ?_))))))))))
 exact ⟨rfl, (LW.step E XLW).toBelow⟩
theorem co195_5 : Gives 195 #[.int .u64 39999999999999997, .int .i64 0] (.int .u64 39999999999999997) := by
 intro w;refine zo Tryz.func195 rfl Tryz.ntmps195 rfl ?_;have LW := erx (No) w;have XLW := grx (No) w;have E := erx (No) w
 refine srx (anx rfl (srx (mvx rfl (mvx rfl (za rfl (yx (z := 0) Tryz.underlying232 Tryz.underlying3 rfl (by kernel_rfl) (za rfl (yb (z := 39999999999999997) rfl rfl (by kernel_rfl) (anx rfl (zt (zr (rs := [.tmp 4]) (vs := [.int .u64 39999999999999997]) rfl ⟨rfl, trivial⟩ ?_)))))))))));exact ⟨rfl, (LW.step E XLW).toBelow⟩
theorem co196_6 : Gives 196 #[.int .u64 39999999999999997] (.int .u64 10000000000000000) := by
 intro w;refine zo Tryz.func196 rfl Tryz.ntmps196 rfl ?_;have LW := erx (No) w;have XLW := grx (No) w;have E := erx (No) w
 refine srx (anx rfl (srx (mvx rfl (za rfl (yb (z := 40000000000000000) rfl rfl (by kernel_rfl) (za rfl (qd (z := 10000000000000000) rfl rfl (by decide) (by kernel_rfl) (anx rfl (zt (zr (rs := [.tmp 2]) (vs := [.int .u64 10000000000000000]) rfl ⟨rfl, trivial⟩ ?_))))))))));exact ⟨rfl, (LW.step E XLW).toBelow⟩
theorem co195_7 : Gives 195 #[.int .u64 40000000000000005, .int .i64 0] (.int .u64 40000000000000005) := by
 intro w;refine zo Tryz.func195 rfl Tryz.ntmps195 rfl ?_;have LW := erx (No) w;have XLW := grx (No) w;have E := erx (No) w
 refine srx (anx rfl (srx (mvx rfl (mvx rfl (za rfl (yx (z := 0) Tryz.underlying232 Tryz.underlying3 rfl (by kernel_rfl) (za rfl (yb (z := 40000000000000005) rfl rfl (by kernel_rfl) (anx rfl (zt (zr (rs := [.tmp 4]) (vs := [.int .u64 40000000000000005]) rfl ⟨rfl, trivial⟩ ?_)))))))))));exact ⟨rfl, (LW.step E XLW).toBelow⟩
theorem co197_8 : Gives 197 #[.int .u64 40000000000000005] (.int .u64 10000000000000001) := by
 intro w;refine zo Tryz.func197 rfl Tryz.ntmps197 rfl ?_;have LW := erx (No) w;have XLW := grx (No) w;have E := erx (No) w
 refine srx (anx rfl (srx (mvx rfl (za rfl (yb (z := 40000000000000005) rfl rfl (by kernel_rfl) (za rfl (qd (z := 10000000000000001) rfl rfl (by decide) (by kernel_rfl) (anx rfl (zt (zr (rs := [.tmp 2]) (vs := [.int .u64 10000000000000001]) rfl ⟨rfl, trivial⟩ ?_))))))))));exact ⟨rfl, (LW.step E XLW).toBelow⟩
section
variable (w : World)
theorem prescale_1 (gp : Nat) (hB : Blk w gp 229 #[.int .u64 0, .int .u64 0, .int .i64 0]) (ht : Ten16 w) (hne : gp ≠ 13) :
 Calls Tryz.prog 192 #[.pointer (some ⟨gp, 0, none⟩), .int .i64 (-63), .int .i64 16, .int .i64 53] w fun e w' => e = .returned (.tuple #[]) ∧ Blk w' gp 229 #[.int .u64 10240000000000000000, .int .u64 0, .int .i64 7] ∧ Ext (Mut [some gp]) w w' := by
 have hn : ¬ Mut [some gp] 13 := fun h => h.elim (fun e => hne (Option.some.inj e).symm) (fun e => e.elim);refine zo Tryz.func192 rfl Tryz.ntmps192 rfl ?_;have Bp := hB;have HF : Per (Mut [(some gp)]) w (fun _ => True) := Per.true_;have LW := erx (Mut [(some gp)]) w;have XLW := grx (Mut [(some gp)]) w;have E := erx (Mut [(some gp)]) w;replace HF := HF.on E;replace LW := LW.step E XLW
 replace E := erx (Mut [(some gp)]) w;replace HF := HF.and ((fun b hb => (hb.cell (p := ⟨13, 728, none⟩) (World.block_lt_of_cell? w _ ht.1) hn).trans ht.1 : Per (Mut [some gp]) w (fun b => b.cell? ⟨13, 728, none⟩ = some (.int .u64 10240000000000000000))));replace HF := HF.on E;replace LW := LW.step E XLW;replace E := erx (Mut [(some gp)]) w
 replace HF := HF.and ((fun b hb => (hb.cell (p := ⟨13, 729, none⟩) (World.block_lt_of_cell? w _ ht.2) hn).trans ht.2 : Per (Mut [some gp]) w (fun b => b.cell? ⟨13, 729, none⟩ = some (.int .u64 0))))
 refine srx (mvx rfl (mvx rfl (za rfl (yd (z := 364) rfl rfl (by kernel_rfl) (za rfl (ko (j := 364) Tryz.underlying254 sz253 rfl rfl rfl (by decide) (za rfl (ze Tryz.underlying253 rfl zfv (by decide) rfl (za rfl (yl Tryz.underlying32 rfl rfl (HF.on E).here.1.2 (za rfl (zk rfl (za rfl (ze Tryz.underlying229 rfl zfv (by decide) rfl (qf (qj zfv rfl rfl Bp rfl rfl (Nat.le_of_ble_eq_true rfl) ?_))))))))))))))))
 intro w1 Bx Ep;replace Bp := Bx;replace E := E.step1 Ep Mut.head;clear Ep
 refine rnx (srx (mvx rfl (mvx rfl (za rfl (yd (z := 364) rfl rfl (by kernel_rfl) (za rfl (ko (j := 364) Tryz.underlying254 sz253 rfl rfl rfl (by decide) (za rfl (ze Tryz.underlying253 rfl zfv (by decide) rfl (za rfl (yl Tryz.underlying32 rfl rfl (HF.on E).here.2 (za rfl (zk rfl (za rfl (ze Tryz.underlying229 rfl zfv (by decide) rfl (qf (qj zfv rfl rfl Bp rfl rfl (Nat.le_of_ble_eq_true rfl) ?_)))))))))))))))))
 intro w2 Bx Ep;replace Bp := Bx;replace E := E.step1 Ep Mut.head;clear Ep
 refine rnx (zh (mvx rfl (mvx rfl (mvx rfl (za rfl (yb (z := (-10)) rfl rfl (by kernel_rfl) (za rfl (yb (z := (-7)) rfl rfl (by kernel_rfl) (za rfl (xi (z := 7) rfl (by kernel_rfl) (za rfl (zk rfl (za rfl (ze Tryz.underlying229 rfl sz3 (by decide) rfl (qf (qj sz3 rfl rfl Bp rfl rfl (Nat.le_of_ble_eq_true rfl) ?_))))))))))))))))
 intro w3 Bx Ep;replace Bp := Bx;replace E := E.step1 Ep Mut.head;clear Ep;replace HF := HF.on E;replace LW := LW.step E XLW;have SB : ∀ q9, No q9 → Mut [(some gp)] q9 := (Mut.skip Mut.nil_);replace HF := HF.less SB;replace XLW := fun k h => XLW k (SB k h);clear SB;replace E := erx (No) w3;replace HF := HF.and (Per.blkN Bp NotIn.nil);clear Bp;refine yg (zuv rfl ?_)
 exact ⟨rfl, (HF.on E).here.2, (LW.step E XLW)⟩
theorem uscale_a (gp : Nat) (hB : Blk w gp 229 #[.int .u64 10240000000000000000, .int .u64 0, .int .i64 7]) : Calls Tryz.prog 194 #[.int .u64 9223372036854775296, .pointer (some ⟨gp, 0, none⟩)] w fun e w' => e = .returned (.int .u64 39999999999999997) ∧ Below w.heap.size w w' := by
 refine zo Tryz.func194 rfl Tryz.ntmps194 rfl ?_;have HF : Per (No) w (fun _ => True) := Per.true_;have LW := erx (No) w;have XLW := grx (No) w;have E := erx (No) w;replace HF := HF.on E;replace LW := LW.step E XLW;replace E := erx (No) w;replace HF := HF.and (Per.blk hB (fun h => h.elim))
 refine srx (anx rfl (srx (mvx rfl (mvx rfl (za rfl (zk rfl (za rfl (ze Tryz.underlying229 rfl zfv (by decide) rfl (za rfl (zy Tryz.underlying32 rfl rfl (HF.on E).here.2 rfl (za rfl (zg en70 rfl ((co70_1 _).mono ?_)))))))))))));rintro e w1 ⟨rfl, hb⟩;refine ⟨_, rfl, ?_⟩;replace E := blx E hb
 refine mvx rfl (za rfl (zm rfl rfl (za rfl (zm rfl rfl (avx rfl (anx rfl (srx (mvx rfl (za rfl (zk rfl (za rfl (ze Tryz.underlying229 rfl sz3 (by decide) rfl (za rfl (zy Tryz.underlying3 rfl rfl (HF.on E).here.2 rfl (za rfl (vd (z := 7) rfl rfl (by kernel_rfl) (anx rfl (zb (srx (mvx rfl (mvx rfl (za rfl (qd (z := 39999999999999997) rfl rfl (by decide) (by kernel_rfl) (mvx rfl (za rfl (qm (z := 5119999999999999616) rfl rfl (by decide) (by kernel_rfl) (mvx rfl (za rfl (vw rfl rfl (rnx (zz rfl (srx (mvx rfl (mvx rfl (za rfl (qd (z := 39999999999999997) rfl rfl (by decide) (by kernel_rfl) (za rfl (kh (z := 39999999999999997) rfl rfl (by kernel_rfl) (anx rfl (zt ?_))))))))))))))))))))))))))))))))))))))))
 refine zq (zr (rs := [.tmp 4]) (vs := [_]) rfl ⟨rfl, trivial⟩ ?_);exact ⟨rfl, (LW.step E XLW).toBelow⟩
theorem uscale_b (gp : Nat) (hB : Blk w gp 229 #[.int .u64 10240000000000000000, .int .u64 0, .int .i64 7]) : Calls Tryz.prog 194 #[.int .u64 9223372036854776832, .pointer (some ⟨gp, 0, none⟩)] w fun e w' => e = .returned (.int .u64 40000000000000005) ∧ Below w.heap.size w w' := by
 refine zo Tryz.func194 rfl Tryz.ntmps194 rfl ?_;have HF : Per (No) w (fun _ => True) := Per.true_;have LW := erx (No) w;have XLW := grx (No) w;have E := erx (No) w;replace HF := HF.on E;replace LW := LW.step E XLW;replace E := erx (No) w;replace HF := HF.and (Per.blk hB (fun h => h.elim))
 refine srx (anx rfl (srx (mvx rfl (mvx rfl (za rfl (zk rfl (za rfl (ze Tryz.underlying229 rfl zfv (by decide) rfl (za rfl (zy Tryz.underlying32 rfl rfl (HF.on E).here.2 rfl (za rfl (zg en70 rfl ((co70_2 _).mono ?_)))))))))))));rintro e w1 ⟨rfl, hb⟩;refine ⟨_, rfl, ?_⟩;replace E := blx E hb
 refine mvx rfl (za rfl (zm rfl rfl (za rfl (zm rfl rfl (avx rfl (anx rfl (srx (mvx rfl (za rfl (zk rfl (za rfl (ze Tryz.underlying229 rfl sz3 (by decide) rfl (za rfl (zy Tryz.underlying3 rfl rfl (HF.on E).here.2 rfl (za rfl (vd (z := 7) rfl rfl (by kernel_rfl) (anx rfl (zb (srx (mvx rfl (mvx rfl (za rfl (qd (z := 40000000000000004) rfl rfl (by decide) (by kernel_rfl) (mvx rfl (za rfl (qm (z := 5120000000000000512) rfl rfl (by decide) (by kernel_rfl) (mvx rfl (za rfl (vw rfl rfl (rnx (zz rfl (srx (mvx rfl (mvx rfl (za rfl (qd (z := 40000000000000004) rfl rfl (by decide) (by kernel_rfl) (za rfl (kh (z := 40000000000000005) rfl rfl (by kernel_rfl) (anx rfl (zt ?_))))))))))))))))))))))))))))))))))))))))
 refine zq (zr (rs := [.tmp 4]) (vs := [_]) rfl ⟨rfl, trivial⟩ ?_);exact ⟨rfl, (LW.step E XLW).toBelow⟩
theorem short_1 (ht : ∀ b, Below w.heap.size w b → Ten16 b) (hg : 13 < w.heap.size) : Calls Tryz.prog 164 #[.int .u64 9223372036854775808, .int .i64 (-63)] w fun e w' => e = .returned (.tuple #[.int .u64 1000000000000000, .int .i64 (-15)]) ∧ Below w.heap.size w w' := by
 refine zo Tryz.func164 rfl Tryz.ntmps164 rfl ?_;have HF : Per (No) w (fun _ => True) := Per.true_;have LW := erx (No) w;have XLW := grx (No) w;have E := erx (No) w
 refine srx (avx rfl (anx rfl (srx (avx rfl (anx rfl (zb (srx (za rfl (qg (z := 64) rfl rfl (by kernel_rfl) (rnx (zw (srx (za rfl (zx rfl rfl (anx rfl (zj rfl (srx (za rfl (zx rfl rfl (anx rfl (zz rfl (srx (anx rfl (zh (avx rfl ?_)))))))))))))))))))))))))
 refine yg (zl (zc (srx (avx rfl (anx rfl (srx (anx rfl (srx (mvx rfl (za rfl (yd (z := 11) rfl rfl (by kernel_rfl) (anx rfl (zb (srx (mvx rfl (za rfl (zx rfl rfl (mvx rfl (onx rfl (zi rfl (onx rfl (zi rfl (onx rfl (qh rfl rfl (za rfl (yk rfl rfl (rnx (zz rfl (srx (mvx rfl (mvx rfl (za rfl (yb (z := (-52)) rfl rfl (by kernel_rfl) (za rfl (zg en191 rfl ((co191_3 _).mono ?_))))))))))))))))))))))))))))))))))))
 rintro e w1 ⟨rfl, hb⟩;refine ⟨_, rfl, ?_⟩;replace E := blx E hb
 refine za rfl (xi (z := 16) rfl (by kernel_rfl) (anx rfl (srx (mvx rfl (mvx rfl (za rfl (yd (z := 9) rfl rfl (by kernel_rfl) (za rfl (qm (z := 512) rfl rfl (by decide) (by kernel_rfl) (za rfl (yd (z := 9223372036854775296) rfl rfl (by kernel_rfl) (anx rfl (srx (mvx rfl (mvx rfl (za rfl (yd (z := 10) rfl rfl (by kernel_rfl) (za rfl (qm (z := 1024) rfl rfl (by decide) (by kernel_rfl) (za rfl (yb (z := 9223372036854776832) rfl rfl (by kernel_rfl) (anx rfl (zh (mvx rfl (mvx rfl (za rfl (qd (z := 4503599627370496) rfl rfl (by decide) (by kernel_rfl) (za rfl (yx (z := 4503599627370496) Tryz.underlying3 Tryz.underlying32 rfl (by kernel_rfl) (za rfl (vd (z := 0) rfl rfl (by kernel_rfl) (anx rfl (srx (za rfl (qu zr229 ?_)))))))))))))))))))))))))))))))))))
 intro gb2 w3 Bb2 Eb2 Gb2;have Gb2 : _ ≤ gb2 := Nat.le_trans E.size Gb2;have GLb2 := Nat.le_trans LW.size Gb2;replace E := E.trans Eb2.no;replace HF := HF.cons (ye Gb2);replace E := E.cons (some gb2);replace XLW := Mut.grow XLW (fun k e => Or.inr (Nat.le_trans LW.size ((ye Gb2) k e)));refine rnx (srx (mvx rfl (mvx rfl (mvx rfl (za rfl (zg en193 rfl ((co193_4 _).mono ?_)))))))
 rintro e w4 ⟨rfl, hb⟩;refine ⟨_, rfl, ?_⟩;have Ec := Ext.of_below hb No;replace Bb2 := Bb2.extN Ec NotIn.nil;replace E := E.trans Ec.no;refine za rfl (zg en192 rfl ((prescale_1 _ gb2 Bb2 (ht _ (LW.step E XLW).toBelow) (by omega)).mono ?_));rintro e w5 ⟨rfl, hB, hE⟩;refine ⟨_, rfl, ?_⟩;replace Bb2 := hB;clear hB;replace E := E.step1 hE Mut.head;clear hE;refine rnx (srx (mvx rfl ?_))
 replace HF := HF.on E;replace LW := LW.step E XLW;have SB : ∀ q9, No q9 → Mut [(some gb2)] q9 := (Mut.skip Mut.nil_);replace HF := HF.less SB;replace XLW := fun k h => XLW k (SB k h);clear SB;replace E := erx (No) w5;replace HF := HF.and (Per.blkN Bb2 NotIn.nil);refine za rfl (zg en194 rfl ((uscale_a _ gb2 (HF.on E).here.2).mono ?_));rintro e w6 ⟨rfl, hb⟩;refine ⟨_, rfl, ?_⟩
 replace E := blx E hb;refine mvx rfl (za rfl (zg en195 rfl ((co195_5 _).mono ?_)));rintro e w7 ⟨rfl, hb⟩;refine ⟨_, rfl, ?_⟩;replace E := blx E hb;refine za rfl (zg en196 rfl ((co196_6 _).mono ?_));rintro e w8 ⟨rfl, hb⟩;refine ⟨_, rfl, ?_⟩;replace E := blx E hb;refine anx rfl (srx (mvx rfl (za rfl (zg en194 rfl ((uscale_b _ gb2 (HF.on E).here.2).mono ?_)))))
 rintro e w9 ⟨rfl, hb⟩;refine ⟨_, rfl, ?_⟩;replace E := blx E hb;refine mvx rfl (za rfl (xi (z := 0) rfl (by kernel_rfl) (za rfl (zg en195 rfl ((co195_7 _).mono ?_)))));rintro e w10 ⟨rfl, hb⟩;refine ⟨_, rfl, ?_⟩;replace E := blx E hb;refine za rfl (zg en197 rfl ((co197_8 _).mono ?_));rintro e w11 ⟨rfl, hb⟩;refine ⟨_, rfl, ?_⟩;replace E := blx E hb
 refine anx rfl (zb (srx (mvx rfl (za rfl (ydq (z := 1000000000000000) rfl rfl (by decide) (by kernel_rfl) (anx rfl (srx (mvx rfl (za rfl (qg (z := 10000000000000000) rfl rfl (by kernel_rfl) (mvx rfl (za rfl (qz rfl rfl (rnx (zz rfl (srx (mvx rfl (mvx rfl (za rfl (yd (z := 15) rfl rfl (by kernel_rfl) (za rfl (xi (z := (-15)) rfl (by kernel_rfl) (avx rfl (anx rfl (zt (zq (zr (rs := [.tmp 4, .tmp 5]) (vs := [_, _]) rfl ⟨rfl, rfl, trivial⟩ ?_)))))))))))))))))))))))))))
 exact ⟨rfl, (LW.step E XLW).toBelow⟩
end
theorem putRow_extD (w : World) (g off : Nat) (dk : Array UInt8) (n : Nat) : Ext (Mut [some g]) w ((Sort.putRow (fun (b : UInt8) => Value.int .u8 (b.toNat : Int)) w g off dk).drewN n) := by
 refine ⟨rfl, rfl, rfl, ?_, ?_⟩
 · simp [Sort.putRow, Sort.mapBlock, World.drewN]
 · intro i hi hx;have hne : g ≠ i := fun e => hx (Or.inl (congrArg some e.symm));simp [Sort.putRow, Sort.mapBlock, World.drewN, Array.getElem?_modify, hne]
theorem fmt16 (w : World) (g : Nat) (hB0 : Blk w g 185 (Array.replicate 32 (.int .u8 0))) :
 Calls Tryz.prog 170 #[.slice (some ⟨g, 0, none⟩) 16 32, .int .u64 1000000000000000] w fun e w' => e = .returned (.tuple #[]) ∧
  Blk w' g 185 #[.int .u8 49, .int .u8 48, .int .u8 48, .int .u8 48, .int .u8 48, .int .u8 48, .int .u8 48, .int .u8 48, .int .u8 48, .int .u8 48, .int .u8 48, .int .u8 48, .int .u8 48, .int .u8 48, .int .u8 48, .int .u8 48, .int .u8 0, .int .u8 0, .int .u8 0, .int .u8 0, .int .u8 0, .int .u8 0, .int .u8 0, .int .u8 0, .int .u8 0, .int .u8 0, .int .u8 0, .int .u8 0, .int .u8 0, .int .u8 0, .int .u8 0, .int .u8 0] ∧ Ext (Mut [some g]) w w' := by
 have hn : Lib.nDigits 1000000000000000 = 16 := by kernel_rfl
 have hsz : (Array.replicate 16 (0 : UInt8)).size = 16 := by simp
 have hH : Sort.Holds (fun (b : UInt8) => Value.int .u8 (b.toNat : Int)) w g 0 (Array.replicate 16 0) := by
  intro j hj;rw [hsz] at hj;have hj24 : j < 32 := by omega
  refine ⟨?_, ?_⟩
  · rw [hB0.cell];simp [hj, hj24]
  · unfold World.frozen?;simp [show w.heap[g]? = some (.cells (Array.replicate 32 (.int .u8 0)) 185 (0, 0)) from hB0]
 have h := Tryz.internal_strconv_formatBase10 g 0 32 1000000000000000 (Array.replicate 16 0) w hH (by rw [hsz]; decide) (by decide) (by rw [hsz]; decide);rw [hsz] at h;refine h.mono fun e w' ⟨he, n, v', dk, hw, hF⟩ => ⟨he, ?_⟩;have hdk : dk = #[49, 48, 48, 48, 48, 48, 48, 48, 48, 48, 48, 48, 48, 48, 48, 48] := by
  have hl : Lib.decDigits 1000000000000000 = [49, 48, 48, 48, 48, 48, 48, 48, 48, 48, 48, 48, 48, 48, 48, 48] := by kernel_rfl
  have hs : dk.size = 16 := hF.size;refine Array.ext (by rw [hs]; rfl) fun j h1 h2 => ?_;rw [← hn] at hF;have := Lib.row_is_numeral hF j (by rw [hl]; rw [hs] at h1; exact h1);have h3 : dk[j]! = dk[j] := getElem!_pos dk j h1;have h4 := List.getElem_of_eq hl (i := j) (by rw [hl]; rw [hs] at h1; exact h1);rw [← h3, ← this, h4];rfl
 subst hw;subst hdk;refine ⟨?_, putRow_extD w g 0 _ n⟩;show (Array.modify w.heap g _)[g]? = _
 rw [Array.getElem?_modify, if_pos rfl, show w.heap[g]? = some (.cells (Array.replicate 32 (.int .u8 0)) 185 (0, 0)) from hB0];rfl
theorem set_1 (w : World) (gp : Nat) (hB : Blk w gp 185 #[.int .u8 0, .int .u8 0, .int .u8 0, .int .u8 0, .int .u8 0, .int .u8 0, .int .u8 0, .int .u8 0, .int .u8 0, .int .u8 0, .int .u8 0, .int .u8 0, .int .u8 0, .int .u8 0, .int .u8 0, .int .u8 0, .int .u8 0, .int .u8 0, .int .u8 0, .int .u8 0, .int .u8 0, .int .u8 0, .int .u8 0, .int .u8 0, .int .u8 0, .int .u8 0, .int .u8 0, .int .u8 0, .int .u8 0, .int .u8 0, .int .u8 0, .int .u8 0]) : Calls Tryz.prog 157 #[.slice (some ⟨gp, 0, none⟩) 32 32, .int .u64 1000000000000000, .int .i64 (-15), .int .i64 16] w fun e w' => e = .returned (.tuple #[.int .i64 1, .int .i64 1]) ∧ Blk w' gp 185 #[.int .u8 49, .int .u8 48, .int .u8 48, .int .u8 48, .int .u8 48, .int .u8 48, .int .u8 48, .int .u8 48, .int .u8 48, .int .u8 48, .int .u8 48, .int .u8 48, .int .u8 48, .int .u8 48, .int .u8 48, .int .u8 48, .int .u8 0, .int .u8 0, .int .u8 0, .int .u8 0, .int .u8 0, .int .u8 0, .int .u8 0, .int .u8 0, .int .u8 0, .int .u8 0, .int .u8 0, .int .u8 0, .int .u8 0, .int .u8 0, .int .u8 0, .int .u8 0] ∧ Ext (Mut [some gp]) w w' := by
 refine zo Tryz.func157 rfl Tryz.ntmps157 rfl ?_;have Bp := hB;have LW := erx (Mut [(some gp)]) w;have XLW := grx (Mut [(some gp)]) w;have E := erx (Mut [(some gp)]) w
 refine srx (avx rfl (anx rfl (zb (srx (mvx rfl (mvx rfl (za rfl (gx Tryz.underlying97 rfl (zv 12 (.int .i64 32) rfl (by kernel_rfl : (.int .i64 (32 : Nat) : Value) = _) (za rfl (kw rfl rfl (rnx (zz rfl (srx (mvx rfl (mvx rfl (za rfl (ow_sliceH (h := 16) Tryz.underlying97 sz5 rfl rfl rfl (by decide) (mvx rfl (za rfl (zg en170 rfl ((fmt16 _ gp Bp).mono ?_))))))))))))))))))))))
 rintro e w1 ⟨rfl, hB, hE⟩;refine ⟨_, rfl, ?_⟩;replace Bp := hB;clear hB;replace E := E.step1 hE Mut.head;clear hE
 refine rnx (srx (mvx rfl (mvx rfl (za rfl (yb (z := 1) rfl rfl (by kernel_rfl) (anx rfl (zw (kf (zb (srx (mvx rfl (za rfl (qh rfl rfl (mvx rfl (onx rfl (zi rfl (onx rfl (zi rfl (onx rfl (yd (z := 15) rfl rfl (by kernel_rfl) (onx rfl (yn (j := 15) Tryz.underlying97 sz5 rfl rfl rfl (by decide) (onx rfl (zy Tryz.underlying5 rfl rfl Bp rfl (onx rfl (zx rfl rfl (za rfl (yk rfl rfl (rnx (zz rfl (zf (zc (zw (zh (mvx rfl (za rfl (yd (z := 15) rfl rfl (by kernel_rfl) (avx rfl (yg (zl (vv (zb (zb ?_)))))))))))))))))))))))))))))))))))))))))))
 refine zh (mvx rfl (za rfl (qh rfl rfl (mvx rfl (onx rfl (zi rfl (onx rfl (zi rfl (onx rfl (yd (z := 14) rfl rfl (by kernel_rfl) (onx rfl (yn (j := 14) Tryz.underlying97 sz5 rfl rfl rfl (by decide) (onx rfl (zy Tryz.underlying5 rfl rfl Bp rfl (onx rfl (zx rfl rfl (za rfl (yk rfl rfl (rnx (zz rfl (zf (zc (zw (zh (mvx rfl (za rfl (yd (z := 14) rfl rfl (by kernel_rfl) (avx rfl (yg (zl (vv (zb (srx (mvx rfl (za rfl (qh rfl rfl (mvx rfl (onx rfl (zi rfl (onx rfl (zi rfl (onx rfl (yd (z := 13) rfl rfl (by kernel_rfl) (onx rfl (yn (j := 13) Tryz.underlying97 sz5 rfl rfl rfl (by decide) (onx rfl (zy Tryz.underlying5 rfl rfl Bp rfl (onx rfl (zx rfl rfl (za rfl (yk rfl rfl (rnx (zz rfl ?_)))))))))))))))))))))))))))))))))))))))))))))))))))))
 refine zf (zc (zw (zh (mvx rfl (za rfl (yd (z := 13) rfl rfl (by kernel_rfl) (avx rfl (yg (zl (vv (zb (srx (mvx rfl (za rfl (qh rfl rfl (mvx rfl (onx rfl (zi rfl (onx rfl (zi rfl (onx rfl (yd (z := 12) rfl rfl (by kernel_rfl) (onx rfl (yn (j := 12) Tryz.underlying97 sz5 rfl rfl rfl (by decide) (onx rfl (zy Tryz.underlying5 rfl rfl Bp rfl (onx rfl (zx rfl rfl (za rfl (yk rfl rfl (rnx (zz rfl (zf (zc (zw (zh (mvx rfl (za rfl (yd (z := 12) rfl rfl (by kernel_rfl) (avx rfl (yg (zl (vv (zb (srx (mvx rfl ?_))))))))))))))))))))))))))))))))))))))))))))))
 refine za rfl (qh rfl rfl (mvx rfl (onx rfl (zi rfl (onx rfl (zi rfl (onx rfl (yd (z := 11) rfl rfl (by kernel_rfl) (onx rfl (yn (j := 11) Tryz.underlying97 sz5 rfl rfl rfl (by decide) (onx rfl (zy Tryz.underlying5 rfl rfl Bp rfl (onx rfl (zx rfl rfl (za rfl (yk rfl rfl (rnx (zz rfl (zf (zc (zw (zh (mvx rfl (za rfl (yd (z := 11) rfl rfl (by kernel_rfl) (avx rfl (yg (zl (vv (zb (srx (mvx rfl (za rfl (qh rfl rfl (mvx rfl (onx rfl (zi rfl (onx rfl (zi rfl (onx rfl (yd (z := 10) rfl rfl (by kernel_rfl) (onx rfl (yn (j := 10) Tryz.underlying97 sz5 rfl rfl rfl (by decide) (onx rfl (zy Tryz.underlying5 rfl rfl Bp rfl (onx rfl (zx rfl rfl (za rfl (yk rfl rfl (rnx (zz rfl (zf (zc ?_)))))))))))))))))))))))))))))))))))))))))))))))))))))
 refine zw (zh (mvx rfl (za rfl (yd (z := 10) rfl rfl (by kernel_rfl) (avx rfl (yg (zl (vv (zb (srx (mvx rfl (za rfl (qh rfl rfl (mvx rfl (onx rfl (zi rfl (onx rfl (zi rfl (onx rfl (yd (z := 9) rfl rfl (by kernel_rfl) (onx rfl (yn (j := 9) Tryz.underlying97 sz5 rfl rfl rfl (by decide) (onx rfl (zy Tryz.underlying5 rfl rfl Bp rfl (onx rfl (zx rfl rfl (za rfl (yk rfl rfl (rnx (zz rfl (zf (zc (zw (zh (mvx rfl (za rfl (yd (z := 9) rfl rfl (by kernel_rfl) (avx rfl (yg (zl (vv (zb (srx (mvx rfl (za rfl (qh rfl rfl (mvx rfl ?_)))))))))))))))))))))))))))))))))))))))))))))))
 refine onx rfl (zi rfl (onx rfl (zi rfl (onx rfl (yd (z := 8) rfl rfl (by kernel_rfl) (onx rfl (yn (j := 8) Tryz.underlying97 sz5 rfl rfl rfl (by decide) (onx rfl (zy Tryz.underlying5 rfl rfl Bp rfl (onx rfl (zx rfl rfl (za rfl (yk rfl rfl (rnx (zz rfl (zf (zc (zw (zh (mvx rfl (za rfl (yd (z := 8) rfl rfl (by kernel_rfl) (avx rfl (yg (zl (vv (zb (srx (mvx rfl (za rfl (qh rfl rfl (mvx rfl (onx rfl (zi rfl (onx rfl (zi rfl (onx rfl (yd (z := 7) rfl rfl (by kernel_rfl) (onx rfl (yn (j := 7) Tryz.underlying97 sz5 rfl rfl rfl (by decide) (onx rfl (zy Tryz.underlying5 rfl rfl Bp rfl (onx rfl (zx rfl rfl (za rfl (yk rfl rfl (rnx (zz rfl (zf (zc (zw (zh ?_))))))))))))))))))))))))))))))))))))))))))))))))))))
 refine mvx rfl (za rfl (yd (z := 7) rfl rfl (by kernel_rfl) (avx rfl (yg (zl (vv (zb (srx (mvx rfl (za rfl (qh rfl rfl (mvx rfl (onx rfl (zi rfl (onx rfl (zi rfl (onx rfl (yd (z := 6) rfl rfl (by kernel_rfl) (onx rfl (yn (j := 6) Tryz.underlying97 sz5 rfl rfl rfl (by decide) (onx rfl (zy Tryz.underlying5 rfl rfl Bp rfl (onx rfl (zx rfl rfl (za rfl (yk rfl rfl (rnx (zz rfl (zf (zc (zw (zh (mvx rfl (za rfl (yd (z := 6) rfl rfl (by kernel_rfl) (avx rfl (yg (zl (vv (zb (srx (mvx rfl (za rfl (qh rfl rfl (mvx rfl (onx rfl (zi rfl (onx rfl (zi rfl ?_)))))))))))))))))))))))))))))))))))))))))))))))))
 refine onx rfl (yd (z := 5) rfl rfl (by kernel_rfl) (onx rfl (yn (j := 5) Tryz.underlying97 sz5 rfl rfl rfl (by decide) (onx rfl (zy Tryz.underlying5 rfl rfl Bp rfl (onx rfl (zx rfl rfl (za rfl (yk rfl rfl (rnx (zz rfl (zf (zc (zw (zh (mvx rfl (za rfl (yd (z := 5) rfl rfl (by kernel_rfl) (avx rfl (yg (zl (vv (zb (srx (mvx rfl (za rfl (qh rfl rfl (mvx rfl (onx rfl (zi rfl (onx rfl (zi rfl (onx rfl (yd (z := 4) rfl rfl (by kernel_rfl) (onx rfl (yn (j := 4) Tryz.underlying97 sz5 rfl rfl rfl (by decide) (onx rfl (zy Tryz.underlying5 rfl rfl Bp rfl (onx rfl (zx rfl rfl (za rfl (yk rfl rfl (rnx (zz rfl (zf (zc (zw (zh (mvx rfl (za rfl (yd (z := 4) rfl rfl (by kernel_rfl) ?_)))))))))))))))))))))))))))))))))))))))))))))))))))
 refine avx rfl (yg (zl (vv (zb (srx (mvx rfl (za rfl (qh rfl rfl (mvx rfl (onx rfl (zi rfl (onx rfl (zi rfl (onx rfl (yd (z := 3) rfl rfl (by kernel_rfl) (onx rfl (yn (j := 3) Tryz.underlying97 sz5 rfl rfl rfl (by decide) (onx rfl (zy Tryz.underlying5 rfl rfl Bp rfl (onx rfl (zx rfl rfl (za rfl (yk rfl rfl (rnx (zz rfl (zf (zc (zw (zh (mvx rfl (za rfl (yd (z := 3) rfl rfl (by kernel_rfl) (avx rfl (yg (zl (vv (zb (srx (mvx rfl (za rfl (qh rfl rfl (mvx rfl (onx rfl (zi rfl (onx rfl (zi rfl (onx rfl (yd (z := 2) rfl rfl (by kernel_rfl) (onx rfl (yn (j := 2) Tryz.underlying97 sz5 rfl rfl rfl (by decide) ?_))))))))))))))))))))))))))))))))))))))))))))))))))
 refine onx rfl (zy Tryz.underlying5 rfl rfl Bp rfl (onx rfl (zx rfl rfl (za rfl (yk rfl rfl (rnx (zz rfl (zf (zc (zw (zh (mvx rfl (za rfl (yd (z := 2) rfl rfl (by kernel_rfl) (avx rfl (yg (zl (vv (zb (srx (mvx rfl (za rfl (qh rfl rfl (mvx rfl (onx rfl (zi rfl (onx rfl (zi rfl (onx rfl (yd (z := 1) rfl rfl (by kernel_rfl) (onx rfl (yn (j := 1) Tryz.underlying97 sz5 rfl rfl rfl (by decide) (onx rfl (zy Tryz.underlying5 rfl rfl Bp rfl (onx rfl (zx rfl rfl (za rfl (yk rfl rfl (rnx (zz rfl (zf (zc (zw (zh (mvx rfl (za rfl (yd (z := 1) rfl rfl (by kernel_rfl) (avx rfl (yg ?_)))))))))))))))))))))))))))))))))))))))))))))))))
 refine zl (vv (zb (srx (mvx rfl (za rfl (qh rfl rfl (mvx rfl (onx rfl (zi rfl (onx rfl (zi rfl (onx rfl (yd (z := 0) rfl rfl (by kernel_rfl) (onx rfl (yn (j := 0) Tryz.underlying97 sz5 rfl rfl rfl (by decide) (onx rfl (zy Tryz.underlying5 rfl rfl Bp rfl (onx rfl (zx rfl rfl (za rfl (yk rfl rfl (rnx (zj rfl (yr (zn (zn (ya (zc (srx (mvx rfl (mvx rfl (avx rfl (anx rfl (zt (zr (rs := [.tmp 8, .tmp 9]) (vs := [_, _]) rfl ⟨rfl, rfl, trivial⟩ ?_)))))))))))))))))))))))))))))))))))
 exact ⟨rfl, Bp, (LW.step E XLW)⟩
end Go.Proofs.YtjdcjdohghkcgaaGreatDoor

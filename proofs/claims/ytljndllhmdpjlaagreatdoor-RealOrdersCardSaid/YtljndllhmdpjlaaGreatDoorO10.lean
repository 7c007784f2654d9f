/- Rules for walks: a loop's rounds one by one; floating-point numbers; functions that the model gives itself; strings that are written out. Rules for walks: a region that draws its order, cut where everything that follows waits for everything before. The functions that the model gives itself. Closed facts. Layer 3's small functions and the document's: sums, products, quotients, the sign, the order. The walks of package math: Abs, IsInf, IsNaN, Copysign, normalize, Frexp. The walks of math.normalize and math.Frexp. The walk of math.Ldexp, where the answer needs no rounding. Rules for walks: from numbers to floating-point numbers and back; a NaN made whole. Plain mathematics of floating-point numbers: whole numbers as floats and back, rests of a division. No condition. Plain mathematics of floating-point numbers: what a sum is rounded to lies between the same numbers as the sum. No condition. Plain mathematics of floating-point numbers: sums rounded; numbers that are whole. No condition. Plain mathematics of floating-point numbers: quotient rounded down and rest, as the program and the document reckon them. No condition. The walks of math.NaN, math.Frexp, math.Ldexp, math.Mod. The walks of the document's parts and rest. The walks of bits.Rem64 and bits.Div64 at the divisor 2^31 - 1. Plain words on fractions and full mantissas. The walks of the quotient rounded down and the rest: package real's and the document's. The walks of the functions that the laws of layer 3 call on fixed numbers. The walks of the text of -0 and of 1. -/
import Derived.Test.YtljndllhmdpjlaaGreatDoorO9
import Derived.Test.YtljndllhmdpjlaaGreatDoorProg
import Derived.Lib.ConvBytes
import Derived.Lib.SmallJoins
namespace Go.Proofs.YtljndllhmdpjlaaGreatDoor
open Go.RowKit
set_option maxRecDepth 100000
/-- From a loop's next round on. -/
def LoopW (P : Program) (c : Code) (Q : Exit → Act → World → Prop) (a : Act) (w : World) : Prop := ∀ b k cs, ∃ e a' w', Q e a' w' ∧ Arrives P (lone (b.at a (.inLoop c :: k)) cs w) b k cs e a' w'
theorem loopW_of {P : Program} {c : Code} {Q : Exit → Act → World → Prop} {a : Act} {w : World} (h : c.wp P (Exit.then (LoopW P c Q) Q) a w) (b : Frame) (k : List Item) (cs : List Frame) :
    ∃ e a' w', Q e a' w' ∧ Arrives P (lone (b.at a (.code c :: .inLoop c :: k)) cs w) b k cs e a' w' := by
  obtain ⟨e, a₁, w₁, hq, harr⟩ := h b (.inLoop c :: k) cs
  cases e with
  | normal =>
    obtain ⟨e₂, a₂, w₂, hq₂, harr₂⟩ := hq b k cs
    exact ⟨e₂, a₂, w₂, hq₂, .of_steps harr harr₂⟩
  | exit id => exact ⟨_, a₁, w₁, hq, .pass (x := .inLoop c) rfl (fun _ _ => .inl (by simp)) harr⟩
  | goto l => exact ⟨_, a₁, w₁, hq, .pass (x := .inLoop c) rfl (fun _ _ => .inl (by simp)) harr⟩
  | ret => exact ⟨_, a₁, w₁, hq, .pass (x := .inLoop c) rfl (fun _ _ => .inl (by simp)) harr⟩
  | panic ch => exact ⟨_, a₁, w₁, hq, .pass (x := .inLoop c) rfl (fun _ _ => .inl (by simp)) harr⟩
  | outgrown => exact ⟨_, a₁, w₁, hq, .pass (x := .inLoop c) rfl (fun _ _ => .inl (by simp)) harr⟩
section
variable {P : Program} {N : Nat} {ops : Array Oper} {Q : Exit → Act → World → Prop} {σ : Env} {w : World} {ty : TypeId} {pos : String} {af : Array Edge} {dst : Option Nat} {Post : Value → World → Prop}
theorem cw_unroll {c : Code} (h : CW P N c (Exit.then (LoopW P c Q) Q) σ w) : CW P N (.loop c) Q σ w := fun a ha b k cs => by
  obtain ⟨e, a', w', hq, harr⟩ := loopW_of (h a ha) b k cs
  exact ⟨e, a', w', hq, .of_steps (.one step_loop) harr⟩
theorem ew_again {c : Code} (h : CW P N c (Exit.then (LoopW P c Q) Q) σ w) : EW N (Exit.then (LoopW P c Q) Q) .normal σ w := fun a ha b k cs => by
  obtain ⟨e, a', w', hq, harr⟩ := loopW_of (h a ha) b k cs
  exact ⟨e, a', w', hq, .of_steps (.one step_inLoop) harr⟩
/-! ### floating-point numbers -/
theorem ow_fgeq {T U : TypeId} {x y : Operand} {m n : Nat} (hx : ev σ x = some (.float .f64 m)) (hy : ev σ y = some (.float .f64 n)) (k : Post (.bool (ford m n == some .gt || ford m n == some .eq)) w) : OW P N ops Q ⟨dst, .binOp .geq T x y U, ty, pos, af, none⟩ σ w Post :=
  ow_val (fun ρ ha => by simp [execOp, ha hx, ha hy, binOp, eqGuard, Op.floatCmp, FloatKind.format, ford, go_sem]) k
/-- An operation whose result is known. -/
theorem ow_fV {op : BinOp} {T U : TypeId} {x y : Operand} {m n z : Nat} (ho : op = .add ∨ op = .sub ∨ op = .mul ∨ op = .quo) (hx : ev σ x = some (.float .f64 m)) (hy : ev σ y = some (.float .f64 n)) (hz : fop op m n = some z)
    (k : Post (.float .f64 z) w) : OW P N ops Q ⟨dst, .binOp op T x y U, ty, pos, af, none⟩ σ w Post :=
  ow_float ho hx hy (fun r w' h => by
    rcases h with ⟨h1, rfl⟩ | ⟨h1, _⟩
    · rw [hz] at h1; cases h1; exact k
    · rw [hz] at h1; cases h1)
/-! ### functions that the model gives itself -/
theorem run_f64bits (b : Nat) (w : World) : (Extern.MathFloatBits.float64bits #[.float .f64 b]).run P w = .ok (.int .u64 ((b : Nat) : Int)) w := rfl
theorem run_frombits (b : Nat) (w : World) : (Extern.MathFloatBits.float64frombits #[.int .u64 ((b : Nat) : Int)]).run P w = .ok (.float .f64 b) w := rfl
theorem ow_bits {f : FuncId} {ts : Array TypeId} {x : Operand} {b : Nat} (hf : Ext_ P f Extern.MathFloatBits.float64bits) (hx : ev σ x = some (.float .f64 b)) (k : Post (.int .u64 ((b : Nat) : Int)) w) : OW P N ops Q ⟨dst, .call ⟨.value (.func f), #[x], ts⟩, ty, pos, af, none⟩ σ w Post :=
  ow_ext (xs := [x]) (args := [.float .f64 b]) hf (by simp [evs, hx]) (run_f64bits b w) k
theorem ow_frombits {f : FuncId} {ts : Array TypeId} {x : Operand} {b : Nat} (hf : Ext_ P f Extern.MathFloatBits.float64frombits) (hx : ev σ x = some (.int .u64 ((b : Nat) : Int))) (k : Post (.float .f64 b) w) : OW P N ops Q ⟨dst, .call ⟨.value (.func f), #[x], ts⟩, ty, pos, af, none⟩ σ w Post :=
  ow_ext (xs := [x]) (args := [.int .u64 ((b : Nat) : Int)]) hf (by simp [evs, hx]) (run_frombits b w) k
/-- Rounded to a whole number. -/
def fround (way : Ieee.Toward) (b : Nat) : Nat := FloatKind.f64.encode ((FloatKind.f64.decode b).integral way)
theorem ow_round {f : FuncId} {ts : Array TypeId} {x : Operand} {b : Nat} {name : String} {way : Ieee.Toward} (hf : Ext_ P f (Extern.MathFloor.toIntegral name way)) (hx : ev σ x = some (.float .f64 b)) (hn : (FloatKind.f64.decode b).isNaN = false) (k : Post (.float .f64 (fround way b)) w) : OW P N ops Q ⟨dst, .call ⟨.value (.func f), #[x], ts⟩, ty, pos, af, none⟩ σ w Post :=
  ow_ext (xs := [x]) (args := [.float .f64 b]) (v := .float .f64 (fround way b)) (w' := w) hf (by simp [evs, hx]) (by
    have e : Extern.MathFloor.toIntegral name way #[.float .f64 b] = (match FloatKind.f64.decode b with
      | .nan s t => if FloatKind.f64.format.quiet t = t then pure (.float .f64 b) else do
        let kept ← choose (.extern "math.Floor,Ceil,Trunc,RoundToEven.signallingNaN kept" 2)
        pure (.float .f64 (if kept == 1 then b else FloatKind.f64.encode (.nan s (FloatKind.f64.format.quiet t))))
      | d => pure (.float .f64 (FloatKind.f64.encode (d.integral way)))) := rfl
    rw [e]
    unfold fround
    cases h : FloatKind.f64.decode b with
    | nan s t => rw [h] at hn; cases hn
    | infinity s => rfl
    | number s m e => rfl) k
/-! ### strings that are written out -/
theorem bytes_list (a : Array UInt8) : (⟨a⟩ : ByteArray).toList = a.toList := by rw [ByteArray.toList_eq]
/-- The lesser of two numbers. -/
theorem ow_min {x y : Operand} {t1 t2 : TypeId} {q q2 : IntKind} {m n : Int} (hx : ev σ x = some (.int q m)) (hy : ev σ y = some (.int q2 n))
    (k : Post (.int q (if n < m then n else m)) w) : OW P N ops Q ⟨dst, .call ⟨.builtin .min, #[x, y], #[t1, t2]⟩, ty, pos, af, none⟩ σ w Post :=
  ow_val (fun ρ ha => by simp [execOp, resolve, invoke, builtin, Builtin.min_, Builtin.min2, ha hx, ha hy, go_sem]) k
/-- The byte of a string that is written out. -/
theorem ow_indexSL {x i : Operand} {T : TypeId} {s : ByteArray} {q : IntKind} {m : Int} {j : Nat} {b : Nat} (hd : P.underlying T = some .string) (hx : ev σ x = some (.string s)) (hi : ev σ i = some (.int q m)) (hm : m = (j : Int)) (hb : (s.data[j]?).map (·.toNat) = some b)
    (k : Post (.int .u8 (b : Int)) w) : OW P N ops Q ⟨dst, .index T x i, ty, pos, af, none⟩ σ w Post := by
  obtain ⟨c, h1, rfl⟩ := Option.map_eq_some_iff.1 hb
  exact ow_indexS hd hx hi hm (show s[j]? = some c by
    have h2 : s[j]? = s.data[j]? := rfl
    rw [h2, h1]) k
/-- The address of an array's cell. -/
theorem ow_indexAddrG {x i : Operand} {T e : TypeId} {g o n s : Nat} {q : IntKind} {m : Int} {j : Nat} (hd : P.underlying T = some (.array n e)) (hs : SizeIs P e s) (hx : ev σ x = some (.pointer (some ⟨g, o, none⟩))) (hi : ev σ i = some (.int q m)) (hm : m = (j : Int)) (hj : j < n)
    (k : Post (.pointer (some ⟨g, o + j * s, none⟩)) w) : OW P N ops Q ⟨dst, .indexAddr T x i, ty, pos, af, none⟩ σ w Post :=
  ow_val (fun ρ ha => by
    subst hm
    have h1 : ¬ n ≤ j := by omega
    simp [execOp, ha hx, ha hi, Instr.indexAt, Instr.sureAddr, asIntOf, run_underlying hd, run_size hs, h1, hj, Addr.add_eq, go_sem]) k
/-! ### an error that is none -/
theorem run_equalN {T : TypeId} {ms : Array (String × TypeId)} (hd : P.underlying T = some (.interface ms)) : (Op.equal T .nilIface .nilIface).run P w = .ok true w := by
  have e : Op.maxDepth = 9999 + 1 := rfl
  have key : ∀ d : Nat, (Op.equalIn (d + 1) T .nilIface .nilIface).run P w = .ok true w := by
    intro d
    rw [Op.equalIn]
    simp only [Sem.run_bind, run_underlying hd, Result.andThen_ok]
    rfl
  unfold Op.equal
  rw [e]
  exact key 9999
theorem ow_neqN {T U : TypeId} {x : Operand} {ms : Array (String × TypeId)} (hd : P.underlying T = some (.interface ms)) (hx : ev σ x = some .nilIface) (k : Post (.bool false) w) : OW P N ops Q ⟨dst, .binOp .neq T x (.const .nilIface) U, ty, pos, af, none⟩ σ w Post :=
  ow_val (fun ρ ha => by
    have e := run_equalN (P := P) (w := w) hd
    have hc : ρ (.const .nilIface) = .nilIface := ha rfl
    simp only [execOp, ha hx, hc, eqGuard, binOp]
    simp [e, go_sem]) k
/-- Cells that hold a list. -/
def RowL (w : World) (g : Nat) (xs : List Value) : Prop := ∀ j v, xs[j]? = some v → w.cell? ⟨g, j, none⟩ = some v
theorem Per.rowL {w : World} {g : Nat} {xs : List Value} (h : RowL w g xs) : Per No w (fun b => RowL b g xs) := fun b hb j v hj => by
  have h1 := h j v hj
  rw [hb.cell (p := ⟨g, j, none⟩) (World.block_lt_of_cell? w _ h1) (fun e => e.elim)]; exact h1
/-- A string as bytes in a new row. -/
theorem ow_strBytes {S D e : TypeId} {x : Operand} {s : ByteArray} {n : Nat} {xs : List Value} (hS : P.underlying S = some .string) (hD : P.underlying D = some (.slice e)) (he : P.underlying e = some (.int .u8)) (hx : ev σ x = some (.string s)) (hn : s.size = n) (hl : s.data.toList.map (fun b => Value.int .u8 (b.toNat : Int)) = xs)
    (k : ∀ g c w', RowL w' g xs → Ext No w w' → w.heap.size ≤ g → Post (.slice (some ⟨g, 0, none⟩) n c) w') : OW P N ops Q ⟨dst, .convert S D x, ty, pos, af, none⟩ σ w Post :=
  ow_val (v := .slice (some ⟨w.heap.size, 0, none⟩) s.size (grownCap w s.size 0 e)) (w' := Lib.bytesWorld w e s) (fun ρ ha => by
    simp only [execOp, ha hx, Sem.run_bind, Lib.run_convert_string_bytes w S D e s hS hD he, Result.andThen_ok, Sem.run_pure]) (by
    subst hn
    refine k _ _ _ (fun j v hj => ?_) (Ext.of_below (Joins.below_bytesWorld _ _ _ _ (Nat.le_refl _)) No) (Nat.le_refl _)
    rw [← hl, List.getElem?_map] at hj
    obtain ⟨b, hb, rfl⟩ := Option.map_eq_some_iff.1 hj
    have hlt : j < s.size := by
      have h1 := (List.getElem?_eq_some_iff.1 hb).1
      have h2 : s.data.toList.length = s.size := Array.length_toList
      omega
    rw [Lib.bytesWorld_cell w e s j hlt, List.getD_eq_getElem?_getD, hb]; rfl)
end
/-- A call that leaves memory as it was, but for new blocks, and answers a value. -/
abbrev Gives (f : FuncId) (args : Array Value) (v : Value) : Prop := ∀ w, Calls Tryz.prog f args w fun e w' => e = .returned v ∧ Below w.heap.size w w'
end Go.Proofs.YtljndllhmdpjlaaGreatDoor
namespace Go.Proofs.YtljndllhmdpjlaaGreatDoor
open Go.RowKit
set_option maxRecDepth 100000
section
variable {P : Program} {N : Nat} {Q : Exit → Act → World → Prop} {σ : Env} {w : World} {l : List Oper}
/-- The first k operations are done. -/
def trL (k n : Nat) : Array Bool := (List.replicate k true ++ List.replicate (n - k) false).toArray
/-- A drawn region from where its first k operations are done. -/
def AK (P : Program) (N k : Nat) (l : List Oper) (Q : Exit → Act → World → Prop) (σ : Env) (w : World) : Prop := ∀ a, At N σ a → wpAny P .any l.toArray Q (l.length - k) (trL k l.length) a w
theorem cw_any {id : Nat} (hm : P.follows .mixedOrders = true) (h : AK P N 0 l Q σ w.drew) : CW P N (.region id l.toArray true) Q σ w := fun a ha => by
  refine wp_region_any hm ?_
  have := h a ha
  unfold trL at this
  simpa using this
theorem trL_get {k n j : Nat} {d : Bool} (hj : j < n) (hk : k ≤ n) : (trL k n).getD j d = decide (j < k) := by
  unfold trL
  by_cases h : j < k
  · simp [Array.getD_eq_getD_getElem?, List.getElem?_append, h]
  · have h2 : j - k < n - k := by omega
    simp [Array.getD_eq_getD_getElem?, List.getElem?_append, h, List.getElem?_replicate, h2]
theorem trL_set {k n : Nat} (h : k < n) : (trL k n).setIfInBounds k true = trL (k + 1) n := by
  unfold trL
  apply Array.toList_inj.1
  rw [Array.toList_setIfInBounds]
  have e : n - k = (n - (k + 1)) + 1 := by omega
  rw [e, List.replicate_succ, List.replicate_succ', List.append_assoc]
  simp
/-- Operations that do nothing but hand on a value. -/
def quiet (o : Oper) : Bool := match o.guard with
  | some _ => false
  | none => match o.op with
    | .move _ => true
    | .assign _ => true
    | .extract _ _ => true
    | _ => false
theorem quiet_yields {ops : Array Oper} {o : Oper} {a : Act} {w : World} {K : Act → World → Prop} (hq : quiet o = true) (h : o.wp P a w K Q ∨ (o.asks P a w ∧ LetsOut Q)) : ∃ v, Yields P ops o v a ∧ K (a.put o.dst v) w := by
  obtain ⟨dst, op, type, pos, after, guard⟩ := o
  cases guard with
  | some g => simp [quiet] at hq
  | none =>
    cases op <;> first | (simp [quiet] at hq; done) | skip
    case move x =>
      refine ⟨a.eval x, .inl ⟨by simp [Region.wanted], fun w => by simp [execOp, go_sem]⟩, ?_⟩
      rcases h with h | ⟨h, _⟩
      · simpa [Oper.wp, execOp, go_sem, Oper.upon] using h
      · exact absurd h (by simp [Oper.asks, execOp, Sem.runT, Sem.events, pure, bind])
    case assign x =>
      refine ⟨a.eval x, .inl ⟨by simp [Region.wanted], fun w => by simp [execOp, go_sem]⟩, ?_⟩
      rcases h with h | ⟨h, _⟩
      · simpa [Oper.wp, execOp, go_sem, Oper.upon] using h
      · exact absurd h (by simp [Oper.asks, execOp, Sem.runT, Sem.events, pure, bind])
    case extract x i =>
      rcases h with h | ⟨h, _⟩
      · unfold Oper.wp at h
        simp only [execOp, Instr.extract] at h
        split at h
        · rename_i vs hx
          split at h
          · rename_i v hv
            refine ⟨v, .inl ⟨by simp [Region.wanted], fun w => by simp only [execOp, hx, Instr.extract, hv]; rfl⟩, ?_⟩
            simpa [go_sem, Oper.upon] using h
          · simp [go_sem, Oper.upon, stuck] at h
        · simp [go_sem, Oper.upon, stuck] at h
      · exfalso
        unfold Oper.asks at h
        simp only [execOp, Instr.extract] at h
        split at h
        · split at h
          · simp [Sem.runT, Sem.events, Sem.bind, pure, bind] at h
          · simp [Sem.runT, Sem.events, Sem.bind, pure, bind, stuck] at h
        · simp [Sem.runT, Sem.events, Sem.bind, pure, bind, stuck] at h
/-- From operation k on: each is the only one that may come next, or merely hands on a value that nobody looks at beforehand. -/
def seqFrom (l : List Oper) : Nat → Nat → Bool
  | _, 0 => true
  | k, m + 1 => (match Region.ready .any l.toArray (trL k l.length) with
    | [] => false
    | [j] => Nat.beq j k
    | r => memN k r && (match l.toArray[k]? with
      | some o => quiet o
      | none => false) && Region.free .any l.toArray (trL k l.length) k) && seqFrom l (k + 1) m
theorem any_of_list (hn : Region.noSelect l.toArray = true) (hQ : ∀ c (a : Act) d v w, Q (.panic c) (a.put d v) w → Q (.panic c) a w) :
    ∀ (m k : Nat), k + m = l.length → seqFrom l k m = true → ∀ a w, wpList P l.toArray Q (l.drop k) a w → wpAny P .any l.toArray Q m (trL k l.length) a w := by
  intro m
  induction m with
  | zero =>
    intro k hk _ a w h
    have hk : k = l.length := by omega
    subst hk
    rw [List.drop_length] at h
    refine ⟨List.eq_nil_iff_forall_not_mem.2 fun j hj => ?_, h⟩
    obtain ⟨h0, o, ho, _⟩ := mem_ready.1 hj
    have hlt : j < l.length := by simpa using (Array.getElem?_eq_some_iff.1 ho).1
    rw [trL_get hlt (Nat.le_refl _)] at h0
    simp [hlt] at h0
  | succ m ih =>
    intro k hk hs a w h
    have hkl : k < l.length := by omega
    simp only [seqFrom, Bool.and_eq_true] at hs
    rw [List.drop_eq_getElem_cons hkl] at h
    have hok : l.toArray[k]? = some l[k] := by simp [hkl]
    have hnext := fun a w h => ih (k + 1) (by omega) hs.2 a w h
    rw [← trL_set hkl] at hnext
    have hone : wpOp P l.toArray Q k (wpAny P .any l.toArray Q m ((trL k l.length).setIfInBounds k true)) a w := by
      unfold wpOp
      rw [hok]
      simp only []
      unfold wpList at h
      split
      · rename_i hw
        rw [if_pos hw] at h
        exact h.imp (Oper.wp_mono hnext) id
      · rename_i hw
        rw [if_neg hw] at h
        exact hnext _ _ h
    have h1 := hs.1
    split at h1
    · cases h1
    · rename_i j hr
      have hj : j = k := Nat.eq_of_beq_eq_true h1
      subst hj
      exact wpAny_all hr (by simp) fun i hi => by rw [List.mem_singleton.1 hi]; exact hone
    · rename_i hr hr1
      rw [hok] at h1
      simp only [Bool.and_eq_true] at h1
      have hq := h1.1.2
      unfold wpList at h
      have hg : Region.wanted l[k] (yielded l.toArray a.tmps) = true := by
        unfold quiet at hq
        split at hq
        · cases hq
        · rename_i hg; simp [Region.wanted, hg]
      rw [if_pos hg] at h
      obtain ⟨v, hy, hv⟩ := quiet_yields (ops := l.toArray) hq h
      exact wpAny_take hok hn h1.2 (by simpa using memN_true.1 h1.1.1) (fun c a w h => hQ c a _ _ w h) hy (hnext _ _ hv)
theorem ak_of_rs {k : Nat} (hs : (seqFrom l k (l.length - k) && Region.noSelect l.toArray && Nat.ble k l.length) = true) (hQ : ∀ c (a : Act) d v w, Q (.panic c) (a.put d v) w → Q (.panic c) a w)
    (h : RS P N l.toArray Q (l.drop k) σ w) : AK P N k l Q σ w := fun a ha => by
  simp only [Bool.and_eq_true] at hs
  have := Nat.le_of_ble_eq_true hs.2
  exact any_of_list hs.1.2 hQ _ k (by omega) hs.1.1 a w (h a ha)
/-- Everything below j is among S, or waited for by what is. -/
def covers (ops : Array Oper) : Nat → List Nat → Bool
  | 0, _ => true
  | j + 1, S => memN j S && covers ops j (S ++ opDeps ops j)
/-- All that stands behind the first m operations waits for all of these, and they look at nothing behind them. -/
def gateOK (l : List Oper) (m : Nat) : Bool := Nat.ble m l.length && inRow 0 (l.take m) [] && ((l.take m).all fun o => match o.guard with
  | some (g, _) => Nat.blt g m
  | none => true) && (List.range (l.length - m)).all fun t => (opDeps l.toArray (m + t)).any (fun d => Nat.ble m d) || covers l.toArray m (opDeps l.toArray (m + t))
theorem covers_all {ops : Array Oper} {L : Nat → Prop} (hd : ∀ i, L i → ∀ j ∈ opDeps ops i, L j) : ∀ (m : Nat) (S : List Nat), covers ops m S = true → (∀ j ∈ S, L j) → ∀ j, j < m → L j := by
  intro m
  induction m with
  | zero => intro S _ _ j hj; omega
  | succ m ih =>
    intro S hc hS j hj
    simp only [covers, Bool.and_eq_true] at hc
    have hm := hS m (memN_true.1 hc.1)
    rcases Nat.lt_or_ge j m with h | h
    · refine ih _ hc.2 (fun j hj => ?_) j h
      rcases List.mem_append.1 hj with h | h
      · exact hS j h
      · exact hd m hm j h
    · have : j = m := by omega
      subst this; exact hm
theorem upon_then {o : Oper} {a : Act} {K K' Z : Act → World → Prop} (h : ∀ a w, K a w → K' a w) : ∀ {r : Result Next}, o.upon P a K (Exit.then Z Q) r → o.upon P a K' Q r := by
  intro r hh
  cases r with
  | ok n w' =>
    cases n <;> simp only [Oper.upon] at hh ⊢ <;>
      first
        | exact h _ _ hh
        | exact Calls.mono hh (fun e w'' he => by cases e <;> first | exact h _ _ he | exact he)
        | exact Rows.mono hh (fun _ _ he => h _ _ he)
        | exact hh
  | halt x w' => cases x <;> simp only [Oper.upon] at hh ⊢ <;> exact hh
end
section
variable {P : Program} {N : Nat} {Q : Exit → Act → World → Prop} {σ : Env} {l : List Oper}
theorem aw_drawn {w : World} (Y : Nat → Prop) (hY : ∀ k, Y k → k < w.heap.size) (bs : List Bx) (os : List Ox) (F : Nat → Fx) (hok : (inRow 0 l [] && bxOK bs && bxWF l bs bs && dstOK N l && oxOK bs os) = true) (hos : OutsAre Y w os) (hin : ∀ o ∈ os, l[o.st]? ≠ none)
    (hsteps : StepsOK P N l.toArray Q σ bs os F w 0 l)
    (hend : ∀ vs w', Ext (Mut (outM os)) w w' → AllOut σ l.toArray vs w' os → AllLeft Y bs F vs w' 0 l → AllFilled P σ l.toArray vs w w' bs → AllApart vs bs → EW N Q .normal (envEnd σ l vs) w') : AK P N 0 l Q σ w := by
  simp only [Bool.and_eq_true] at hok
  obtain ⟨⟨⟨⟨hrow, hbx⟩, hwf⟩, hdl⟩, hox⟩ := hok
  have hoat : ∀ {r : List Ox}, OutsAre Y w r → ∀ o ∈ r, Y o.g ∧ Blk w o.g o.T o.cs := by
    intro r
    induction r with
    | nil => intro _ o ho; cases ho
    | cons x r ih =>
      intro h o ho
      rcases List.mem_cons.1 ho with rfl | ho
      · exact ⟨h.1.1, h.1.2.1⟩
      · exact ih h.2 o ho
  have hopw : ∀ {r : List Ox}, OutsAre Y w r → oxOK bs r = true → ∀ a ∈ r, ∀ b ∈ r, a ≠ b → a.g ≠ b.g ∧ a.st ≠ b.st := by
    intro r
    induction r with
    | nil => intro _ _ a ha; cases ha
    | cons x r ih =>
      intro h hk a ha b hb hab
      simp only [oxOK, Bool.and_eq_true, List.all_eq_true, Bool.not_eq_true'] at hk
      rcases List.mem_cons.1 ha with rfl | ha'
      · rcases List.mem_cons.1 hb with rfl | hb'
        · exact absurd rfl hab
        · exact ⟨h.1.2.2 b hb', fun e => by have := hk.1.2 b hb'; rw [e] at this; simp at this⟩
      · rcases List.mem_cons.1 hb with rfl | hb'
        · exact ⟨fun e => h.1.2.2 a ha' e.symm, fun e => by have := hk.1.2 a ha'; rw [e] at this; simp at this⟩
        · exact ih h.2 hk.2 a ha' b hb' hab
  have hos1 : ∀ {r : List Ox}, oxOK bs r = true → ∀ o ∈ r, boxOf bs o.st = none ∧ fillOf bs o.st = none := by
    intro r
    induction r with
    | nil => intro _ o ho; cases ho
    | cons x r ih =>
      intro hk o ho
      simp only [oxOK, Bool.and_eq_true] at hk
      rcases List.mem_cons.1 ho with rfl | ho
      · exact ⟨by simpa using hk.1.1.1, by simpa using hk.1.1.2⟩
      · exact ih hk.2 o ho
  intro a ha
  rw [show trL 0 l.length = Array.replicate l.toArray.size false by simp [trL]]
  have m0 : Mid P N Y l σ w bs os F (Array.replicate l.toArray.size false) a w (fun _ => undef) Y := by
    have hno : ∀ i, ¬ Ran (Array.replicate l.toArray.size false) i := fun i h => by
      unfold Ran at h
      by_cases hi : i < l.length <;> simp [hi] at h
    exact ⟨by simp, ha.defers, ha.size, fun t v h => ha.get t v (lk_cutE h).1, fun i d h => absurd h (hno i), fun i d v _ _ h => ha.get d v h, fun i h => absurd h (hno i), Ext.refl _ _, hY, fun _ h => h, hY,
      fun i h => absurd h (hno i), fun b _ h => absurd h (hno _), fun o ho => ⟨fun _ => (hoat hos o ho).2, fun h => absurd h (hno _)⟩, fun o ho => (hoat hos o ho).1, fun b _ c _ h => absurd h (hno _)⟩
  refine wpAny_mid (l := l) hrow hbx hwf (dstOK_at hdl) (fun o ho h => by rw [(hos1 hox o ho).1] at h; cases h) (fun o ho h => by rw [(hos1 hox o ho).2] at h; cases h) (hopw hos hox) hsteps ?_ _ _ _ _ _ _ ?_ m0
  · intro listed a w' vs X hall m
    have hlen : ∀ i (o : Oper), l[i]? = some o → Ran listed i := fun i o h => hall i (List.getElem?_eq_some_iff.1 h).1
    refine hend vs w' m.ext ?_ ?_ ?_ ?_ a ?_
    · have hst : ∀ o ∈ os, l[o.st]? ≠ none → Ran listed o.st := fun o _ h => hall _ (by
        rcases Nat.lt_or_ge o.st l.length with h1 | h1
        · exact h1
        · exact absurd (List.getElem?_eq_none h1) h)
      have key : ∀ r : List Ox, (∀ b ∈ r, b ∈ os) → AllOut σ l.toArray vs w' r := by
        intro r
        induction r with
        | nil => intro _; trivial
        | cons b r ih =>
          intro hr
          refine ⟨?_, ih fun c hc => hr c (List.mem_cons.2 (Or.inr hc))⟩
          have hb := hr b (List.mem_cons.2 (Or.inl rfl))
          exact (m.outs b hb).2 (hst b hb (hin b hb))
      exact key os (fun _ h => h)
    · have key : ∀ (r : List Oper) (k : Nat), (∀ (i : Nat) (o : Oper), r[i]? = some o → l[k + i]? = some o) → AllLeft Y bs F vs w' k r := by
        intro r
        induction r with
        | nil => intro k _; trivial
        | cons o r ih =>
          intro k hk
          refine ⟨?_, ih (k + 1) (fun i o' h => by have := hk (i + 1) o' (by simpa using h); rwa [show k + (i + 1) = k + 1 + i by omega] at this)⟩
          split
          · rename_i hb hf
            exact (m.facts k (hlen k o (by simpa using hk 0 o rfl)) hb hf).less m.outer
          · trivial
      exact key l 0 (fun i o h => by simpa using h)
    · have key : ∀ r : List Bx, (∀ b ∈ r, b ∈ bs) → AllFilled P σ l.toArray vs w w' r := by
        intro r
        induction r with
        | nil => intro _; trivial
        | cons b r ih =>
          intro hr
          refine ⟨?_, ih fun c hc => hr c (List.mem_cons.2 (Or.inr hc))⟩
          have hb := hr b (List.mem_cons.2 (Or.inl rfl))
          obtain ⟨w1, w2⟩ := bxWF_at hwf hb
          have hst : Ran listed b.st := by
            unfold opDeps at w1
            split at w1
            · rename_i o ho; exact hlen b.st o (by simpa using ho)
            · cases w1
          obtain ⟨g, cs, h1, h2, h20, h3, _, h5⟩ := m.boxes b hb (m.down _ hst _ w1)
          obtain ⟨v, y, rfl, h6, h7⟩ := h5 hst
          exact ⟨g, v, y, h1, h20, h3, h6, h7⟩
      exact key bs (fun _ h => h)
    · have key : ∀ r : List Bx, (∀ b ∈ r, b ∈ bs) → bxOK r = true → AllApart vs r := by
        intro r
        induction r with
        | nil => intro _ _; trivial
        | cons b r ih =>
          intro hr hok
          have hok' := hok
          simp only [bxOK, Bool.and_eq_true, List.all_eq_true, Bool.not_eq_true'] at hok
          refine ⟨fun c hc => ?_, ih (fun c hc => hr c (List.mem_cons.2 (Or.inr hc))) hok.2⟩
          have hb := hr b (List.mem_cons.2 (Or.inl rfl))
          have hc' := hr c (List.mem_cons.2 (Or.inr hc))
          have hran : ∀ b ∈ bs, Ran listed b.at_ := by
            intro b hb
            obtain ⟨w1, w2⟩ := bxWF_at hwf hb
            have hst : Ran listed b.st := by
              unfold opDeps at w1
              split at w1
              · rename_i o ho; exact hlen b.st o (by simpa using ho)
              · cases w1
            exact m.down _ hst _ w1
          refine m.apart b hb c hc' (hran b hb) (hran c hc') (fun e => ?_)
          have := (hok.1 c hc).1
          rw [e] at this
          simp at this
      exact key bs (fun _ h => h) hbx
    · refine ⟨m.defers, m.tmps, fun t v h => ?_⟩
      rcases lk_append h with h | h
      · obtain ⟨j, _, hjd, rfl⟩ := lk_rowE h
        obtain ⟨o, ho, _⟩ := opDst_op hjd
        exact m.ran j t (hlen j o ho) hjd
      · exact m.kept t v h
  · simp
end
section
variable {P : Program} {N : Nat} {Q : Exit → Act → World → Prop} {σ : Env} {w : World} {l : List Oper}
/-- The first m operations by themselves; then the rest. -/
theorem any_prefix {m : Nat} (hg : gateOK l m = true) : ∀ (f : Nat) (ls : List Bool) (a : Act) (w : World), ls.length = m → ls.count false = f →
    (∀ i, Ran ls.toArray i → ∀ j ∈ opDeps l.toArray i, Ran ls.toArray j) →
    wpAny P .any (l.take m).toArray (Exit.then (fun a w => wpAny P .any l.toArray Q (l.length - m) (trL m l.length) a w) Q) f ls.toArray a w →
    wpAny P .any l.toArray Q (f + (l.length - m)) (ls ++ List.replicate (l.length - m) false).toArray a w := by
  unfold gateOK at hg
  simp only [Bool.and_eq_true] at hg
  obtain ⟨⟨⟨hml, hrow⟩, hgd⟩, hcov⟩ := hg
  have hml := Nat.le_of_ble_eq_true hml
  have htk : ∀ i, i < m → (l.take m).toArray[i]? = l.toArray[i]? := fun i hi => by simp [List.getElem?_take, hi]
  have hget : ∀ (ls : List Bool) (i : Nat) (d : Bool), ls.length = m → i < m → (ls ++ List.replicate (l.length - m) false).toArray.getD i d = ls.toArray.getD i d := by
    intro ls i d hl hi
    simp [Array.getD_eq_getD_getElem?, List.getElem?_append, hl, hi]
  have hget2 : ∀ (ls : List Bool) (i : Nat), ls.length = m → m ≤ i → (ls ++ List.replicate (l.length - m) false).toArray.getD i false = false := by
    intro ls i hl hi
    have hni : ¬ i < m := by omega
    simp only [Array.getD_eq_getD_getElem?, List.getElem?_toArray, List.getElem?_append, hl, hni, if_false, List.getElem?_replicate]
    split <;> rfl
  have hfull : ∀ ls : List Bool, ls.length = m → (∀ i, i < m → Ran ls.toArray i) → ls.count false = 0 := by
    intro ls hl h
    refine List.count_eq_zero.2 fun hf => ?_
    obtain ⟨i, hi, he⟩ := List.getElem_of_mem hf
    have := h i (by omega)
    unfold Ran at this
    simp [hi, he] at this
  intro f
  induction f with
  | zero =>
    intro ls a w hl hc hd h
    have hall : ls = List.replicate m true := by
      refine List.eq_replicate_iff.2 ⟨hl, fun b hb => ?_⟩
      cases b with
      | true => rfl
      | false => exact absurd hb (List.count_eq_zero.1 hc)
    have h2 := h.2
    rw [Nat.zero_add, hall]
    exact h2
  | succ f ih =>
    intro ls a w hl hc hd h
    rw [Nat.succ_add]
    refine ⟨fun hr => ?_, fun i hi => ?_⟩
    · exfalso
      have hall : ∀ i, i < m → Ran ls.toArray i := by
        intro i
        induction i using Nat.strongRecOn with
        | _ i ihi =>
          intro him
          rcases Classical.em (Ran ls.toArray i) with h' | h'
          · exact h'
          · exfalso
            have : i ∈ Region.ready .any l.toArray (ls ++ List.replicate (l.length - m) false).toArray := by
              have hil : i < l.length := by omega
              refine mem_ready.2 ⟨?_, l[i], by simp [hil], fun e he hb => ?_⟩
              · rw [hget ls i true hl him]
                unfold Ran at h'
                have : i < ls.length := by omega
                simp [this] at h' ⊢
                exact h'
              · have hlt := (inRow_at hrow (i := i) (o := l[i]) (by simp [List.getElem?_take, him, hil])).1 e.on (mem_depsL (by simpa using he) hb)
                have hei : e.on < i := by omega
                rw [hget ls e.on false hl (by omega)]
                exact ihi e.on hei (by omega)
            rw [hr] at this
            cases this
      have := hfull ls hl hall
      omega
    · obtain ⟨h0, o, ho, hdep⟩ := mem_ready.1 hi
      rcases Nat.lt_or_ge i m with him | him
      · have hdl : ∀ j ∈ opDeps l.toArray i, Ran ls.toArray j := by
          intro j hj
          have ho' : l[i]? = some o := by simpa using ho
          unfold opDeps at hj
          rw [ho] at hj
          obtain ⟨e, he, hb, rfl⟩ := of_mem_depsL hj
          have hlt := (inRow_at hrow (i := i) (o := o) (by simp [List.getElem?_take, him, ho'])).1 e.on (mem_depsL he hb)
          have := hdep e (by simpa using he) hb
          rwa [hget ls e.on false hl (by omega)] at this
        rw [hget ls i true hl him] at h0
        have hi1 : i ∈ Region.ready .any (l.take m).toArray ls.toArray := by
          refine mem_ready.2 ⟨h0, o, by rw [htk i him]; exact ho, fun e he hb => ?_⟩
          refine hdl e.on ?_
          unfold opDeps
          rw [ho]
          exact mem_depsL (by simpa using he) hb
        have h1 := h.2 i hi1
        have hset : ((ls ++ List.replicate (l.length - m) false).toArray.setIfInBounds i true) = (ls.set i true ++ List.replicate (l.length - m) false).toArray := by
          apply Array.toList_inj.1
          rw [Array.toList_setIfInBounds]
          simp [List.set_append, hl, him]
        have hset1 : ls.toArray.setIfInBounds i true = (ls.set i true).toArray := by
          apply Array.toList_inj.1
          rw [Array.toList_setIfInBounds]
        rw [hset1] at h1
        rw [hset]
        have hlsi : ls[i]? = some false := by
          have hil : i < ls.length := by omega
          have e : ls[i] = false := by simpa [hil] using h0
          simp [hil, e]
        have hK : ∀ a w, wpAny P .any (l.take m).toArray (Exit.then (fun a w => wpAny P .any l.toArray Q (l.length - m) (trL m l.length) a w) Q) f (ls.set i true).toArray a w →
            wpAny P .any l.toArray Q (f + (l.length - m)) (ls.set i true ++ List.replicate (l.length - m) false).toArray a w := by
          intro a w h
          refine ih (ls.set i true) a w (by simpa using hl) (by have := count_set ls i hlsi; omega) ?_ h
          have hup : ∀ j, Ran ls.toArray j → Ran (ls.set i true).toArray j := by
            intro j hj
            unfold Ran at hj ⊢
            rw [← hset1]
            exact getD_set_true hj
          intro j hj k hk
          rcases Classical.em (j = i) with rfl | hji
          · exact hup k (hdl k hk)
          · refine hup k (hd j ?_ k hk)
            unfold Ran at hj ⊢
            rw [← hset1, getD_set_ne false (Ne.symm hji)] at hj
            exact hj
        unfold wpOp at h1 ⊢
        rw [htk i him, ho] at h1
        rw [ho]
        simp only [] at h1 ⊢
        have hy : Region.wanted o (yielded (l.take m).toArray a.tmps) = Region.wanted o (yielded l.toArray a.tmps) := by
          unfold Region.wanted
          cases hgo : o.guard with
          | none => rfl
          | some gw =>
            obtain ⟨g, want⟩ := gw
            have hmem : o ∈ l.take m := by
              have ho' : l[i]? = some o := by simpa using ho
              exact List.mem_of_getElem? (i := i) (by simp [List.getElem?_take, him, ho'])
            have := (List.all_eq_true.1 hgd) o hmem
            rw [hgo] at this
            have hgm : g < m := Nat.le_of_ble_eq_true this
            simp only [yielded, htk g hgm]
        rw [← hy]
        split
        · rename_i hw
          rw [if_pos hw] at h1
          rcases h1 with h1 | ⟨h1, h2⟩
          · exact .inl (upon_then hK h1)
          · exact .inr ⟨h1, h2⟩
        · rename_i hw
          rw [if_neg hw] at h1
          exact hK _ _ h1
      · exfalso
        have hil : i < l.length := by simpa using (Array.getElem?_eq_some_iff.1 ho).1
        have hdl : ∀ j ∈ opDeps l.toArray i, (ls ++ List.replicate (l.length - m) false).toArray.getD j false = true := by
          intro j hj
          unfold opDeps at hj
          rw [ho] at hj
          obtain ⟨e, he, hb, rfl⟩ := of_mem_depsL hj
          exact hdep e (by simpa using he) hb
        have hc2 := (List.all_eq_true.1 hcov) (i - m) (List.mem_range.2 (by omega))
        rw [show m + (i - m) = i by omega, Bool.or_eq_true] at hc2
        rcases hc2 with hc2 | hc2
        · obtain ⟨j, hj, hmj⟩ := List.any_eq_true.1 hc2
          have := hdl j hj
          rw [hget2 ls j hl (Nat.le_of_ble_eq_true hmj)] at this
          cases this
        · have hall := covers_all (L := fun j => (Ran ls.toArray j)) hd m _ hc2 (fun j hj => by
            have := hdl j hj
            rcases Nat.lt_or_ge j m with h' | h'
            · rwa [hget ls j false hl h'] at this
            · rw [hget2 ls j hl h'] at this; cases this)
          have := hfull ls hl hall
          omega
theorem ak_cut (m : Nat) (hg : gateOK l m = true) (h : AK P N 0 (l.take m) (Exit.then (fun a w => wpAny P .any l.toArray Q (l.length - m) (trL m l.length) a w) Q) σ w) : AK P N 0 l Q σ w := fun a ha => by
  have hml : m ≤ l.length := by
    unfold gateOK at hg
    simp only [Bool.and_eq_true] at hg
    exact Nat.le_of_ble_eq_true hg.1.1.1
  have hlen : (l.take m).length = m := by simp [hml]
  have h1 := h a ha
  have := any_prefix hg m (List.replicate m false) a w (by simp) (by simp) (fun i hi => by
    unfold Ran at hi
    by_cases h' : i < m <;> simp [h'] at hi) (by
      unfold trL at h1
      rw [hlen] at h1
      simpa [trL] using h1)
  rw [List.replicate_append_replicate] at this
  have e : m + (l.length - m) = l.length := by omega
  rw [e] at this
  unfold trL
  simpa using this
theorem ew_ak {m : Nat} (h : AK P N m l Q σ w) : EW N (Exit.then (fun a w => wpAny P .any l.toArray Q (l.length - m) (trL m l.length) a w) Q) .normal σ w := fun a ha => h a ha
end
section
variable {P : Program} {N : Nat} {ops : Array Oper} {Q : Exit → Act → World → Prop} {σ : Env} {w : World} {ty : TypeId} {pos : String} {af : Array Edge} {dst : Option Nat} {Post : Value → World → Prop}
/-- An array as a slice. -/
theorem ow_sliceAll {T e : TypeId} {x : Operand} {g n s : Nat} (hd : P.underlying T = some (.array n e)) (hs : SizeIs P e s) (hx : ev σ x = some (.pointer (some ⟨g, 0, none⟩)))
    (k : Post (.slice (some ⟨g, 0, none⟩) n n) w) : OW P N ops Q ⟨dst, .slice T x none none none, ty, pos, af, none⟩ σ w Post :=
  ow_val (fun ρ ha => by
    simp only [execOp, Instr.sliceAt, Option.map_none, ha hx, Sem.run_bind, run_underlying hd, Result.andThen_ok, Instr.sureAddr, Instr.sliceBounds, Sem.run_pure, run_size hs, Option.isSome_none, Bool.false_eq_true, if_false]
    simp [Addr.add]) k
/-- A slice cut at its end. -/
theorem ow_sliceH {T e : TypeId} {x y : Operand} {g n c s h : Nat} {q : IntKind} {m : Int} (hd : P.underlying T = some (.slice e)) (hs : SizeIs P e s) (hx : ev σ x = some (.slice (some ⟨g, 0, none⟩) n c)) (hy : ev σ y = some (.int q m)) (hm : m = (h : Int)) (hc : h ≤ c)
    (k : Post (.slice (some ⟨g, 0, none⟩) h c) w) : OW P N ops Q ⟨dst, .slice T x none (some y) none, ty, pos, af, none⟩ σ w Post :=
  ow_slice (l := 0) (h := h) hd hs hx rfl ⟨q, by rw [hy, hm]⟩ (Nat.zero_le _) hc (by
    rw [Nat.sub_zero, Nat.sub_zero, Nat.zero_mul]
    split
    · exact k
    · exact k)
end
end Go.Proofs.YtljndllhmdpjlaaGreatDoor
namespace Go.Proofs.YtljndllhmdpjlaaGreatDoor
theorem ex59 : Ext_ Tryz.prog 59 Extern.MathFloatBits.float64bits := ⟨_, Tryz.func59, by kernel_rfl, by kernel_rfl, by kernel_rfl, by kernel_rfl⟩
theorem ex60 : Ext_ Tryz.prog 60 Extern.MathFloatBits.float64frombits := ⟨_, Tryz.func60, by kernel_rfl, by kernel_rfl, by kernel_rfl, by kernel_rfl⟩
theorem ex112 : Ext_ Tryz.prog 112 (Extern.MathFloor.toIntegral "math.archTrunc" .zero) := ⟨_, Tryz.func112, by kernel_rfl, by kernel_rfl, by kernel_rfl, by kernel_rfl⟩
theorem ex131 : Ext_ Tryz.prog 131 Extern.BytealgIndexByte.indexByte := ⟨_, Tryz.func131, by kernel_rfl, by kernel_rfl, by kernel_rfl, by kernel_rfl⟩
theorem ex136 : Ext_ Tryz.prog 136 (Extern.MathFloor.toIntegral "math.archFloor" .down) := ⟨_, Tryz.func136, by kernel_rfl, by kernel_rfl, by kernel_rfl, by kernel_rfl⟩
theorem ex155 : Ext_ Tryz.prog 155 Extern.MathFloatBits.float64bits := ⟨_, Tryz.func155, by kernel_rfl, by kernel_rfl, by kernel_rfl, by kernel_rfl⟩
end Go.Proofs.YtljndllhmdpjlaaGreatDoor
namespace Go.Proofs.YtljndllhmdpjlaaGreatDoor
open Go.RowKit
set_option maxRecDepth 100000
/-- The one NaN in place of each. -/
def bareN (m : Nat) : Nat := if isN m then 9221120237041090560 else m
def ansF (z : Option Nat) : Nat := z.getD 9221120237041090560
theorem FRes.bare {op : BinOp} {a b r : Nat} {w w' : World} (h : FRes (fop op a b) r w w') : bareN r = ansF (fop op a b) := by
  rcases h with ⟨hz, _⟩ | ⟨hz, hn, _⟩
  · rw [hz]; unfold bareN ansF; rw [(fop_num hz).1]; rfl
  · rw [hz]; unfold bareN ansF; rw [nan_isN hn]; rfl
theorem ford_self (m : Nat) : (ford m m != some .eq) = isN m := by
  cases h : isN m with
  | true => rw [ford_nan (.inl h)]; rfl
  | false => rw [ford_val h h, cmp3_self]; rfl
theorem ofInt_nat (m : Nat) (h : m < 18446744073709551616) : (BitVec.ofInt 64 (m : Int)).toNat = m := by
  rw [BitVec.toNat_ofInt]
  omega
theorem wrap_nat {m : Nat} (h : m < 18446744073709551616) : IntKind.u64.wrap (m : Int) = (m : Int) := wrap_u64 (by omega)
theorem and_bits {m n : Nat} (hm : m < 18446744073709551616) (hn : n < 18446744073709551616) : IntKind.u64.wrap (BitVec.ofInt IntKind.u64.bits (m : Int) &&& BitVec.ofInt IntKind.u64.bits (n : Int)).toNat = ((m &&& n : Nat) : Int) := by
  have h1 := ofInt_nat m hm
  have h2 := ofInt_nat n hn
  show IntKind.u64.wrap (((BitVec.ofInt 64 (m : Int) &&& BitVec.ofInt 64 (n : Int)).toNat : Nat) : Int) = _
  rw [BitVec.toNat_and, h1, h2]
  exact wrap_nat (Nat.lt_of_le_of_lt Nat.and_le_left hm)
theorem and_low {m : Nat} (hm : m < 18446744073709551616) : IntKind.u64.wrap (BitVec.ofInt IntKind.u64.bits (m : Int) &&& BitVec.ofInt IntKind.u64.bits 9223372036854775807).toNat = ((rg m : Nat) : Int) := by
  have := and_bits (n := 9223372036854775807) hm (by decide)
  rw [show m &&& 9223372036854775807 = rg m from Nat.and_two_pow_sub_one_eq_mod m 63] at this
  exact this
def isZ (b : Nat) : Bool := decide (rg b = 0)
theorem ford_zero (b : Nat) : (ford b 0 == some .eq) = isZ b := by
  cases h : isN b with
  | true =>
    rw [ford_nan (.inl h)]
    have : isZ b = false := by unfold isN at h; unfold isZ; simp at h ⊢; omega
    rw [this]; rfl
  | false =>
    rw [ford_val h (by decide)]
    have h0 : pc 0 = 0 := by decide
    rw [h0, cmp3, isZ]
    by_cases hz : rg b = 0
    · have : pc b = 0 := by unfold pc; split <;> omega
      rw [this]; simp [hz]
    · have : pc b ≠ 0 := by unfold pc; split <;> omega
      rw [if_neg this]; split <;> simp [hz] <;> decide
def divV (a b : Nat) : Nat := if isZ b then 0 else ansF (fop .quo a b)
def divE (b : Nat) : Int := if isZ b then 6 else 0
def ordI (x y : Int) : Int := if x < y then -1 else if x > y then 1 else 0
def ordered (a b : Nat) : Bool := !(isN a) && !(isN b)
def cmpF (a b : Nat) : Int := if ordered a b then ordI (pc a) (pc b) else 0
theorem ordered_some {a b : Nat} {o : Ordering} (h : (ford a b == some o) = true) : ordered a b = true := by
  unfold ordered
  cases ha : isN a with
  | true => rw [ford_nan (.inl ha)] at h; cases h
  | false =>
    cases hb : isN b with
    | true => rw [ford_nan (.inr hb)] at h; cases h
    | false => rfl
theorem ordered_val {a b : Nat} (h : ordered a b = true) : ford a b = some (cmp3 (pc a) (pc b)) := by
  unfold ordered at h
  simp at h
  exact ford_val h.1 h.2
theorem cmpF_lt {a b : Nat} (h : (ford a b == some .lt) = true) : cmpF a b = -1 := by
  have ho := ordered_some h
  rw [ordered_val ho] at h
  rw [cmpF, if_pos ho, ordI]
  unfold cmp3 at h
  split at h
  · rename_i h1; rw [if_pos h1]
  · split at h <;> cases h
theorem cmpF_gt {a b : Nat} (h : (ford a b == some .gt) = true) : cmpF a b = 1 := by
  have ho := ordered_some h
  rw [ordered_val ho] at h
  rw [cmpF, if_pos ho, ordI]
  unfold cmp3 at h
  split at h
  · cases h
  · split at h
    · cases h
    · rename_i h1 h2; rw [if_neg h1, if_pos (by omega)]
theorem cmpF_no {a b : Nat} (h : (ford a b == some .lt) = false) (h2 : (ford a b == some .gt) = false) : cmpF a b = 0 ∧ ordered a b = (ford a b == some .eq) := by
  cases ho : ordered a b with
  | true =>
    rw [ordered_val ho] at h h2 ⊢
    rw [cmpF, if_pos ho, ordI]
    rcases Int.lt_trichotomy (pc a) (pc b) with h1 | h1 | h1
    · rw [cmp3_lt h1] at h; cases h
    · rw [h1, cmp3_self]; exact ⟨by rw [if_neg (by omega), if_neg (by omega)], rfl⟩
    · rw [cmp3_gt h1] at h2; cases h2
  | false =>
    refine ⟨by rw [cmpF, if_neg (by rw [ho]; decide)], ?_⟩
    unfold ordered at ho
    cases ha : isN a with
    | true => rw [ford_nan (.inl ha)]; rfl
    | false =>
      cases hb : isN b with
      | true => rw [ford_nan (.inr hb)]; rfl
      | false => rw [ha, hb] at ho; cases ho
theorem eqI_nat {m n : Nat} : decide (m = n) = (((m : Nat) : Int) == ((n : Nat) : Int)) := by
  by_cases h : m = n
  · subst h; simp
  · have : ((m : Nat) : Int) ≠ ((n : Nat) : Int) := by omega
    simp [h, this]
section
variable (w : World)
/-! ### package real -/
theorem bare_any (m : Nat) : Calls Tryz.prog 57 #[.float .f64 m] w fun e w' => e = .returned (.int .u64 ((bareN m : Nat) : Int)) ∧ Below w.heap.size w w' := by
  refine calls_cw Tryz.func57 rfl Tryz.ntmps57 rfl ?_
  have HF : Per (No) w (fun _ => True) := Per.true_
  have LW := Ext.refl (No) w
  have XLW : ∀ q9, (No) q9 → (No) q9 ∨ w.heap.size ≤ q9 := fun _ h => Or.inl h
  have E := Ext.refl (No) w
  refine cw_seq ?_
  refine cw_region ?_
  refine rs_op rfl (ow_assign rfl ?_)
  refine rs_nil ?_
  refine ew_next ?_
  refine cw_seq ?_
  refine cw_seq ?_
  refine cw_region ?_
  refine rs_op rfl (ow_move rfl ?_)
  refine rs_op rfl (ow_move rfl ?_)
  refine rs_op rfl (ow_fneq rfl rfl ?_)
  refine rs_nil ?_
  refine ew_next ?_
  refine cw_set 5 (.bool (isN m)) rfl ((by rw [ford_self] : (.bool (ford m m != some .eq) : Value) = _)) ?_
  refine cw_cond rfl (fun h => ?_) (fun h => ?_)
  · have _way := True.intro
    refine cw_seq ?_
    refine cw_region ?_
    refine rs_op rfl (ow_assign rfl ?_)
    refine rs_nil ?_
    refine ew_next ?_
    refine cw_ret ?_
    refine ew_then_ret ?_
    refine ew_ret (rs := [.tmp 2]) (vs := [_]) rfl ⟨rfl, trivial⟩ ?_
    exact ⟨by rw [bareN, if_pos h]; rfl, (LW.step E XLW).toBelow⟩
  · have _way := True.intro
    refine cw_skip ?_
    refine ew_next ?_
    refine cw_seq ?_
    refine cw_region ?_
    refine rs_op rfl (ow_move rfl ?_)
    refine rs_op rfl (ow_bits ex59 rfl ?_)
    refine rs_op rfl (ow_assign rfl ?_)
    refine rs_nil ?_
    refine ew_next ?_
    refine cw_ret ?_
    refine ew_ret (rs := [.tmp 2]) (vs := [_]) rfl ⟨rfl, trivial⟩ ?_
    exact ⟨by rw [bareN, if_neg (by rw [h]; decide)]; rfl, (LW.step E XLW).toBelow⟩
section
variable (a b : Nat)
theorem cmp_any_r : Calls Tryz.prog 33 #[.int .u64 ((a : Nat) : Int), .int .u64 ((b : Nat) : Int)] w fun e w' => e = .returned (.tuple #[.int .i64 (cmpF a b), .bool (ordered a b)]) ∧ Below w.heap.size w w' := by
  refine calls_cw Tryz.func33 rfl Tryz.ntmps33 rfl ?_
  have HF : Per (No) w (fun _ => True) := Per.true_
  have LW := Ext.refl (No) w
  have XLW : ∀ q9, (No) q9 → (No) q9 ∨ w.heap.size ≤ q9 := fun _ h => Or.inl h
  have E := Ext.refl (No) w
  refine cw_seq ?_
  refine cw_region ?_
  refine rs_op rfl (ow_assign rfl ?_)
  refine rs_op rfl (ow_assign rfl ?_)
  refine rs_nil ?_
  refine ew_next ?_
  refine cw_seq ?_
  refine cw_region ?_
  refine rs_op rfl (ow_move rfl ?_)
  refine rs_op rfl (ow_frombits (b := a) ex60 rfl ?_)
  refine rs_op rfl (ow_move rfl ?_)
  refine rs_op rfl (ow_frombits (b := b) ex60 rfl ?_)
  refine rs_op rfl (ow_assign rfl ?_)
  refine rs_op rfl (ow_assign rfl ?_)
  refine rs_nil ?_
  refine ew_next ?_
  refine cw_seq ?_
  refine cw_block ?_
  refine cw_seq ?_
  refine cw_region ?_
  refine rs_op rfl (ow_move rfl ?_)
  refine rs_op rfl (ow_move rfl ?_)
  refine rs_op rfl (ow_flss rfl rfl ?_)
  refine rs_op rfl (ow_assign rfl ?_)
  refine rs_nil ?_
  refine ew_next ?_
  refine cw_cond rfl (fun h => ?_) (fun h => ?_)
  · have _way := True.intro
    refine cw_seq ?_
    refine cw_region ?_
    refine rs_op rfl (ow_assign rfl ?_)
    refine rs_op rfl (ow_assign rfl ?_)
    refine rs_nil ?_
    refine ew_next ?_
    refine cw_ret ?_
    refine ew_block_ret ?_
    refine ew_then_ret ?_
    refine ew_ret (rs := [.tmp 4, .tmp 5]) (vs := [_, _]) rfl ⟨rfl, rfl, trivial⟩ ?_
    exact ⟨by rw [cmpF_lt h, ordered_some h]; rfl, (LW.step E XLW).toBelow⟩
  · have _way := True.intro
    refine cw_seq ?_
    refine cw_region ?_
    refine rs_op rfl (ow_move rfl ?_)
    refine rs_op rfl (ow_move rfl ?_)
    refine rs_op rfl (ow_fgtr rfl rfl ?_)
    refine rs_op rfl (ow_assign rfl ?_)
    refine rs_nil ?_
    refine ew_next ?_
    refine cw_cond rfl (fun h2 => ?_) (fun h2 => ?_)
    · have _way := True.intro
      refine cw_seq ?_
      refine cw_region ?_
      refine rs_op rfl (ow_assign rfl ?_)
      refine rs_op rfl (ow_assign rfl ?_)
      refine rs_nil ?_
      refine ew_next ?_
      refine cw_ret ?_
      refine ew_block_ret ?_
      refine ew_then_ret ?_
      refine ew_ret (rs := [.tmp 4, .tmp 5]) (vs := [_, _]) rfl ⟨rfl, rfl, trivial⟩ ?_
      exact ⟨by rw [cmpF_gt h2, ordered_some h2]; rfl, (LW.step E XLW).toBelow⟩
    · have _way := True.intro
      refine cw_skip ?_
      refine ew_block_normal ?_
      refine ew_next ?_
      refine cw_seq ?_
      refine cw_region ?_
      refine rs_op rfl (ow_move rfl ?_)
      refine rs_op rfl (ow_move rfl ?_)
      refine rs_op rfl (ow_feql rfl rfl ?_)
      refine rs_op rfl (ow_assign rfl ?_)
      refine rs_op rfl (ow_assign rfl ?_)
      refine rs_nil ?_
      refine ew_next ?_
      refine cw_ret ?_
      refine ew_ret (rs := [.tmp 4, .tmp 5]) (vs := [_, _]) rfl ⟨rfl, rfl, trivial⟩ ?_
      exact ⟨by rw [(cmpF_no h h2).1, (cmpF_no h h2).2]; rfl, (LW.step E XLW).toBelow⟩
end
end
/-! ### the document's -/
section
variable (w : World)
section
variable (a : Nat) (ha : a < 18446744073709551616)
include ha
theorem isnan_any : Calls Tryz.prog 18 #[.int .u64 ((a : Nat) : Int)] w fun e w' => e = .returned (.bool (isN a)) ∧ Below w.heap.size w w' := by
  refine calls_cw Tryz.func18 rfl Tryz.ntmps18 rfl ?_
  have HF : Per (No) w (fun _ => True) := Per.true_
  have LW := Ext.refl (No) w
  have XLW : ∀ q9, (No) q9 → (No) q9 ∨ w.heap.size ≤ q9 := fun _ h => Or.inl h
  have E := Ext.refl (No) w
  refine cw_seq ?_
  refine cw_region ?_
  refine rs_op rfl (ow_assign rfl ?_)
  refine rs_nil ?_
  refine ew_next ?_
  refine cw_seq ?_
  refine cw_region ?_
  refine rs_op rfl (ow_move rfl ?_)
  refine rs_op rfl (ow_and rfl rfl (and_low ha) ?_)
  refine rs_op rfl (ow_gtr rfl rfl ?_)
  refine rs_op rfl (ow_assign rfl ?_)
  refine rs_nil ?_
  refine ew_next ?_
  refine cw_ret ?_
  refine ew_ret (rs := [.tmp 2]) (vs := [_]) rfl ⟨rfl, trivial⟩ ?_
  exact ⟨by rw [show isN a = decide (((rg a : Nat) : Int) > 9218868437227405312) from by unfold isN; congr 1; apply propext; omega]; rfl, (LW.step E XLW).toBelow⟩
theorem isinf_any : Calls Tryz.prog 34 #[.int .u64 ((a : Nat) : Int)] w fun e w' => e = .returned (.bool (decide (rg a = 9218868437227405312))) ∧ Below w.heap.size w w' := by
  refine calls_cw Tryz.func34 rfl Tryz.ntmps34 rfl ?_
  have HF : Per (No) w (fun _ => True) := Per.true_
  have LW := Ext.refl (No) w
  have XLW : ∀ q9, (No) q9 → (No) q9 ∨ w.heap.size ≤ q9 := fun _ h => Or.inl h
  have E := Ext.refl (No) w
  refine cw_seq ?_
  refine cw_region ?_
  refine rs_op rfl (ow_assign rfl ?_)
  refine rs_nil ?_
  refine ew_next ?_
  refine cw_seq ?_
  refine cw_region ?_
  refine rs_op rfl (ow_move rfl ?_)
  refine rs_op rfl (ow_and rfl rfl (and_low ha) ?_)
  refine rs_op rfl (ow_eql rfl rfl ?_)
  refine rs_op rfl (ow_assign rfl ?_)
  refine rs_nil ?_
  refine ew_next ?_
  refine cw_ret ?_
  refine ew_ret (rs := [.tmp 2]) (vs := [_]) rfl ⟨rfl, trivial⟩ ?_
  exact ⟨by rw [eqI_nat (n := 9218868437227405312)]; rfl, (LW.step E XLW).toBelow⟩
theorem below_any_r : Calls Tryz.prog 48 #[.int .u64 ((a : Nat) : Int)] w fun e w' => e = .returned (.bool (ng a)) ∧ Below w.heap.size w w' := by
  refine calls_cw Tryz.func48 rfl Tryz.ntmps48 rfl ?_
  have HF : Per (No) w (fun _ => True) := Per.true_
  have LW := Ext.refl (No) w
  have XLW : ∀ q9, (No) q9 → (No) q9 ∨ w.heap.size ≤ q9 := fun _ h => Or.inl h
  have E := Ext.refl (No) w
  refine cw_seq ?_
  refine cw_region ?_
  refine rs_op rfl (ow_assign rfl ?_)
  refine rs_nil ?_
  refine ew_next ?_
  refine cw_seq ?_
  refine cw_region ?_
  refine rs_op rfl (ow_move rfl ?_)
  refine rs_op rfl (ow_geq rfl rfl ?_)
  refine rs_op rfl (ow_assign rfl ?_)
  refine rs_nil ?_
  refine ew_next ?_
  refine cw_ret ?_
  refine ew_ret (rs := [.tmp 2]) (vs := [_]) rfl ⟨rfl, trivial⟩ ?_
  exact ⟨by rw [ng_of ha, show decide (9223372036854775808 ≤ a) = decide (((a : Nat) : Int) ≥ 9223372036854775808) from by congr 1; apply propext; omega]; rfl, (LW.step E XLW).toBelow⟩
theorem place_any : Calls Tryz.prog 89 #[.int .u64 ((a : Nat) : Int)] w fun e w' => e = .returned (.int .i64 (pc a)) ∧ Below w.heap.size w w' := by
  have hr := rg_lt a
  refine calls_cw Tryz.func89 rfl Tryz.ntmps89 rfl ?_
  have HF : Per (No) w (fun _ => True) := Per.true_
  have LW := Ext.refl (No) w
  have XLW : ∀ q9, (No) q9 → (No) q9 ∨ w.heap.size ≤ q9 := fun _ h => Or.inl h
  have E := Ext.refl (No) w
  refine cw_seq ?_
  refine cw_region ?_
  refine rs_op rfl (ow_assign rfl ?_)
  refine rs_nil ?_
  refine ew_next ?_
  refine cw_seq ?_
  refine cw_seq ?_
  refine cw_region ?_
  refine rs_op rfl (ow_move rfl ?_)
  refine rs_op rfl (ow_enter en48 rfl ((below_any_r _ a ha).mono ?_))
  rintro e w1 ⟨rfl, hb⟩
  refine ⟨_, rfl, ?_⟩
  have Ec := Ext.of_below hb No
  replace E := E.trans Ec.no
  clear hb Ec
  refine rs_nil ?_
  refine ew_next ?_
  refine cw_cond rfl (fun h => ?_) (fun h => ?_)
  · have _way := True.intro
    refine cw_seq ?_
    refine cw_region ?_
    refine rs_op rfl (ow_move rfl ?_)
    refine rs_op rfl (ow_and rfl rfl (and_low ha) ?_)
    refine rs_op rfl (ow_conv Tryz.underlying3 Tryz.underlying22 rfl (wrap_i64 (by omega)) ?_)
    refine rs_op rfl (ow_neg rfl (wrap_i64 (by omega)) ?_)
    refine rs_op rfl (ow_assign rfl ?_)
    refine rs_nil ?_
    refine ew_next ?_
    refine cw_ret ?_
    refine ew_then_ret ?_
    refine ew_ret (rs := [.tmp 2]) (vs := [_]) rfl ⟨rfl, trivial⟩ ?_
    exact ⟨by rw [pc, if_pos h, ← Int.zero_sub]; rfl, (LW.step E XLW).toBelow⟩
  · have _way := True.intro
    have hlt : a < 9223372036854775808 := by rw [ng_of ha] at h; simpa using h
    refine cw_skip ?_
    refine ew_next ?_
    refine cw_seq ?_
    refine cw_region ?_
    refine rs_op rfl (ow_move rfl ?_)
    refine rs_op rfl (ow_conv Tryz.underlying3 Tryz.underlying22 rfl (wrap_i64 (by omega)) ?_)
    refine rs_op rfl (ow_assign rfl ?_)
    refine rs_nil ?_
    refine ew_next ?_
    refine cw_ret ?_
    refine ew_ret (rs := [.tmp 2]) (vs := [_]) rfl ⟨rfl, trivial⟩ ?_
    exact ⟨by rw [pc, if_neg (by rw [h]; decide), show rg a = a from Nat.mod_eq_of_lt hlt]; rfl, (LW.step E XLW).toBelow⟩
end
theorem order_any (x y : Int) : Calls Tryz.prog 88 #[.int .i64 x, .int .i64 y] w fun e w' => e = .returned (.int .i64 (ordI x y)) ∧ Below w.heap.size w w' := by
  refine calls_cw Tryz.func88 rfl Tryz.ntmps88 rfl ?_
  have HF : Per (No) w (fun _ => True) := Per.true_
  have LW := Ext.refl (No) w
  have XLW : ∀ q9, (No) q9 → (No) q9 ∨ w.heap.size ≤ q9 := fun _ h => Or.inl h
  have E := Ext.refl (No) w
  refine cw_seq ?_
  refine cw_region ?_
  refine rs_op rfl (ow_assign rfl ?_)
  refine rs_nil ?_
  refine ew_next ?_
  refine cw_seq ?_
  refine cw_seq ?_
  refine cw_region ?_
  refine rs_op rfl (ow_move rfl ?_)
  refine rs_op rfl (ow_move rfl ?_)
  refine rs_op rfl (ow_lss rfl rfl ?_)
  refine rs_nil ?_
  refine ew_next ?_
  refine cw_cond rfl (fun h => ?_) (fun h => ?_)
  · have _way := True.intro
    refine cw_seq ?_
    refine cw_region ?_
    refine rs_op rfl (ow_assign rfl ?_)
    refine rs_nil ?_
    refine ew_next ?_
    refine cw_ret ?_
    refine ew_then_ret ?_
    refine ew_ret (rs := [.tmp 4]) (vs := [_]) rfl ⟨rfl, trivial⟩ ?_
    exact ⟨by rw [ordI, if_pos (of_decide_eq_true h)]; rfl, (LW.step E XLW).toBelow⟩
  · have _way := True.intro
    refine cw_skip ?_
    refine ew_next ?_
    refine cw_seq ?_
    refine cw_seq ?_
    refine cw_region ?_
    refine rs_op rfl (ow_move rfl ?_)
    refine rs_op rfl (ow_move rfl ?_)
    refine rs_op rfl (ow_gtr rfl rfl ?_)
    refine rs_nil ?_
    refine ew_next ?_
    refine cw_cond rfl (fun h2 => ?_) (fun h2 => ?_)
    · have _way := True.intro
      refine cw_seq ?_
      refine cw_region ?_
      refine rs_op rfl (ow_assign rfl ?_)
      refine rs_nil ?_
      refine ew_next ?_
      refine cw_ret ?_
      refine ew_then_ret ?_
      refine ew_ret (rs := [.tmp 4]) (vs := [_]) rfl ⟨rfl, trivial⟩ ?_
      exact ⟨by rw [ordI, if_neg (of_decide_eq_false h), if_pos (of_decide_eq_true h2)]; rfl, (LW.step E XLW).toBelow⟩
    · have _way := True.intro
      refine cw_skip ?_
      refine ew_next ?_
      refine cw_seq ?_
      refine cw_region ?_
      refine rs_op rfl (ow_assign rfl ?_)
      refine rs_nil ?_
      refine ew_next ?_
      refine cw_ret ?_
      refine ew_ret (rs := [.tmp 4]) (vs := [_]) rfl ⟨rfl, trivial⟩ ?_
      exact ⟨by rw [ordI, if_neg (of_decide_eq_false h), if_neg (of_decide_eq_false h2)]; rfl, (LW.step E XLW).toBelow⟩
section
variable (a b : Nat) (ha : a < 18446744073709551616) (hb : b < 18446744073709551616)
include ha hb
theorem rcmp_any_r : Calls Tryz.prog 45 #[.int .u64 ((a : Nat) : Int), .int .u64 ((b : Nat) : Int)] w fun e w' => e = .returned (.tuple #[.int .i64 (cmpF a b), .bool (ordered a b)]) ∧ Below w.heap.size w w' := by
  refine calls_cw Tryz.func45 rfl Tryz.ntmps45 rfl ?_
  have HF : Per (No) w (fun _ => True) := Per.true_
  have LW := Ext.refl (No) w
  have XLW : ∀ q9, (No) q9 → (No) q9 ∨ w.heap.size ≤ q9 := fun _ h => Or.inl h
  have E := Ext.refl (No) w
  refine cw_seq ?_
  refine cw_region ?_
  refine rs_op rfl (ow_assign rfl ?_)
  refine rs_op rfl (ow_assign rfl ?_)
  refine rs_nil ?_
  refine ew_next ?_
  refine cw_seq ?_
  refine cw_seq ?_
  refine cw_region ?_
  refine rs_op rfl (ow_move rfl ?_)
  refine rs_op rfl (ow_enter en18 rfl ((isnan_any _ a ha).mono ?_))
  rintro e w1 ⟨rfl, hb⟩
  refine ⟨_, rfl, ?_⟩
  have Ec := Ext.of_below hb No
  replace E := E.trans Ec.no
  clear hb Ec
  refine rs_op rfl (ow_move rfl ?_)
  refine rs_split 8 rfl (fun q => ?_) (fun q => ?_)
  · have _way := True.intro
    refine rs_op rfl (ow_off rfl ?_)
    refine rs_op rfl (ow_off rfl ?_)
    refine rs_op rfl (ow_pickT rfl rfl ?_)
    refine rs_nil ?_
    refine ew_next ?_
    refine cw_then rfl ?_
    refine cw_seq ?_
    refine cw_region ?_
    refine rs_op rfl (ow_assign rfl ?_)
    refine rs_op rfl (ow_assign rfl ?_)
    refine rs_nil ?_
    refine ew_next ?_
    refine cw_ret ?_
    refine ew_then_ret ?_
    refine ew_ret (rs := [.tmp 4, .tmp 5]) (vs := [_, _]) rfl ⟨rfl, rfl, trivial⟩ ?_
    exact ⟨by rw [cmpF, if_neg (by rw [ordered, q]; simp), ordered, q]; rfl, (LW.step E XLW).toBelow⟩
  · have _way := True.intro
    refine rs_op rfl (ow_on rfl (ow_move rfl ?_))
    refine rs_op rfl (ow_on rfl (ow_enter en18 rfl ((isnan_any _ b hb).mono ?_)))
    rintro e w2 ⟨rfl, hb⟩
    refine ⟨_, rfl, ?_⟩
    have Ec := Ext.of_below hb No
    replace E := E.trans Ec.no
    clear hb Ec
    refine rs_op rfl (ow_pickF rfl rfl ?_)
    refine rs_nil ?_
    refine ew_next ?_
    refine cw_cond rfl (fun q2 => ?_) (fun q2 => ?_)
    · have _way := True.intro
      refine cw_seq ?_
      refine cw_region ?_
      refine rs_op rfl (ow_assign rfl ?_)
      refine rs_op rfl (ow_assign rfl ?_)
      refine rs_nil ?_
      refine ew_next ?_
      refine cw_ret ?_
      refine ew_then_ret ?_
      refine ew_ret (rs := [.tmp 4, .tmp 5]) (vs := [_, _]) rfl ⟨rfl, rfl, trivial⟩ ?_
      exact ⟨by rw [cmpF, if_neg (by rw [ordered, q, q2]; decide), ordered, q, q2]; rfl, (LW.step E XLW).toBelow⟩
    · have _way := True.intro
      refine cw_skip ?_
      refine ew_next ?_
      refine cw_seq ?_
      refine cw_region ?_
      refine rs_op rfl (ow_move rfl ?_)
      refine rs_op rfl (ow_enter en89 rfl ((place_any _ a ha).mono ?_))
      rintro e w3 ⟨rfl, hb⟩
      refine ⟨_, rfl, ?_⟩
      have Ec := Ext.of_below hb No
      replace E := E.trans Ec.no
      clear hb Ec
      refine rs_op rfl (ow_move rfl ?_)
      refine rs_op rfl (ow_enter en89 rfl ((place_any _ b hb).mono ?_))
      rintro e w4 ⟨rfl, hb⟩
      refine ⟨_, rfl, ?_⟩
      have Ec := Ext.of_below hb No
      replace E := E.trans Ec.no
      clear hb Ec
      refine rs_op rfl (ow_enter en88 rfl ((order_any _ (pc a) (pc b)).mono ?_))
      rintro e w5 ⟨rfl, hb⟩
      refine ⟨_, rfl, ?_⟩
      have Ec := Ext.of_below hb No
      replace E := E.trans Ec.no
      clear hb Ec
      refine rs_op rfl (ow_assign rfl ?_)
      refine rs_op rfl (ow_assign rfl ?_)
      refine rs_nil ?_
      refine ew_next ?_
      refine cw_ret ?_
      refine ew_ret (rs := [.tmp 4, .tmp 5]) (vs := [_, _]) rfl ⟨rfl, rfl, trivial⟩ ?_
      exact ⟨by rw [cmpF, if_pos (by rw [ordered, q, q2]; rfl), ordered, q, q2]; rfl, (LW.step E XLW).toBelow⟩
end
end
end Go.Proofs.YtljndllhmdpjlaaGreatDoor
namespace Go.Proofs.YtljndllhmdpjlaaGreatDoor
open Go.RowKit
set_option maxRecDepth 100000
theorem ofInt_cast (m : Nat) : BitVec.ofInt 64 ((m : Nat) : Int) = BitVec.ofNat 64 m := BitVec.ofInt_natCast 64 m
theorem andNot_sign {a : Nat} (ha : a < 18446744073709551616) : IntKind.u64.wrap (BitVec.ofInt IntKind.u64.bits ((a : Nat) : Int) &&& ~~~BitVec.ofInt IntKind.u64.bits 9223372036854775808).toNat = ((rg a : Nat) : Int) := by
  have h := andNot_sign_nat ha
  show IntKind.u64.wrap (((BitVec.ofInt 64 ((a : Nat) : Int) &&& ~~~BitVec.ofInt 64 ((9223372036854775808 : Nat) : Int)).toNat : Nat) : Int) = _
  rw [ofInt_cast, ofInt_cast, h]
  exact wrap_nat (Nat.lt_trans (rg_lt a) (by decide))
theorem andNot_exp {a : Nat} (ha : a < 18446744073709551616) : IntKind.u64.wrap (BitVec.ofInt IntKind.u64.bits ((a : Nat) : Int) &&& ~~~BitVec.ofInt IntKind.u64.bits 9218868437227405312).toNat = ((a / 9223372036854775808 * 9223372036854775808 + a % 4503599627370496 : Nat) : Int) := by
  have h := andNot_exp_nat ha
  show IntKind.u64.wrap (((BitVec.ofInt 64 ((a : Nat) : Int) &&& ~~~BitVec.ofInt 64 ((9218868437227405312 : Nat) : Int)).toNat : Nat) : Int) = _
  rw [ofInt_cast, ofInt_cast, h]
  exact wrap_nat (by omega)
theorem or_bits {m n : Nat} (hm : m < 18446744073709551616) (hn : n < 18446744073709551616) : IntKind.u64.wrap (BitVec.ofInt IntKind.u64.bits (m : Int) ||| BitVec.ofInt IntKind.u64.bits (n : Int)).toNat = ((m ||| n : Nat) : Int) := by
  have h1 := ofInt_nat m hm
  have h2 := ofInt_nat n hn
  show IntKind.u64.wrap (((BitVec.ofInt 64 (m : Int) ||| BitVec.ofInt 64 (n : Int)).toNat : Nat) : Int) = _
  rw [BitVec.toNat_or, h1, h2]
  exact wrap_nat (Nat.or_lt_two_pow (n := 64) (by omega) (by omega))
theorem and_sign {a : Nat} (ha : a < 18446744073709551616) : IntKind.u64.wrap (BitVec.ofInt IntKind.u64.bits ((a : Nat) : Int) &&& BitVec.ofInt IntKind.u64.bits 9223372036854775808).toNat = ((if ng a then 9223372036854775808 else 0 : Nat) : Int) := by
  have := and_bits (n := 9223372036854775808) ha (by decide)
  rw [and_sign_nat a ha] at this
  exact this
theorem isN_rg (a : Nat) : isN (rg a) = isN a := by unfold isN rg; rw [Nat.mod_mod]
theorem rg_rg (a : Nat) : rg (rg a) = rg a := Nat.mod_mod _ _
theorem ng_rg (a : Nat) : ng (rg a) = false := by
  have := rg_lt a
  unfold ng
  rw [Nat.div_eq_of_lt this]
  rfl
theorem pc_rg (a : Nat) : pc (rg a) = ((rg a : Nat) : Int) := by rw [pc, ng_rg, rg_rg]; rfl
theorem ford_rg {a c : Nat} (ha : isN a = false) (hc : isN c = false) : ford (rg a) (rg c) = some (cmp3 ((rg a : Nat) : Int) ((rg c : Nat) : Int)) := by
  rw [ford_val (by rw [isN_rg]; exact ha) (by rw [isN_rg]; exact hc), pc_rg, pc_rg]
theorem isinf_cond (a : Nat) : (ford (rg a) 9218868437227405311 == some .gt) = decide (rg a = 9218868437227405312) := by
  cases h : isN a with
  | true =>
    rw [ford_nan (.inl (by rw [isN_rg]; exact h))]
    have : ¬ rg a = 9218868437227405312 := by have := of_decide_eq_true h; omega
    rw [decide_eq_false this]; rfl
  | false =>
    have h2 := ford_rg (c := 9218868437227405311) h (by decide)
    rw [show rg 9218868437227405311 = 9218868437227405311 from by decide] at h2
    have h3 : ¬ 9218868437227405312 < rg a := of_decide_eq_false h
    rw [h2]
    by_cases h4 : rg a = 9218868437227405312
    · rw [h4]; decide
    · rw [decide_eq_false h4, cmp3]
      split
      · rfl
      · split
        · rfl
        · omega
theorem sub_cond {a : Nat} (h : isN a = false) : (ford (rg a) 4503599627370496 == some .lt) = decide (rg a < 4503599627370496) := by
  have h2 := ford_rg (c := 4503599627370496) h (by decide)
  rw [show rg 4503599627370496 = 4503599627370496 from by decide] at h2
  rw [h2]
  by_cases h4 : rg a < 4503599627370496
  · rw [decide_eq_true h4, cmp3_lt (by omega)]; rfl
  · rw [decide_eq_false h4, cmp3, if_neg (by omega)]
    split <;> rfl
section
variable (w : World) (a : Nat) (ha : a < 18446744073709551616)
include ha
theorem abs_any : Calls Tryz.prog 71 #[.float .f64 a] w fun e w' => e = .returned (.float .f64 (rg a)) ∧ Below w.heap.size w w' := by
  refine calls_cw Tryz.func71 rfl Tryz.ntmps71 rfl ?_
  have HF : Per (No) w (fun _ => True) := Per.true_
  have LW := Ext.refl (No) w
  have XLW : ∀ q9, (No) q9 → (No) q9 ∨ w.heap.size ≤ q9 := fun _ h => Or.inl h
  have E := Ext.refl (No) w
  refine cw_seq ?_
  refine cw_region ?_
  refine rs_op rfl (ow_assign rfl ?_)
  refine rs_nil ?_
  refine ew_next ?_
  refine cw_seq ?_
  refine cw_region ?_
  refine rs_op rfl (ow_move rfl ?_)
  refine rs_op rfl (ow_bits ex59 rfl ?_)
  refine rs_op rfl (ow_andNot rfl rfl (andNot_sign ha) ?_)
  refine rs_op rfl (ow_frombits (b := rg a) ex60 rfl ?_)
  refine rs_op rfl (ow_assign rfl ?_)
  refine rs_nil ?_
  refine ew_next ?_
  refine cw_ret ?_
  refine ew_ret (rs := [.tmp 2]) (vs := [_]) rfl ⟨rfl, trivial⟩ ?_
  exact ⟨rfl, (LW.step E XLW).toBelow⟩
theorem misinf_any : Calls Tryz.prog 61 #[.float .f64 a, .int .i64 0] w fun e w' => e = .returned (.bool (decide (rg a = 9218868437227405312))) ∧ Below w.heap.size w w' := by
  refine calls_cw Tryz.func61 rfl Tryz.ntmps61 rfl ?_
  have HF : Per (No) w (fun _ => True) := Per.true_
  have LW := Ext.refl (No) w
  have XLW : ∀ q9, (No) q9 → (No) q9 ∨ w.heap.size ≤ q9 := fun _ h => Or.inl h
  have E := Ext.refl (No) w
  refine cw_seq ?_
  refine cw_region ?_
  refine rs_op rfl (ow_assign rfl ?_)
  refine rs_nil ?_
  refine ew_next ?_
  refine cw_seq ?_
  refine cw_seq ?_
  refine cw_region ?_
  refine rs_op rfl (ow_move rfl ?_)
  refine rs_op rfl (ow_eql rfl rfl ?_)
  refine rs_nil ?_
  refine ew_next ?_
  refine cw_then rfl ?_
  refine cw_region ?_
  refine rs_op rfl (ow_move rfl ?_)
  refine rs_op rfl (ow_enter en71 rfl ((abs_any _ a ha).mono ?_))
  rintro e w1 ⟨rfl, hb⟩
  refine ⟨_, rfl, ?_⟩
  have Ec := Ext.of_below hb No
  replace E := E.trans Ec.no
  clear hb Ec
  refine rs_op rfl (ow_assign rfl ?_)
  refine rs_nil ?_
  refine ew_next ?_
  refine cw_seq ?_
  refine cw_region ?_
  refine rs_op rfl (ow_move rfl ?_)
  refine rs_op rfl (ow_fgtr rfl rfl ?_)
  refine rs_op rfl (ow_assign rfl ?_)
  refine rs_nil ?_
  refine ew_next ?_
  refine cw_ret ?_
  refine ew_ret (rs := [.tmp 4]) (vs := [_]) rfl ⟨rfl, trivial⟩ ?_
  exact ⟨by rw [← isinf_cond]; rfl, (LW.step E XLW).toBelow⟩
omit ha in
theorem misnan_any : Calls Tryz.prog 138 #[.float .f64 a] w fun e w' => e = .returned (.bool (isN a)) ∧ Below w.heap.size w w' := by
  refine calls_cw Tryz.func138 rfl Tryz.ntmps138 rfl ?_
  have HF : Per (No) w (fun _ => True) := Per.true_
  have LW := Ext.refl (No) w
  have XLW : ∀ q9, (No) q9 → (No) q9 ∨ w.heap.size ≤ q9 := fun _ h => Or.inl h
  have E := Ext.refl (No) w
  refine cw_seq ?_
  refine cw_region ?_
  refine rs_op rfl (ow_assign rfl ?_)
  refine rs_nil ?_
  refine ew_next ?_
  refine cw_seq ?_
  refine cw_region ?_
  refine rs_op rfl (ow_move rfl ?_)
  refine rs_op rfl (ow_move rfl ?_)
  refine rs_op rfl (ow_fneq rfl rfl ?_)
  refine rs_op rfl (ow_assign rfl ?_)
  refine rs_nil ?_
  refine ew_next ?_
  refine cw_ret ?_
  refine ew_ret (rs := [.tmp 2]) (vs := [_]) rfl ⟨rfl, trivial⟩ ?_
  exact ⟨by rw [← ford_self]; rfl, (LW.step E XLW).toBelow⟩
theorem copysign_any (b : Nat) (hb : b < 18446744073709551616) : Calls Tryz.prog 56 #[.float .f64 a, .float .f64 b] w fun e w' => e = .returned (.float .f64 (Ieee.double.word (ng b) (rg a))) ∧ Below w.heap.size w w' := by
  have hr := rg_lt a
  have ho : (rg a ||| (if ng b then 9223372036854775808 else 0 : Nat)) = Ieee.double.word (ng b) (rg a) := by
    unfold Ieee.Format.word
    rw [c1]
    split
    · rw [Nat.or_comm]; exact or_add 63 hr rfl
    · exact Nat.or_zero _
  have hs : (if ng b then 9223372036854775808 else 0 : Nat) < 18446744073709551616 := by split <;> decide
  refine calls_cw Tryz.func56 rfl Tryz.ntmps56 rfl ?_
  have HF : Per (No) w (fun _ => True) := Per.true_
  have LW := Ext.refl (No) w
  have XLW : ∀ q9, (No) q9 → (No) q9 ∨ w.heap.size ≤ q9 := fun _ h => Or.inl h
  have E := Ext.refl (No) w
  refine cw_seq ?_
  refine cw_region ?_
  refine rs_op rfl (ow_assign rfl ?_)
  refine rs_nil ?_
  refine ew_next ?_
  refine cw_seq ?_
  refine cw_region ?_
  refine rs_op rfl (ow_move rfl ?_)
  refine rs_op rfl (ow_bits ex59 rfl ?_)
  refine rs_op rfl (ow_andNot rfl rfl (andNot_sign ha) ?_)
  refine rs_op rfl (ow_move rfl ?_)
  refine rs_op rfl (ow_bits ex59 rfl ?_)
  refine rs_op rfl (ow_and rfl rfl (and_sign hb) ?_)
  refine rs_op rfl (ow_or rfl rfl (or_bits (Nat.lt_trans hr (by decide)) hs) ?_)
  refine rs_op rfl (ow_frombits (b := rg a ||| (if ng b then 9223372036854775808 else 0 : Nat)) ex60 rfl ?_)
  refine rs_op rfl (ow_assign rfl ?_)
  refine rs_nil ?_
  refine ew_next ?_
  refine cw_ret ?_
  refine ew_ret (rs := [.tmp 4]) (vs := [_]) rfl ⟨rfl, trivial⟩ ?_
  exact ⟨by rw [← ho]; rfl, (LW.step E XLW).toBelow⟩
end
end Go.Proofs.YtljndllhmdpjlaaGreatDoor
namespace Go.Proofs.YtljndllhmdpjlaaGreatDoor
open Go.RowKit
set_option maxRecDepth 100000
theorem word_self {a : Nat} (ha : a < 18446744073709551616) : Ieee.double.word (ng a) (rg a) = a := by
  obtain ⟨h1, h2, h3⟩ := word_rg (ng a) (rg a) (rg_lt a)
  exact rg_ng_inj h3 ha h1 h2
def nzB (a : Nat) : Nat := Ieee.double.word (ng a) (nr (rg a))
def nzE (a : Nat) : Int := if rg a < 4503599627370496 then -52 else 0
theorem nzB_big {a : Nat} (ha : a < 18446744073709551616) (h : ¬ rg a < 4503599627370496) : nzB a = a := by
  rw [nzB, nr, if_neg h]; exact word_self ha
theorem nzB_lt {a : Nat} (h0 : rg a ≠ 0) (hf : rg a < 9218868437227405312) : nzB a < 18446744073709551616 := (word_rg (ng a) (nr (rg a)) (Nat.lt_trans (nr_high h0 hf) (by decide))).2.2
theorem FRes.some {z : Option Nat} {r q : Nat} {w w' : World} (h : FRes z r w w') (hz : z = some q) : r = q := by
  rcases h with ⟨h1, _⟩ | ⟨h1, _⟩
  · rw [hz] at h1; exact (Option.some.inj h1).symm
  · rw [hz] at h1; cases h1
theorem isN_fin {a : Nat} (hf : rg a < 9218868437227405312) : isN a = false := decide_eq_false (by omega)
theorem shr52 (m : Nat) : ((m : Nat) : Int).fdiv (2 ^ (min (52 : Int).toNat IntKind.u64.bits)) = ((m / 4503599627370496 : Nat) : Int) := by
  show ((m : Nat) : Int).fdiv (2 ^ 52) = _
  rw [show (2 : Int) ^ 52 = ((4503599627370496 : Nat) : Int) from rfl, Int.fdiv_eq_ediv_of_nonneg _ (by omega)]
  rfl
theorem and_2047 {m : Nat} (hm : m < 18446744073709551616) : IntKind.u64.wrap (BitVec.ofInt IntKind.u64.bits ((m : Nat) : Int) &&& BitVec.ofInt IntKind.u64.bits 2047).toNat = ((m % 2048 : Nat) : Int) := by
  have := and_bits (n := 2047) hm (by decide)
  rw [show m &&& 2047 = m % 2048 from Nat.and_two_pow_sub_one_eq_mod m 11] at this
  exact this
theorem word_parts (s : Bool) {r : Nat} (hr : r < 9218868437227405312) : Ieee.double.word s r / 4503599627370496 % 2048 = r / 4503599627370496 ∧ Ieee.double.word s r / 9223372036854775808 * 9223372036854775808 + Ieee.double.word s r % 4503599627370496 = Ieee.double.word s (r % 4503599627370496) := by
  unfold Ieee.Format.word
  rw [c1]
  cases s
  · simp only [Bool.false_eq_true, if_false]; omega
  · simp only [if_true]; omega
theorem frac_or {f x : Nat} (hf : f < 4503599627370496) (hx : x % 4503599627370496 = 0) : f ||| x = x + f := by
  rw [Nat.or_comm]; exact or_add 52 hf hx
theorem frac_word (s : Bool) {f x : Nat} (hf : f < 4503599627370496) (hx : x % 4503599627370496 = 0) (hl : x + f < 9223372036854775808) : Ieee.double.word s f ||| x = Ieee.double.word s (x + f) := by
  have h1 := frac_or hf hx
  unfold Ieee.Format.word
  rw [c1]
  cases s
  · exact h1
  · show (9223372036854775808 + f) ||| x = 9223372036854775808 + (x + f)
    rw [← or_add 63 (a := 9223372036854775808) (b := f) (Nat.lt_trans hf (by decide)) rfl, Nat.or_assoc, h1]
    exact or_add 63 hl rfl
section
variable (w : World) (a : Nat) (ha : a < 18446744073709551616) (h0 : rg a ≠ 0) (hf : rg a < 9218868437227405312)
include ha h0 hf
theorem normalize_any : Calls Tryz.prog 139 #[.float .f64 a] w fun e w' => e = .returned (.tuple #[.float .f64 (nzB a), .int .i64 (nzE a)]) ∧ Below w.heap.size w w' := by
  refine calls_cw Tryz.func139 rfl Tryz.ntmps139 rfl ?_
  have HF : Per (No) w (fun _ => True) := Per.true_
  have LW := Ext.refl (No) w
  have XLW : ∀ q9, (No) q9 → (No) q9 ∨ w.heap.size ≤ q9 := fun _ h => Or.inl h
  have E := Ext.refl (No) w
  refine cw_seq ?_
  refine cw_region ?_
  refine rs_op rfl (ow_assign rfl ?_)
  refine rs_op rfl (ow_assign rfl ?_)
  refine rs_nil ?_
  refine ew_next ?_
  refine cw_seq ?_
  refine cw_seq ?_
  refine cw_region ?_
  refine rs_op rfl (ow_move rfl ?_)
  refine rs_op rfl (ow_enter en71 rfl ((abs_any _ a ha).mono ?_))
  rintro e w1 ⟨rfl, hb⟩
  refine ⟨_, rfl, ?_⟩
  have Ec := Ext.of_below hb No
  replace E := E.trans Ec.no
  clear hb Ec
  refine rs_op rfl (ow_flss rfl rfl ?_)
  refine rs_nil ?_
  refine ew_next ?_
  refine cw_set 6 (.bool (decide (rg a < 4503599627370496))) rfl ((by rw [sub_cond (isN_fin hf)] : (.bool (ford (rg a) 4503599627370496 == some .lt) : Value) = _)) ?_
  refine cw_cond rfl (fun h => ?_) (fun h => ?_)
  · have _way := True.intro
    refine cw_seq ?_
    refine cw_region ?_
    refine rs_op rfl (ow_move rfl ?_)
    refine rs_op rfl (ow_float (m := a) (n := 4841369599423283200) (.inr (.inr (.inl rfl))) rfl rfl ?_)
    intro r w2 hr
    have Ec := hr.ext
    replace E := E.trans Ec.no
    clear Ec
    refine rs_op rfl (ow_assign rfl ?_)
    refine rs_op rfl (ow_assign rfl ?_)
    refine rs_nil ?_
    refine ew_next ?_
    refine cw_ret ?_
    refine ew_then_ret ?_
    refine ew_ret (rs := [.tmp 2, .tmp 3]) (vs := [_, _]) rfl ⟨rfl, rfl, trivial⟩ ?_
    exact ⟨by rw [hr.some (normalize_mul h0 (of_decide_eq_true h)), nzE, if_pos (of_decide_eq_true h)]; rfl, (LW.step E XLW).toBelow⟩
  · have _way := True.intro
    refine cw_skip ?_
    refine ew_next ?_
    refine cw_seq ?_
    refine cw_region ?_
    refine rs_op rfl (ow_move rfl ?_)
    refine rs_op rfl (ow_assign rfl ?_)
    refine rs_op rfl (ow_assign rfl ?_)
    refine rs_nil ?_
    refine ew_next ?_
    refine cw_ret ?_
    refine ew_ret (rs := [.tmp 2, .tmp 3]) (vs := [_, _]) rfl ⟨rfl, rfl, trivial⟩ ?_
    exact ⟨by rw [nzB_big ha (of_decide_eq_false h), nzE, if_neg (of_decide_eq_false h)]; rfl, (LW.step E XLW).toBelow⟩
theorem frexp_num : Calls Tryz.prog 106 #[.float .f64 a] w fun e w' => e = .returned (.tuple #[.float .f64 (frF a), .int .i64 (frE a)]) ∧ Below w.heap.size w w' := by
  have hz : isZ a = false := decide_eq_false h0
  have hinf : decide (rg a = 9218868437227405312) = false := decide_eq_false (by omega)
  have hn := isN_fin hf
  have hlt := nzB_lt h0 hf
  have hlow := nr_low h0
  have hhigh := nr_high h0 hf
  obtain ⟨hp1, hp2⟩ := word_parts (ng a) hhigh
  have hex : nr (rg a) / 4503599627370496 = ex (nr (rg a)) + 1 := by unfold ex; rw [if_neg (by omega)]; omega
  have hmg : mg (nr (rg a)) = 4503599627370496 + nr (rg a) % 4503599627370496 := by unfold mg; rw [if_neg (by omega)]
  have hexb : ex (nr (rg a)) ≤ 2045 := by omega
  have hfl : nr (rg a) % 4503599627370496 < 4503599627370496 := Nat.mod_lt _ (by decide)
  have hnze : nzE a = 0 ∨ nzE a = -52 := by unfold nzE; split <;> simp
  have hfw : Ieee.double.word (ng a) (nr (rg a) % 4503599627370496) < 18446744073709551616 := (word_rg _ _ (by omega)).2.2
  have hor := frac_word (ng a) (x := 4602678819172646912) hfl (by decide) (by omega)
  have hfrF : Ieee.double.word (ng a) (4602678819172646912 + nr (rg a) % 4503599627370496) = frF a := by rw [frF, hmg, Nat.add_sub_cancel_left]
  have hfrE : nzE a + (((ex (nr (rg a)) + 1 : Nat) : Int) - 1023 + 1) = frE a := by
    unfold nzE frE
    split <;> omega
  refine calls_cw Tryz.func106 rfl Tryz.ntmps106 rfl ?_
  have HF : Per (No) w (fun _ => True) := Per.true_
  have LW := Ext.refl (No) w
  have XLW : ∀ q9, (No) q9 → (No) q9 ∨ w.heap.size ≤ q9 := fun _ h => Or.inl h
  have E := Ext.refl (No) w
  refine cw_seq ?_
  refine cw_region ?_
  refine rs_op rfl (ow_assign rfl ?_)
  refine rs_op rfl (ow_assign rfl ?_)
  refine rs_nil ?_
  refine ew_next ?_
  refine cw_seq ?_
  refine cw_block ?_
  refine cw_seq ?_
  refine cw_region ?_
  refine rs_op rfl (ow_move rfl ?_)
  refine rs_op rfl (ow_feql rfl rfl ?_)
  refine rs_op rfl (ow_assign rfl ?_)
  refine rs_nil ?_
  refine ew_next ?_
  refine cw_set 5 (.bool false) rfl ((by rw [ford_zero, hz] : (.bool (ford a 0 == some .eq) : Value) = _)) ?_
  refine cw_else rfl ?_
  refine cw_seq ?_
  refine cw_region ?_
  refine rs_op rfl (ow_move rfl ?_)
  refine rs_op rfl (ow_enter en61 rfl ((misinf_any _ a ha).mono ?_))
  rintro e w1 ⟨rfl, hb⟩
  refine ⟨_, rfl, ?_⟩
  have Ec := Ext.of_below hb No
  replace E := E.trans Ec.no
  clear hb Ec
  refine rs_set 11 (.bool false) rfl ((by rw [hinf] : (.bool (decide (rg a = 9218868437227405312)) : Value) = _)) ?_
  refine rs_op rfl (ow_move rfl ?_)
  refine rs_op rfl (ow_on rfl (ow_move rfl ?_))
  refine rs_op rfl (ow_on rfl (ow_enter en138 rfl ((misnan_any _ a).mono ?_)))
  rintro e w2 ⟨rfl, hb⟩
  refine ⟨_, rfl, ?_⟩
  have Ec := Ext.of_below hb No
  replace E := E.trans Ec.no
  clear hb Ec
  refine rs_set 14 (.bool false) rfl ((by rw [hn] : (.bool (isN a) : Value) = _)) ?_
  refine rs_op rfl (ow_pickF rfl rfl ?_)
  refine rs_op rfl (ow_assign rfl ?_)
  refine rs_nil ?_
  refine ew_next ?_
  refine cw_else rfl ?_
  refine cw_skip ?_
  refine ew_block_normal ?_
  refine ew_next ?_
  refine cw_seq ?_
  refine cw_region ?_
  refine rs_op rfl (ow_move rfl ?_)
  refine rs_op rfl (ow_enter en139 rfl ((normalize_any _ a ha h0 hf).mono ?_))
  rintro e w3 ⟨rfl, hb⟩
  refine ⟨_, rfl, ?_⟩
  have Ec := Ext.of_below hb No
  replace E := E.trans Ec.no
  clear hb Ec
  refine rs_op rfl (ow_move rfl ?_)
  refine rs_op rfl (ow_extract rfl rfl ?_)
  refine rs_op rfl (ow_extract rfl rfl ?_)
  refine rs_op rfl (ow_assign rfl ?_)
  refine rs_op rfl (ow_assign rfl ?_)
  refine rs_nil ?_
  refine ew_next ?_
  refine cw_seq ?_
  refine cw_region ?_
  refine rs_op rfl (ow_move rfl ?_)
  refine rs_op rfl (ow_bits ex59 rfl ?_)
  refine rs_op rfl (ow_assign rfl ?_)
  refine rs_nil ?_
  refine ew_next ?_
  refine cw_seq ?_
  refine cw_region ?_
  refine rs_op rfl (ow_move rfl ?_)
  refine rs_op rfl (ow_move rfl ?_)
  refine rs_op rfl (ow_shr rfl rfl (by decide) (shr52 (nzB a)) ?_)
  refine rs_op rfl (ow_and rfl rfl (and_2047 (by omega)) ?_)
  refine rs_set 27 (.int .u64 ((ex (nr (rg a)) + 1 : Nat) : Int)) rfl ((by rw [show nzB a / 4503599627370496 % 2048 = _ from hp1, hex] : (.int .u64 ((nzB a / 4503599627370496 % 2048 : Nat) : Int) : Value) = _)) ?_
  refine rs_op rfl (ow_conv Tryz.underlying3 Tryz.underlying22 rfl (wrap_i64 (by omega)) ?_)
  refine rs_op rfl (ow_sub rfl rfl (wrap_i64 (by omega)) ?_)
  refine rs_op rfl (ow_add rfl rfl (wrap_i64 (by omega)) ?_)
  refine rs_op rfl (ow_add rfl rfl (wrap_i64 (by omega)) ?_)
  refine rs_op rfl (ow_assign rfl ?_)
  refine rs_nil ?_
  refine ew_next ?_
  refine cw_seq ?_
  refine cw_region ?_
  refine rs_op rfl (ow_move rfl ?_)
  refine rs_op rfl (ow_andNot rfl rfl (andNot_exp hlt) ?_)
  refine rs_set 33 (.int .u64 ((Ieee.double.word (ng a) (nr (rg a) % 4503599627370496) : Nat) : Int)) rfl ((by rw [show nzB a / 9223372036854775808 * 9223372036854775808 + nzB a % 4503599627370496 = _ from hp2] : (.int .u64 ((nzB a / 9223372036854775808 * 9223372036854775808 + nzB a % 4503599627370496 : Nat) : Int) : Value) = _)) ?_
  refine rs_op rfl (ow_assign rfl ?_)
  refine rs_nil ?_
  refine ew_next ?_
  refine cw_seq ?_
  refine cw_region ?_
  refine rs_op rfl (ow_move rfl ?_)
  refine rs_op rfl (ow_or rfl rfl (or_bits (n := 4602678819172646912) hfw (by decide)) ?_)
  refine rs_set 35 (.int .u64 ((frF a : Nat) : Int)) rfl ((by rw [show Ieee.double.word (ng a) (nr (rg a) % 4503599627370496) ||| 4602678819172646912 = frF a from hor.trans hfrF] : (.int .u64 ((Ieee.double.word (ng a) (nr (rg a) % 4503599627370496) ||| 4602678819172646912 : Nat) : Int) : Value) = _)) ?_
  refine rs_op rfl (ow_assign rfl ?_)
  refine rs_nil ?_
  refine ew_next ?_
  refine cw_seq ?_
  refine cw_region ?_
  refine rs_op rfl (ow_move rfl ?_)
  refine rs_op rfl (ow_frombits (b := frF a) ex60 rfl ?_)
  refine rs_op rfl (ow_assign rfl ?_)
  refine rs_nil ?_
  refine ew_next ?_
  refine cw_ret ?_
  refine ew_ret (rs := [.tmp 2, .tmp 3]) (vs := [_, _]) rfl ⟨rfl, rfl, trivial⟩ ?_
  exact ⟨by rw [← hfrE]; rfl, (LW.step E XLW).toBelow⟩
end
end Go.Proofs.YtljndllhmdpjlaaGreatDoor
namespace Go.Proofs.YtljndllhmdpjlaaGreatDoor
open Go.RowKit
set_option maxRecDepth 100000
theorem and_2047i {m : Nat} (hm : m < 18446744073709551616) : IntKind.i64.wrap (BitVec.ofInt IntKind.i64.bits ((m : Nat) : Int) &&& BitVec.ofInt IntKind.i64.bits 2047).toNat = ((m % 2048 : Nat) : Int) := by
  have h1 := ofInt_nat m hm
  have h2 := ofInt_nat 2047 (by decide)
  show IntKind.i64.wrap (((BitVec.ofInt 64 (m : Int) &&& BitVec.ofInt 64 ((2047 : Nat) : Int)).toNat : Nat) : Int) = _
  rw [BitVec.toNat_and, h1, h2, show m &&& 2047 = m % 2048 from Nat.and_two_pow_sub_one_eq_mod m 11]
  exact wrap_i64 (by omega)
theorem sum_rung {x m f q : Nat} (h1 : x * 4503599627370496 + m = q) (h2 : m = 4503599627370496 + f) : (x + 1) * 4503599627370496 + f = q := by rw [← h1, h2, Nat.add_mul, Nat.one_mul, Nat.add_assoc]
theorem nzE_nd (a : Nat) : nzE a = -((nd (rg a) : Nat) : Int) := by unfold nzE nd; split <;> rfl
theorem one_mul_f {s : Bool} {q : Nat} (hq : q < 9218868437227405312) : fop .mul 4607182418800017408 (Ieee.double.word s q) = some (Ieee.double.word s q) := by
  obtain ⟨h1, h2, _⟩ := word_rg s q (Nat.lt_trans hq (by decide))
  have hc : rg 4607182418800017408 = 4607182418800017408 ∧ ng 4607182418800017408 = false ∧ vl 4607182418800017408 = 2 ^ 1074 := by decide +kernel
  have := mul_exact' (a := 4607182418800017408) (b := Ieee.double.word s q) (r := q) (by rw [hc.1]; decide) (by rw [h1]; exact hq) hq (fun P hP => by rewrite [hc.1, hc.2.2, ← hP, h1]; exact Nat.mul_comm P (vl q))
  rw [this, hc.2.1, h2, Bool.false_xor]
theorem p_split {P i j n : Nat} (h : P = 2 ^ n) (hn : n = i + j) : P = 2 ^ i * 2 ^ j := by rw [h, hn, Nat.pow_add]
theorem m53_aux {A B P q v1 v2 : Nat} (h1 : v1 = A) (h2 : v2 = q * B) (h3 : P = A * B) : v1 * v2 = q * P := by rw [h1, h2, h3, Nat.mul_left_comm]
theorem m53_mul {s : Bool} {q : Nat} (h0 : q ≠ 0) (hq : q < 4503599627370496) : fop .mul 4368491638549381120 (Ieee.double.word s ((ex (nr q) + 1) * 4503599627370496 + mg (nr q))) = some (Ieee.double.word s q) := by
  obtain ⟨hm1, hm2⟩ := mg_nr h0
  have he : ex (nr q) ≤ 51 := by rw [(nr_sub h0 hq).1]; exact (sub_parts h0 hq).1
  obtain ⟨Q, hQ⟩ : ∃ Q, Q = (ex (nr q) + 1) * 4503599627370496 + mg (nr q) := ⟨_, rfl⟩
  obtain ⟨p1, p2⟩ := rung_parts (e := ex (nr q) + 1) hm1 hm2
  rw [← hQ] at p1 p2 ⊢
  have hQl : Q < 9218868437227405312 := by omega
  obtain ⟨h1, h2, _⟩ := word_rg s Q (Nat.lt_trans hQl (by decide))
  have hc : rg 4368491638549381120 = 4368491638549381120 ∧ ng 4368491638549381120 = false ∧ vl 4368491638549381120 = 2 ^ 1021 := by decide +kernel
  have hvQ : vl Q = q * 2 ^ 53 := by
    rw [vl, p1, p2, Nat.pow_succ, ← Nat.mul_assoc]
    have := vl_nr h0 hq
    unfold vl at this
    rw [this, Nat.mul_assoc]
  have := mul_exact' (a := 4368491638549381120) (b := Ieee.double.word s Q) (r := q) (by rw [hc.1]; decide) (by rw [h1]; exact hQl) (by omega) (fun P hP => by
    rewrite [hc.1, h1, vl_sub hq]
    exact m53_aux hc.2.2 hvQ (p_split (i := 1021) (j := 53) (n := 1074) hP (by decide)))
  rw [this, hc.2.1, h2, Bool.false_xor]
section
variable (w : World) (a k q : Nat) (ha : a < 18446744073709551616) (h0 : rg a ≠ 0) (hf : rg a < 9218868437227405312) (hk : k < 4096) (hq : q < 9218868437227405312) (hv : vl q = vl (rg a) * 2 ^ k)
include ha h0 hf hk hq hv
theorem ldexp_norm (hn : 4503599627370496 ≤ q) : Calls Tryz.prog 108 #[.float .f64 a, .int .i64 ((k : Nat) : Int)] w fun e w' => e = .returned (.float .f64 (Ieee.double.word (ng a) q)) ∧ Below w.heap.size w w' := by
  have hz : isZ a = false := decide_eq_false h0
  have hinf : decide (rg a = 9218868437227405312) = false := decide_eq_false (by omega)
  have hnn := isN_fin hf
  have hlt := nzB_lt h0 hf
  have hlow := nr_low h0
  have hhigh := nr_high h0 hf
  obtain ⟨hp1, hp2⟩ := word_parts (ng a) hhigh
  have hex : nr (rg a) / 4503599627370496 = ex (nr (rg a)) + 1 := by unfold ex; rw [if_neg (by omega)]; omega
  have hmg : mg (nr (rg a)) = 4503599627370496 + nr (rg a) % 4503599627370496 := by unfold mg; rw [if_neg (by omega)]
  have hexb : ex (nr (rg a)) ≤ 2045 := by omega
  have hfl : nr (rg a) % 4503599627370496 < 4503599627370496 := Nat.mod_lt _ (by decide)
  have hnze := nzE_nd a
  have hndb : nd (rg a) ≤ 52 := by unfold nd; split <;> omega
  have hfw : Ieee.double.word (ng a) (nr (rg a) % 4503599627370496) < 18446744073709551616 := (word_rg _ _ (by omega)).2.2
  obtain ⟨hM, hE⟩ := scale_parts h0 (q := q) (by omega) hv
  have hnq : nr q = q := by rw [nr, if_neg (by omega)]
  have hndq : nd q = 0 := by unfold nd; rw [if_neg (by omega)]
  rw [hnq] at hM hE
  rw [hndq] at hE
  have hrq := rung_of (r := q)
  have heq : ex q ≤ 2045 := by unfold ex; rw [if_neg (by omega)]; omega
  have hB : ((k : Nat) : Int) + nzE a + (((ex (nr (rg a)) + 1 : Nat) : Int) - 1023) = ((ex q : Nat) : Int) - 1022 := by omega
  have hor := frac_word (ng a) (x := (ex q + 1) * 4503599627370496) hfl (Nat.mul_mod_left _ _) (by omega)
  have hsum := sum_rung hrq (hM.trans hmg)
  have hword := congrArg (Ieee.double.word (ng a)) hsum
  refine calls_cw Tryz.func108 rfl Tryz.ntmps108 rfl ?_
  have HF : Per (No) w (fun _ => True) := Per.true_
  have LW := Ext.refl (No) w
  have XLW : ∀ q9, (No) q9 → (No) q9 ∨ w.heap.size ≤ q9 := fun _ h => Or.inl h
  have E := Ext.refl (No) w
  refine cw_seq ?_
  refine cw_region ?_
  refine rs_op rfl (ow_assign rfl ?_)
  refine rs_nil ?_
  refine ew_next ?_
  refine cw_seq ?_
  refine cw_block ?_
  refine cw_seq ?_
  refine cw_region ?_
  refine rs_op rfl (ow_move rfl ?_)
  refine rs_op rfl (ow_feql rfl rfl ?_)
  refine rs_op rfl (ow_assign rfl ?_)
  refine rs_nil ?_
  refine ew_next ?_
  refine cw_set 8 (.bool false) rfl ((by rw [ford_zero, hz] : (.bool (ford a 0 == some .eq) : Value) = _)) ?_
  refine cw_else rfl ?_
  refine cw_seq ?_
  refine cw_region ?_
  refine rs_op rfl (ow_move rfl ?_)
  refine rs_op rfl (ow_enter en61 rfl ((misinf_any _ a ha).mono ?_))
  rintro e w1 ⟨rfl, hb⟩
  refine ⟨_, rfl, ?_⟩
  have Ec := Ext.of_below hb No
  replace E := E.trans Ec.no
  clear hb Ec
  refine rs_set 14 (.bool false) rfl ((by rw [hinf] : (.bool (decide (rg a = 9218868437227405312)) : Value) = _)) ?_
  refine rs_op rfl (ow_move rfl ?_)
  refine rs_op rfl (ow_on rfl (ow_move rfl ?_))
  refine rs_op rfl (ow_on rfl (ow_enter en138 rfl ((misnan_any _ a).mono ?_)))
  rintro e w2 ⟨rfl, hb⟩
  refine ⟨_, rfl, ?_⟩
  have Ec := Ext.of_below hb No
  replace E := E.trans Ec.no
  clear hb Ec
  refine rs_set 17 (.bool false) rfl ((by rw [hnn] : (.bool (isN a) : Value) = _)) ?_
  refine rs_op rfl (ow_pickF rfl rfl ?_)
  refine rs_op rfl (ow_assign rfl ?_)
  refine rs_nil ?_
  refine ew_next ?_
  refine cw_else rfl ?_
  refine cw_skip ?_
  refine ew_block_normal ?_
  refine ew_next ?_
  refine cw_seq ?_
  refine cw_region ?_
  refine rs_op rfl (ow_move rfl ?_)
  refine rs_op rfl (ow_enter en139 rfl ((normalize_any _ a ha h0 hf).mono ?_))
  rintro e w3 ⟨rfl, hb⟩
  refine ⟨_, rfl, ?_⟩
  have Ec := Ext.of_below hb No
  replace E := E.trans Ec.no
  clear hb Ec
  refine rs_op rfl (ow_move rfl ?_)
  refine rs_op rfl (ow_extract rfl rfl ?_)
  refine rs_op rfl (ow_extract rfl rfl ?_)
  refine rs_op rfl (ow_assign rfl ?_)
  refine rs_op rfl (ow_assign rfl ?_)
  refine rs_nil ?_
  refine ew_next ?_
  refine cw_seq ?_
  refine cw_region ?_
  refine rs_op rfl (ow_move rfl ?_)
  refine rs_op rfl (ow_move rfl ?_)
  refine rs_op rfl (ow_add rfl rfl (wrap_i64 (by omega)) ?_)
  refine rs_op rfl (ow_assign rfl ?_)
  refine rs_nil ?_
  refine ew_next ?_
  refine cw_seq ?_
  refine cw_region ?_
  refine rs_op rfl (ow_move rfl ?_)
  refine rs_op rfl (ow_bits ex59 rfl ?_)
  refine rs_op rfl (ow_assign rfl ?_)
  refine rs_nil ?_
  refine ew_next ?_
  refine cw_seq ?_
  refine cw_region ?_
  refine rs_op rfl (ow_move rfl ?_)
  refine rs_op rfl (ow_move rfl ?_)
  refine rs_op rfl (ow_shr rfl rfl (by decide) (shr52 (nzB a)) ?_)
  refine rs_op rfl (ow_conv Tryz.underlying3 Tryz.underlying22 rfl (wrap_i64 (by omega)) ?_)
  refine rs_op rfl (ow_and rfl rfl (and_2047i (by omega)) ?_)
  refine rs_set 34 (.int .i64 ((ex (nr (rg a)) + 1 : Nat) : Int)) rfl ((by rw [show nzB a / 4503599627370496 % 2048 = _ from hp1, hex] : (.int .i64 ((nzB a / 4503599627370496 % 2048 : Nat) : Int) : Value) = _)) ?_
  refine rs_op rfl (ow_sub rfl rfl (wrap_i64 (by omega)) ?_)
  refine rs_op rfl (ow_add rfl rfl (wrap_i64 (by omega)) ?_)
  refine rs_op rfl (ow_assign rfl ?_)
  refine rs_nil ?_
  refine ew_next ?_
  refine cw_seq ?_
  refine cw_seq ?_
  refine cw_region ?_
  refine rs_op rfl (ow_move rfl ?_)
  refine rs_op rfl (ow_lss rfl rfl ?_)
  refine rs_nil ?_
  refine ew_next ?_
  refine cw_set 38 (.bool false) rfl ((by rw [hB, decide_eq_false (by omega)] : (.bool (decide (((((k : Nat) : Int) + (nzE a)) + (((ex (nr (rg a)) + 1 : Nat) : Int) - 1023)) < (-1075))) : Value) = _)) ?_
  refine cw_set 1 (.int .i64 (((ex q : Nat) : Int) - 1022)) rfl ((by rw [hB] : (.int .i64 ((((k : Nat) : Int) + (nzE a)) + (((ex (nr (rg a)) + 1 : Nat) : Int) - 1023)) : Value) = _)) ?_
  refine cw_else rfl ?_
  refine cw_skip ?_
  refine ew_next ?_
  refine cw_seq ?_
  refine cw_seq ?_
  refine cw_region ?_
  refine rs_op rfl (ow_move rfl ?_)
  refine rs_op rfl (ow_gtr rfl rfl ?_)
  refine rs_nil ?_
  refine ew_next ?_
  refine cw_set 42 (.bool false) rfl ((by rw [decide_eq_false (by omega)] : (.bool (decide (1023 < (((ex q : Nat) : Int) - 1022))) : Value) = _)) ?_
  refine cw_else rfl ?_
  refine cw_skip ?_
  refine ew_next ?_
  refine cw_seq ?_
  refine cw_region ?_
  refine rs_op rfl (ow_assign rfl ?_)
  refine rs_nil ?_
  refine ew_next ?_
  refine cw_seq ?_
  refine cw_seq ?_
  refine cw_region ?_
  refine rs_op rfl (ow_move rfl ?_)
  refine rs_op rfl (ow_lss rfl rfl ?_)
  refine rs_nil ?_
  refine ew_next ?_
  refine cw_set 48 (.bool false) rfl ((by rw [decide_eq_false (by omega)] : (.bool (decide ((((ex q : Nat) : Int) - 1022) < (-1022))) : Value) = _)) ?_
  refine cw_else rfl ?_
  refine cw_skip ?_
  refine ew_next ?_
  refine cw_seq ?_
  refine cw_region ?_
  refine rs_op rfl (ow_move rfl ?_)
  refine rs_op rfl (ow_andNot rfl rfl (andNot_exp hlt) ?_)
  refine rs_set 52 (.int .u64 ((Ieee.double.word (ng a) (nr (rg a) % 4503599627370496) : Nat) : Int)) rfl ((by rw [show nzB a / 9223372036854775808 * 9223372036854775808 + nzB a % 4503599627370496 = _ from hp2] : (.int .u64 ((nzB a / 9223372036854775808 * 9223372036854775808 + nzB a % 4503599627370496 : Nat) : Int) : Value) = _)) ?_
  refine rs_op rfl (ow_assign rfl ?_)
  refine rs_nil ?_
  refine ew_next ?_
  refine cw_seq ?_
  refine cw_region ?_
  refine rs_op rfl (ow_move rfl ?_)
  refine rs_op rfl (ow_move rfl ?_)
  refine rs_op rfl (ow_add rfl rfl (wrap_i64 (by omega)) ?_)
  refine rs_op rfl (ow_conv Tryz.underlying22 Tryz.underlying3 rfl (wrap_u64 (by omega)) ?_)
  refine rs_op rfl (ow_shl (z := (((ex q + 1) * 4503599627370496 : Nat) : Int)) rfl rfl (by decide) (by show IntKind.u64.wrap ((((ex q : Nat) : Int) - 1022 + 1023) * 4503599627370496) = _; rw [wrap_u64 (by omega)]; omega) ?_)
  refine rs_op rfl (ow_or rfl rfl (or_bits hfw (by omega)) ?_)
  refine rs_set 58 (.int .u64 ((Ieee.double.word (ng a) q : Nat) : Int)) rfl ((by rw [hor.trans hword] : (.int .u64 ((Ieee.double.word (ng a) (nr (rg a) % 4503599627370496) ||| (ex q + 1) * 4503599627370496 : Nat) : Int) : Value) = _)) ?_
  refine rs_op rfl (ow_assign rfl ?_)
  refine rs_nil ?_
  refine ew_next ?_
  refine cw_seq ?_
  refine cw_region ?_
  refine rs_op rfl (ow_move rfl ?_)
  refine rs_op rfl (ow_move rfl ?_)
  refine rs_op rfl (ow_frombits (b := Ieee.double.word (ng a) q) ex60 rfl ?_)
  refine rs_op rfl (ow_float (m := 4607182418800017408) (n := Ieee.double.word (ng a) q) (.inr (.inr (.inl rfl))) rfl rfl ?_)
  intro r w4 hr
  have Ec := hr.ext
  replace E := E.trans Ec.no
  clear Ec
  refine rs_op rfl (ow_assign rfl ?_)
  refine rs_nil ?_
  refine ew_next ?_
  refine cw_ret ?_
  refine ew_ret (rs := [.tmp 4]) (vs := [_]) rfl ⟨rfl, trivial⟩ ?_
  exact ⟨by rw [hr.some (one_mul_f hq)]; rfl, (LW.step E XLW).toBelow⟩
theorem ldexp_sub (hn : q < 4503599627370496) (hq0 : q ≠ 0) : Calls Tryz.prog 108 #[.float .f64 a, .int .i64 ((k : Nat) : Int)] w fun e w' => e = .returned (.float .f64 (Ieee.double.word (ng a) q)) ∧ Below w.heap.size w w' := by
  have _ := hq
  have hz : isZ a = false := decide_eq_false h0
  have hinf : decide (rg a = 9218868437227405312) = false := decide_eq_false (by omega)
  have hnn := isN_fin hf
  have hlt := nzB_lt h0 hf
  have hlow := nr_low h0
  have hhigh := nr_high h0 hf
  obtain ⟨hp1, hp2⟩ := word_parts (ng a) hhigh
  have hex : nr (rg a) / 4503599627370496 = ex (nr (rg a)) + 1 := by unfold ex; rw [if_neg (by omega)]; omega
  have hmg : mg (nr (rg a)) = 4503599627370496 + nr (rg a) % 4503599627370496 := by unfold mg; rw [if_neg (by omega)]
  have hexb : ex (nr (rg a)) ≤ 2045 := by omega
  have hfl : nr (rg a) % 4503599627370496 < 4503599627370496 := Nat.mod_lt _ (by decide)
  have hnze := nzE_nd a
  have hndb : nd (rg a) ≤ 52 := by unfold nd; split <;> omega
  have hfw : Ieee.double.word (ng a) (nr (rg a) % 4503599627370496) < 18446744073709551616 := (word_rg _ _ (by omega)).2.2
  obtain ⟨hM, hE⟩ := scale_parts h0 (q := q) hq0 hv
  have hndq : nd q = 52 := by unfold nd; rw [if_pos hn]
  rw [hndq] at hE
  have heq : ex (nr q) ≤ 51 := by rw [(nr_sub hq0 hn).1]; exact (sub_parts hq0 hn).1
  have hB : ((k : Nat) : Int) + nzE a + (((ex (nr (rg a)) + 1 : Nat) : Int) - 1023) = ((ex (nr q) : Nat) : Int) - 1074 := by omega
  have hor := frac_word (ng a) (x := (ex (nr q) + 2) * 4503599627370496) hfl (Nat.mul_mod_left _ _) (by omega)
  have hsum := sum_rung (x := ex (nr q) + 1) (m := mg (nr q)) rfl (hM.trans hmg)
  have hword := congrArg (Ieee.double.word (ng a)) hsum
  refine calls_cw Tryz.func108 rfl Tryz.ntmps108 rfl ?_
  have HF : Per (No) w (fun _ => True) := Per.true_
  have LW := Ext.refl (No) w
  have XLW : ∀ q9, (No) q9 → (No) q9 ∨ w.heap.size ≤ q9 := fun _ h => Or.inl h
  have E := Ext.refl (No) w
  refine cw_seq ?_
  refine cw_region ?_
  refine rs_op rfl (ow_assign rfl ?_)
  refine rs_nil ?_
  refine ew_next ?_
  refine cw_seq ?_
  refine cw_block ?_
  refine cw_seq ?_
  refine cw_region ?_
  refine rs_op rfl (ow_move rfl ?_)
  refine rs_op rfl (ow_feql rfl rfl ?_)
  refine rs_op rfl (ow_assign rfl ?_)
  refine rs_nil ?_
  refine ew_next ?_
  refine cw_set 8 (.bool false) rfl ((by rw [ford_zero, hz] : (.bool (ford a 0 == some .eq) : Value) = _)) ?_
  refine cw_else rfl ?_
  refine cw_seq ?_
  refine cw_region ?_
  refine rs_op rfl (ow_move rfl ?_)
  refine rs_op rfl (ow_enter en61 rfl ((misinf_any _ a ha).mono ?_))
  rintro e w1 ⟨rfl, hb⟩
  refine ⟨_, rfl, ?_⟩
  have Ec := Ext.of_below hb No
  replace E := E.trans Ec.no
  clear hb Ec
  refine rs_set 14 (.bool false) rfl ((by rw [hinf] : (.bool (decide (rg a = 9218868437227405312)) : Value) = _)) ?_
  refine rs_op rfl (ow_move rfl ?_)
  refine rs_op rfl (ow_on rfl (ow_move rfl ?_))
  refine rs_op rfl (ow_on rfl (ow_enter en138 rfl ((misnan_any _ a).mono ?_)))
  rintro e w2 ⟨rfl, hb⟩
  refine ⟨_, rfl, ?_⟩
  have Ec := Ext.of_below hb No
  replace E := E.trans Ec.no
  clear hb Ec
  refine rs_set 17 (.bool false) rfl ((by rw [hnn] : (.bool (isN a) : Value) = _)) ?_
  refine rs_op rfl (ow_pickF rfl rfl ?_)
  refine rs_op rfl (ow_assign rfl ?_)
  refine rs_nil ?_
  refine ew_next ?_
  refine cw_else rfl ?_
  refine cw_skip ?_
  refine ew_block_normal ?_
  refine ew_next ?_
  refine cw_seq ?_
  refine cw_region ?_
  refine rs_op rfl (ow_move rfl ?_)
  refine rs_op rfl (ow_enter en139 rfl ((normalize_any _ a ha h0 hf).mono ?_))
  rintro e w3 ⟨rfl, hb⟩
  refine ⟨_, rfl, ?_⟩
  have Ec := Ext.of_below hb No
  replace E := E.trans Ec.no
  clear hb Ec
  refine rs_op rfl (ow_move rfl ?_)
  refine rs_op rfl (ow_extract rfl rfl ?_)
  refine rs_op rfl (ow_extract rfl rfl ?_)
  refine rs_op rfl (ow_assign rfl ?_)
  refine rs_op rfl (ow_assign rfl ?_)
  refine rs_nil ?_
  refine ew_next ?_
  refine cw_seq ?_
  refine cw_region ?_
  refine rs_op rfl (ow_move rfl ?_)
  refine rs_op rfl (ow_move rfl ?_)
  refine rs_op rfl (ow_add rfl rfl (wrap_i64 (by omega)) ?_)
  refine rs_op rfl (ow_assign rfl ?_)
  refine rs_nil ?_
  refine ew_next ?_
  refine cw_seq ?_
  refine cw_region ?_
  refine rs_op rfl (ow_move rfl ?_)
  refine rs_op rfl (ow_bits ex59 rfl ?_)
  refine rs_op rfl (ow_assign rfl ?_)
  refine rs_nil ?_
  refine ew_next ?_
  refine cw_seq ?_
  refine cw_region ?_
  refine rs_op rfl (ow_move rfl ?_)
  refine rs_op rfl (ow_move rfl ?_)
  refine rs_op rfl (ow_shr rfl rfl (by decide) (shr52 (nzB a)) ?_)
  refine rs_op rfl (ow_conv Tryz.underlying3 Tryz.underlying22 rfl (wrap_i64 (by omega)) ?_)
  refine rs_op rfl (ow_and rfl rfl (and_2047i (by omega)) ?_)
  refine rs_set 34 (.int .i64 ((ex (nr (rg a)) + 1 : Nat) : Int)) rfl ((by rw [show nzB a / 4503599627370496 % 2048 = _ from hp1, hex] : (.int .i64 ((nzB a / 4503599627370496 % 2048 : Nat) : Int) : Value) = _)) ?_
  refine rs_op rfl (ow_sub rfl rfl (wrap_i64 (by omega)) ?_)
  refine rs_op rfl (ow_add rfl rfl (wrap_i64 (by omega)) ?_)
  refine rs_op rfl (ow_assign rfl ?_)
  refine rs_nil ?_
  refine ew_next ?_
  refine cw_seq ?_
  refine cw_seq ?_
  refine cw_region ?_
  refine rs_op rfl (ow_move rfl ?_)
  refine rs_op rfl (ow_lss rfl rfl ?_)
  refine rs_nil ?_
  refine ew_next ?_
  refine cw_set 38 (.bool false) rfl ((by rw [hB, decide_eq_false (by omega)] : (.bool (decide (((((k : Nat) : Int) + (nzE a)) + (((ex (nr (rg a)) + 1 : Nat) : Int) - 1023)) < (-1075))) : Value) = _)) ?_
  refine cw_set 1 (.int .i64 (((ex (nr q) : Nat) : Int) - 1074)) rfl ((by rw [hB] : (.int .i64 ((((k : Nat) : Int) + (nzE a)) + (((ex (nr (rg a)) + 1 : Nat) : Int) - 1023)) : Value) = _)) ?_
  refine cw_else rfl ?_
  refine cw_skip ?_
  refine ew_next ?_
  refine cw_seq ?_
  refine cw_seq ?_
  refine cw_region ?_
  refine rs_op rfl (ow_move rfl ?_)
  refine rs_op rfl (ow_gtr rfl rfl ?_)
  refine rs_nil ?_
  refine ew_next ?_
  refine cw_set 42 (.bool false) rfl ((by rw [decide_eq_false (by omega)] : (.bool (decide (1023 < (((ex (nr q) : Nat) : Int) - 1074))) : Value) = _)) ?_
  refine cw_else rfl ?_
  refine cw_skip ?_
  refine ew_next ?_
  refine cw_seq ?_
  refine cw_region ?_
  refine rs_op rfl (ow_assign rfl ?_)
  refine rs_nil ?_
  refine ew_next ?_
  refine cw_seq ?_
  refine cw_seq ?_
  refine cw_region ?_
  refine rs_op rfl (ow_move rfl ?_)
  refine rs_op rfl (ow_lss rfl rfl ?_)
  refine rs_nil ?_
  refine ew_next ?_
  refine cw_set 48 (.bool true) rfl ((by rw [decide_eq_true (by omega)] : (.bool (decide ((((ex (nr q) : Nat) : Int) - 1074) < (-1022))) : Value) = _)) ?_
  refine cw_then rfl ?_
  refine cw_seq ?_
  refine cw_region ?_
  refine rs_op rfl (ow_move rfl ?_)
  refine rs_op rfl (ow_add rfl rfl (wrap_i64 (by omega)) ?_)
  refine rs_op rfl (ow_assign rfl ?_)
  refine rs_nil ?_
  refine ew_next ?_
  refine cw_region ?_
  refine rs_op rfl (ow_assign rfl ?_)
  refine rs_nil ?_
  refine ew_next ?_
  refine cw_seq ?_
  refine cw_region ?_
  refine rs_op rfl (ow_move rfl ?_)
  refine rs_op rfl (ow_andNot rfl rfl (andNot_exp hlt) ?_)
  refine rs_set 52 (.int .u64 ((Ieee.double.word (ng a) (nr (rg a) % 4503599627370496) : Nat) : Int)) rfl ((by rw [show nzB a / 9223372036854775808 * 9223372036854775808 + nzB a % 4503599627370496 = _ from hp2] : (.int .u64 ((nzB a / 9223372036854775808 * 9223372036854775808 + nzB a % 4503599627370496 : Nat) : Int) : Value) = _)) ?_
  refine rs_op rfl (ow_assign rfl ?_)
  refine rs_nil ?_
  refine ew_next ?_
  refine cw_seq ?_
  refine cw_region ?_
  refine rs_op rfl (ow_move rfl ?_)
  refine rs_op rfl (ow_move rfl ?_)
  refine rs_op rfl (ow_add rfl rfl (wrap_i64 (by omega)) ?_)
  refine rs_op rfl (ow_conv Tryz.underlying22 Tryz.underlying3 rfl (wrap_u64 (by omega)) ?_)
  refine rs_op rfl (ow_shl (z := (((ex (nr q) + 2) * 4503599627370496 : Nat) : Int)) rfl rfl (by decide) (by show IntKind.u64.wrap ((((ex (nr q) : Nat) : Int) - 1074 + 53 + 1023) * 4503599627370496) = _; rw [wrap_u64 (by omega)]; omega) ?_)
  refine rs_op rfl (ow_or rfl rfl (or_bits hfw (by omega)) ?_)
  refine rs_set 58 (.int .u64 ((Ieee.double.word (ng a) ((ex (nr q) + 1) * 4503599627370496 + mg (nr q)) : Nat) : Int)) rfl ((by rw [hor.trans hword] : (.int .u64 ((Ieee.double.word (ng a) (nr (rg a) % 4503599627370496) ||| (ex (nr q) + 2) * 4503599627370496 : Nat) : Int) : Value) = _)) ?_
  refine rs_op rfl (ow_assign rfl ?_)
  refine rs_nil ?_
  refine ew_next ?_
  refine cw_seq ?_
  refine cw_region ?_
  refine rs_op rfl (ow_move rfl ?_)
  refine rs_op rfl (ow_move rfl ?_)
  refine rs_op rfl (ow_frombits (b := Ieee.double.word (ng a) ((ex (nr q) + 1) * 4503599627370496 + mg (nr q))) ex60 rfl ?_)
  refine rs_op rfl (ow_float (m := 4368491638549381120) (n := Ieee.double.word (ng a) ((ex (nr q) + 1) * 4503599627370496 + mg (nr q))) (.inr (.inr (.inl rfl))) rfl rfl ?_)
  intro r w4 hr
  have Ec := hr.ext
  replace E := E.trans Ec.no
  clear Ec
  refine rs_op rfl (ow_assign rfl ?_)
  refine rs_nil ?_
  refine ew_next ?_
  refine cw_ret ?_
  refine ew_ret (rs := [.tmp 4]) (vs := [_]) rfl ⟨rfl, trivial⟩ ?_
  exact ⟨by rw [hr.some (m53_mul hq0 hn)]; rfl, (LW.step E XLW).toBelow⟩
end
end Go.Proofs.YtljndllhmdpjlaaGreatDoor
namespace Go.Proofs.YtljndllhmdpjlaaGreatDoor
open Go.RowKit
set_option maxRecDepth 100000
section
variable {P : Program} {N : Nat} {ops : Array Oper} {Q : Exit → Act → World → Prop} {σ : Env} {w : World} {ty : TypeId} {pos : String} {af : Array Edge} {dst : Option Nat} {Post : Value → World → Prop}
theorem ow_f2i {T U : TypeId} {x : Operand} {b : Nat} {q : IntKind} {z : Int} (hd : P.underlying U = some (.int q)) (hs : (P.underlying T).isSome = true) (hx : ev σ x = some (.float .f64 b)) (hz : floatToIntVal .f64 b q = some z) (k : Post (.int q z) w) : OW P N ops Q ⟨dst, .convert T U x, ty, pos, af, none⟩ σ w Post :=
  ow_val (fun ρ ha => by
    have h := run_convert_float_int (P := P) w T U .f64 q b z hs hd hz
    simp only [execOp, ha hx, Sem.run_bind, h, Result.andThen_ok, Sem.run_pure]) k
theorem isN_read (b : Nat) : (FloatKind.f64.decode b).isNaN = isN b := by
  show (Ieee.double.read b).isNaN = isN b
  rcases Nat.lt_trichotomy (rg b) 9218868437227405312 with h | h | h
  · rw [read_num h, isN, decide_eq_false (by omega)]; rfl
  · rw [read_inf h, isN, decide_eq_false (by omega)]; rfl
  · rw [read_nan h, isN, decide_eq_true h]; rfl
structure NRes (r : Nat) (w w' : World) : Prop where
  isn : isN r = true
  ext : Ext No w w'
  lt : r < 18446744073709551616
end
end Go.Proofs.YtljndllhmdpjlaaGreatDoor
namespace Go.Proofs.YtljndllhmdpjlaaGreatDoor
open Ieee
set_option maxRecDepth 100000
theorem two_split {p q s P : Nat} (hP : P = 2 ^ p) (h : p = q + s) : P = 2 ^ q * 2 ^ s := by rw [hP, h, Nat.pow_add]
theorem two_mono {k K P : Nat} (h : k ≤ K) (hP : P = 2 ^ K) : 2 ^ k ≤ P := by rw [hP]; exact Nat.pow_le_pow_right (by decide) h
theorem two_pos (n : Nat) : 0 < 2 ^ n := Nat.pow_pos (by decide)
theorem div_mul_p {x P w : Nat} (h : w = x / P) : w * P ≤ x := by rw [h]; exact Nat.div_mul_le_self _ _
/-- Cut towards nought. -/
theorem cut_zero (s : Bool) (n t : Nat) : Toward.zero.cut s n t = n / 2 ^ t := by
  have e : Toward.zero.cut s n t = n / (1 <<< min t (n.log2 + 2)) := by
    unfold Toward.cut
    simp only [Bool.toNat_false, Nat.add_zero]
  rw [e, Nat.shiftLeft_eq, Nat.one_mul]
  rcases Nat.le_total t (n.log2 + 2) with h | h
  · rw [Nat.min_eq_left h]
  · rw [Nat.min_eq_right h]
    have h1 := @Nat.lt_log2_self n
    have h2 : (2 : Nat) ^ (n.log2 + 1) ≤ 2 ^ (n.log2 + 2) := Nat.pow_le_pow_right (by decide) (by omega)
    have h3 : (2 : Nat) ^ (n.log2 + 2) ≤ 2 ^ t := Nat.pow_le_pow_right (by decide) h
    rw [Nat.div_eq_of_lt (by omega), Nat.div_eq_of_lt (by omega)]
theorem shl_div (m i j : Nat) : m * 2 ^ (i - j) / 2 ^ (j - i) = m * 2 ^ i / 2 ^ j := by
  rcases Nat.le_total j i with h | h
  · rw [show j - i = 0 by omega, Nat.pow_zero, Nat.div_one, pow_min h, Nat.mul_div_cancel _ (Nat.pow_pos (by decide))]
  · rw [show i - j = 0 by omega, Nat.pow_zero, Nat.mul_one]
    rw [show (2 : Nat) ^ j = 2 ^ (j - i) * 2 ^ i by rw [← Nat.pow_add]; congr 1; omega, Nat.mul_div_mul_right _ _ (Nat.pow_pos (by decide))]
/-- What is left of a number when it is cut to a whole one. -/
def wholeN (a : Nat) : Nat := vl (rg a) / 2 ^ 1074
theorem integral_zero {a : Nat} (ha : rg a < 9218868437227405312) : (double.read a).integral .zero = .number (ng a) (wholeN a) 0 := by
  rw [read_num ha, Datum.integral, cut_zero, Nat.shiftLeft_eq]
  have e1 : (-1074 + (ex (rg a) : Int)).toNat = ex (rg a) - 1074 := by omega
  have e2 : (-(-1074 + (ex (rg a) : Int))).toNat = 1074 - ex (rg a) := by omega
  rw [e1, e2, shl_div]
  rfl
theorem signed_zero (s : Bool) (m : Nat) : signed s m 0 = if s then -(m : Int) else (m : Int) := by
  unfold signed
  rw [Nat.shiftLeft_zero]
theorem toInt_fin {a : Nat} (ha : rg a < 9218868437227405312) : (FloatKind.f64.decode a).toInt .zero = some (if ng a then -(wholeN a : Int) else (wholeN a : Int)) := by
  show Datum.toInt .zero (double.read a) = _
  unfold Datum.toInt
  rw [integral_zero ha]
  simp only [signed_zero]
theorem f2i_i64 {a : Nat} (ha : rg a < 9218868437227405312) (h : wholeN a < 9223372036854775808) : floatToIntVal .f64 a .i64 = some (if ng a then -(wholeN a : Int) else (wholeN a : Int)) := by
  unfold floatToIntVal
  rw [toInt_fin ha]
  have h1 : IntKind.i64.min = -9223372036854775808 := rfl
  have h2 : IntKind.i64.max = 9223372036854775807 := rfl
  simp only [h1, h2]
  rw [if_pos (by split <;> omega)]
theorem mul_div_p {m P x : Nat} (hP : 0 < P) (h : x = m * P) : x / P = m := by rw [h, Nat.mul_div_cancel _ hP]
theorem wholeN_word (s : Bool) {q m : Nat} (hq : q < 9218868437227405312) (h : vl q = m * 2 ^ 1074) : wholeN (double.word s q) = m := by
  unfold wholeN
  rewrite [(word_rg s q (Nat.lt_trans hq (by decide))).1]
  exact mul_div_p (two_pos 1074) h
theorem fround_zero {a : Nat} (ha : rg a < 9218868437227405312) : ∃ q, vl q = wholeN a * 2 ^ 1074 ∧ q ≤ rg a ∧ fround .zero a = double.word (ng a) q := by
  have key : ∃ q, vl q = wholeN a * 2 ^ 1074 ∧ q ≤ rg a := by
    have hle : wholeN a * 2 ^ 1074 ≤ vl (rg a) := div_mul_p rfl
    rcases Nat.le_total (ex (rg a)) 1074 with h | h
    · refine rep_le (wholeN a) 1074 (rg a) ?_ hle
      have := mg_lt (rg a)
      have h2 : vl (rg a) ≤ mg (rg a) * 2 ^ 1074 := Nat.mul_le_mul_left _ (two_mono h rfl)
      have h3 : wholeN a ≤ mg (rg a) := Nat.le_of_mul_le_mul_right (Nat.le_trans hle h2) (two_pos 1074)
      exact Nat.lt_of_le_of_lt h3 this
    · refine ⟨rg a, ?_, Nat.le_refl _⟩
      have e : vl (rg a) = mg (rg a) * 2 ^ (ex (rg a) - 1074) * 2 ^ 1074 := pow_min h _
      have e2 : wholeN a = mg (rg a) * 2 ^ (ex (rg a) - 1074) := mul_div_p (two_pos 1074) e
      rw [e2]; exact e
  obtain ⟨q, h1, h2⟩ := key
  refine ⟨q, h1, h2, ?_⟩
  show double.write ((double.read a).integral .zero) = _
  rw [integral_zero ha]
  exact write_exact (u := 1074) (d := 0) (Nat.lt_of_le_of_lt h2 ha) (by omega) (by rw [h1, Nat.pow_zero, Nat.mul_one])
/-! ### rests -/
end Go.Proofs.YtljndllhmdpjlaaGreatDoor
namespace Go.Proofs.YtljndllhmdpjlaaGreatDoor
open Ieee
set_option maxRecDepth 100000
end Go.Proofs.YtljndllhmdpjlaaGreatDoor
namespace Go.Proofs.YtljndllhmdpjlaaGreatDoor
open Ieee
set_option maxRecDepth 100000
def addS (a b : Nat) : Bool := if sv a + sv b = 0 then ng a && ng b else decide (sv a + sv b < 0)
theorem dvd_p {x m P : Nat} (h : x = m * P) : P ∣ x := ⟨m, by rw [h, Nat.mul_comm]⟩
theorem zero_p {x j P : Nat} (h : x = j * P) (e : j = 0) : x = 0 := by rw [h, e, Nat.zero_mul]
/-- Is a magnitude whole? -/
def isWh (r : Nat) : Prop := 2 ^ 1074 ∣ vl r
theorem isWh_ex {r : Nat} (h : 1074 ≤ ex r) : isWh r := by
  have e : vl r = mg r * 2 ^ (ex r - 1074) * 2 ^ 1074 := pow_min h (mg r)
  exact dvd_p e
theorem isWh_iff {a : Nat} : isWh (rg a) ↔ vl (rg a) = wholeN a * 2 ^ 1074 := by
  constructor
  · intro h; exact (Nat.div_mul_cancel h).symm
  · intro h; exact dvd_p h
end Go.Proofs.YtljndllhmdpjlaaGreatDoor
namespace Go.Proofs.YtljndllhmdpjlaaGreatDoor
open Ieee
set_option maxRecDepth 100000
/-- The rest's magnitude. -/
noncomputable def modR (a b : Nat) : Nat := if rg b = 9218868437227405312 then rg a else rungOf (vl (rg a) % vl (rg b))
noncomputable def m0F (a b : Nat) : Nat := double.word (ng a) (modR a b)
theorem fin_notN {b : Nat} (hb : rg b < 9218868437227405312) : isN b = false := decide_eq_false (by omega)
def nanCase (a b : Nat) : Bool := isN a || isN b || decide (rg a = 9218868437227405312)
noncomputable def flipB (a b : Nat) : Bool := decide (modR a b ≠ 0) && (ng a != ng b)
noncomputable def modF (a b : Nat) : Nat := if nanCase a b then 9221120237041090560 else if modR a b = 0 then double.word (ng b) 0 else if flipB a b then ansF (fop .add (m0F a b) b) else m0F a b
noncomputable def subF (a b : Nat) : Nat := ansF (fop .sub a (m0F a b))
noncomputable def d0F (a b : Nat) : Nat := ansF (fop .quo (subF a b) b)
noncomputable def d1F (a b : Nat) : Nat := if flipB a b then ansF (fop .sub (d0F a b) 4607182418800017408) else d0F a b
/-- Is what lies above the number rounded down more than a half? -/
def upB (d : Nat) : Bool := match fop .sub d (fround .down d) with
  | some z => ford z 4602678819172646912 == some .gt
  | none => false
def wholeF (d : Nat) : Nat := if upB d then ansF (fop .add (fround .down d) 4607182418800017408) else fround .down d
noncomputable def floorF (a b : Nat) : Nat := if nanCase a b then 9221120237041090560 else if isZ (d1F a b) then double.word (ng a ^^ ng b) 0 else wholeF (d1F a b)
section
variable {a b : Nat} (ha : a < 18446744073709551616) (hf : rg a < 9218868437227405312) (hb : b < 18446744073709551616) (hn : isN b = false) (h0 : rg b ≠ 0)
include hf h0
include hn ha
end
end Go.Proofs.YtljndllhmdpjlaaGreatDoor
namespace Go.Proofs.YtljndllhmdpjlaaGreatDoor
open Go.RowKit
set_option maxRecDepth 100000
theorem rg_self {r : Nat} (h : r < 9223372036854775808) : rg r = r ∧ ng r = false := by
  have := word_rg false r h
  exact ⟨this.1, this.2.1⟩
theorem frF_pos {r : Nat} (hr : r < 9218868437227405312) : frF r = 4602678819172646912 + (mg (nr r) - 4503599627370496) := by
  obtain ⟨h1, h2⟩ := rg_self (r := r) (by omega)
  rw [frF, h1, h2]; rfl
theorem frE_pos {r : Nat} (hr : r < 9218868437227405312) : frE r = (ex (nr r) : Int) - 1021 - (nd r : Int) := by
  obtain ⟨h1, _⟩ := rg_self (r := r) (by omega)
  unfold frE nd
  rw [h1]
  split <;> rfl
section
variable (w : World)
section
variable (a : Nat) (ha : a < 18446744073709551616) (h0 : rg a ≠ 0) (hf : rg a < 9218868437227405312)
include ha
section
include h0 hf
theorem Frexp_num : Calls Tryz.prog 70 #[.float .f64 a] w fun e w' => e = .returned (.tuple #[.float .f64 (frF a), .int .i64 (frE a)]) ∧ Below w.heap.size w w' := by
  refine calls_cw Tryz.func70 rfl Tryz.ntmps70 rfl ?_
  have HF : Per (No) w (fun _ => True) := Per.true_
  have LW := Ext.refl (No) w
  have XLW : ∀ q9, (No) q9 → (No) q9 ∨ w.heap.size ≤ q9 := fun _ h => Or.inl h
  have E := Ext.refl (No) w
  refine cw_seq ?_
  refine cw_region ?_
  refine rs_op rfl (ow_assign rfl ?_)
  refine rs_op rfl (ow_assign rfl ?_)
  refine rs_nil ?_
  refine ew_next ?_
  refine cw_seq ?_
  refine cw_else rfl ?_
  refine cw_skip ?_
  refine ew_next ?_
  refine cw_seq ?_
  refine cw_region ?_
  refine rs_op rfl (ow_move rfl ?_)
  refine rs_op rfl (ow_enter en106 rfl ((frexp_num _ a ha h0 hf).mono ?_))
  rintro e w1 ⟨rfl, hb⟩
  refine ⟨_, rfl, ?_⟩
  have Ec := Ext.of_below hb No
  replace E := E.trans Ec.no
  clear hb Ec
  refine rs_op rfl (ow_extract rfl rfl ?_)
  refine rs_op rfl (ow_extract rfl rfl ?_)
  refine rs_op rfl (ow_assign rfl ?_)
  refine rs_op rfl (ow_assign rfl ?_)
  refine rs_nil ?_
  refine ew_next ?_
  refine cw_ret ?_
  refine ew_ret (rs := [.tmp 2, .tmp 3]) (vs := [_, _]) rfl ⟨rfl, rfl, trivial⟩ ?_
  exact ⟨rfl, (LW.step E XLW).toBelow⟩
theorem ldexp_all (k q : Nat) (hk : k < 4096) (hq : q < 9218868437227405312) (hv : vl q = vl (rg a) * 2 ^ k) : Calls Tryz.prog 108 #[.float .f64 a, .int .i64 ((k : Nat) : Int)] w fun e w' => e = .returned (.float .f64 (Ieee.double.word (ng a) q)) ∧ Below w.heap.size w w' := by
  rcases Nat.lt_or_ge q 4503599627370496 with hn | hn
  · refine ldexp_sub w a k q ha h0 hf hk hq hv hn (fun e => ?_)
    subst e
    rw [vl_zero] at hv
    have h1 : 0 < vl (rg a) := by
      rcases Nat.eq_zero_or_pos (vl (rg a)) with h' | h'
      · exact absurd (vl_zero_iff.1 h') h0
      · exact h'
    have := Nat.mul_pos h1 (show 0 < 2 ^ k from Nat.pow_pos (by decide))
    omega
  · exact ldexp_norm w a k q ha h0 hf hk hq hv hn
theorem Ldexp_num (k q : Nat) (hk : k < 4096) (hq : q < 9218868437227405312) (hv : vl q = vl (rg a) * 2 ^ k) : Calls Tryz.prog 72 #[.float .f64 a, .int .i64 ((k : Nat) : Int)] w fun e w' => e = .returned (.float .f64 (Ieee.double.word (ng a) q)) ∧ Below w.heap.size w w' := by
  refine calls_cw Tryz.func72 rfl Tryz.ntmps72 rfl ?_
  have HF : Per (No) w (fun _ => True) := Per.true_
  have LW := Ext.refl (No) w
  have XLW : ∀ q9, (No) q9 → (No) q9 ∨ w.heap.size ≤ q9 := fun _ h => Or.inl h
  have E := Ext.refl (No) w
  refine cw_seq ?_
  refine cw_region ?_
  refine rs_op rfl (ow_assign rfl ?_)
  refine rs_nil ?_
  refine ew_next ?_
  refine cw_seq ?_
  refine cw_else rfl ?_
  refine cw_skip ?_
  refine ew_next ?_
  refine cw_seq ?_
  refine cw_region ?_
  refine rs_op rfl (ow_move rfl ?_)
  refine rs_op rfl (ow_move rfl ?_)
  refine rs_op rfl (ow_enter en108 rfl ((ldexp_all _ a ha h0 hf k q hk hq hv).mono ?_))
  rintro e w1 ⟨rfl, hb⟩
  refine ⟨_, rfl, ?_⟩
  have Ec := Ext.of_below hb No
  replace E := E.trans Ec.no
  clear hb Ec
  refine rs_op rfl (ow_assign rfl ?_)
  refine rs_nil ?_
  refine ew_next ?_
  refine cw_ret ?_
  refine ew_ret (rs := [.tmp 4]) (vs := [_]) rfl ⟨rfl, trivial⟩ ?_
  exact ⟨rfl, (LW.step E XLW).toBelow⟩
end
section
variable (hz : rg a = 0)
include hz
theorem frexp_zero : Calls Tryz.prog 106 #[.float .f64 a] w fun e w' => e = .returned (.tuple #[.float .f64 a, .int .i64 0]) ∧ Below w.heap.size w w' := by
  have _ := ha
  have hz2 : isZ a = true := decide_eq_true hz
  refine calls_cw Tryz.func106 rfl Tryz.ntmps106 rfl ?_
  have HF : Per (No) w (fun _ => True) := Per.true_
  have LW := Ext.refl (No) w
  have XLW : ∀ q9, (No) q9 → (No) q9 ∨ w.heap.size ≤ q9 := fun _ h => Or.inl h
  have E := Ext.refl (No) w
  refine cw_seq ?_
  refine cw_region ?_
  refine rs_op rfl (ow_assign rfl ?_)
  refine rs_op rfl (ow_assign rfl ?_)
  refine rs_nil ?_
  refine ew_next ?_
  refine cw_seq ?_
  refine cw_block ?_
  refine cw_seq ?_
  refine cw_region ?_
  refine rs_op rfl (ow_move rfl ?_)
  refine rs_op rfl (ow_feql rfl rfl ?_)
  refine rs_op rfl (ow_assign rfl ?_)
  refine rs_nil ?_
  refine ew_next ?_
  refine cw_set 5 (.bool true) rfl ((by rw [ford_zero, hz2] : (.bool (ford a 0 == some .eq) : Value) = _)) ?_
  refine cw_then rfl ?_
  refine cw_seq ?_
  refine cw_region ?_
  refine rs_op rfl (ow_move rfl ?_)
  refine rs_op rfl (ow_assign rfl ?_)
  refine rs_op rfl (ow_assign rfl ?_)
  refine rs_nil ?_
  refine ew_next ?_
  refine cw_ret ?_
  refine ew_block_ret ?_
  refine ew_then_ret ?_
  refine ew_ret (rs := [.tmp 2, .tmp 3]) (vs := [_, _]) rfl ⟨rfl, rfl, trivial⟩ ?_
  exact ⟨rfl, (LW.step E XLW).toBelow⟩
theorem Frexp_zero : Calls Tryz.prog 70 #[.float .f64 a] w fun e w' => e = .returned (.tuple #[.float .f64 a, .int .i64 0]) ∧ Below w.heap.size w w' := by
  refine calls_cw Tryz.func70 rfl Tryz.ntmps70 rfl ?_
  have HF : Per (No) w (fun _ => True) := Per.true_
  have LW := Ext.refl (No) w
  have XLW : ∀ q9, (No) q9 → (No) q9 ∨ w.heap.size ≤ q9 := fun _ h => Or.inl h
  have E := Ext.refl (No) w
  refine cw_seq ?_
  refine cw_region ?_
  refine rs_op rfl (ow_assign rfl ?_)
  refine rs_op rfl (ow_assign rfl ?_)
  refine rs_nil ?_
  refine ew_next ?_
  refine cw_seq ?_
  refine cw_else rfl ?_
  refine cw_skip ?_
  refine ew_next ?_
  refine cw_seq ?_
  refine cw_region ?_
  refine rs_op rfl (ow_move rfl ?_)
  refine rs_op rfl (ow_enter en106 rfl ((frexp_zero _ a ha hz).mono ?_))
  rintro e w1 ⟨rfl, hb⟩
  refine ⟨_, rfl, ?_⟩
  have Ec := Ext.of_below hb No
  replace E := E.trans Ec.no
  clear hb Ec
  refine rs_op rfl (ow_extract rfl rfl ?_)
  refine rs_op rfl (ow_extract rfl rfl ?_)
  refine rs_op rfl (ow_assign rfl ?_)
  refine rs_op rfl (ow_assign rfl ?_)
  refine rs_nil ?_
  refine ew_next ?_
  refine cw_ret ?_
  refine ew_ret (rs := [.tmp 2, .tmp 3]) (vs := [_, _]) rfl ⟨rfl, rfl, trivial⟩ ?_
  exact ⟨rfl, (LW.step E XLW).toBelow⟩
theorem ldexp_zero (k : Int) : Calls Tryz.prog 108 #[.float .f64 a, .int .i64 k] w fun e w' => e = .returned (.float .f64 a) ∧ Below w.heap.size w w' := by
  have _ := ha
  have hz2 : isZ a = true := decide_eq_true hz
  refine calls_cw Tryz.func108 rfl Tryz.ntmps108 rfl ?_
  have HF : Per (No) w (fun _ => True) := Per.true_
  have LW := Ext.refl (No) w
  have XLW : ∀ q9, (No) q9 → (No) q9 ∨ w.heap.size ≤ q9 := fun _ h => Or.inl h
  have E := Ext.refl (No) w
  refine cw_seq ?_
  refine cw_region ?_
  refine rs_op rfl (ow_assign rfl ?_)
  refine rs_nil ?_
  refine ew_next ?_
  refine cw_seq ?_
  refine cw_block ?_
  refine cw_seq ?_
  refine cw_region ?_
  refine rs_op rfl (ow_move rfl ?_)
  refine rs_op rfl (ow_feql rfl rfl ?_)
  refine rs_op rfl (ow_assign rfl ?_)
  refine rs_nil ?_
  refine ew_next ?_
  refine cw_set 8 (.bool true) rfl ((by rw [ford_zero, hz2] : (.bool (ford a 0 == some .eq) : Value) = _)) ?_
  refine cw_then rfl ?_
  refine cw_seq ?_
  refine cw_region ?_
  refine rs_op rfl (ow_move rfl ?_)
  refine rs_op rfl (ow_assign rfl ?_)
  refine rs_nil ?_
  refine ew_next ?_
  refine cw_ret ?_
  refine ew_block_ret ?_
  refine ew_then_ret ?_
  refine ew_ret (rs := [.tmp 4]) (vs := [_]) rfl ⟨rfl, trivial⟩ ?_
  exact ⟨rfl, (LW.step E XLW).toBelow⟩
theorem Ldexp_zero (k : Int) : Calls Tryz.prog 72 #[.float .f64 a, .int .i64 k] w fun e w' => e = .returned (.float .f64 a) ∧ Below w.heap.size w w' := by
  refine calls_cw Tryz.func72 rfl Tryz.ntmps72 rfl ?_
  have HF : Per (No) w (fun _ => True) := Per.true_
  have LW := Ext.refl (No) w
  have XLW : ∀ q9, (No) q9 → (No) q9 ∨ w.heap.size ≤ q9 := fun _ h => Or.inl h
  have E := Ext.refl (No) w
  refine cw_seq ?_
  refine cw_region ?_
  refine rs_op rfl (ow_assign rfl ?_)
  refine rs_nil ?_
  refine ew_next ?_
  refine cw_seq ?_
  refine cw_else rfl ?_
  refine cw_skip ?_
  refine ew_next ?_
  refine cw_seq ?_
  refine cw_region ?_
  refine rs_op rfl (ow_move rfl ?_)
  refine rs_op rfl (ow_move rfl ?_)
  refine rs_op rfl (ow_enter en108 rfl ((ldexp_zero _ a ha hz k).mono ?_))
  rintro e w1 ⟨rfl, hb⟩
  refine ⟨_, rfl, ?_⟩
  have Ec := Ext.of_below hb No
  replace E := E.trans Ec.no
  clear hb Ec
  refine rs_op rfl (ow_assign rfl ?_)
  refine rs_nil ?_
  refine ew_next ?_
  refine cw_ret ?_
  refine ew_ret (rs := [.tmp 4]) (vs := [_]) rfl ⟨rfl, trivial⟩ ?_
  exact ⟨rfl, (LW.step E XLW).toBelow⟩
end
section
variable (hi : rg a = 9218868437227405312)
include hi
end
end
/-! ### math.mod -/
section
variable (a b : Nat) (ha : a < 18446744073709551616) (hb : b < 18446744073709551616) (hz : isZ b = false)
include ha hb hz
section
variable (hf : rg a < 9218868437227405312) (hn : isN b = false)
include hf hn
section
variable (ha0 : rg a ≠ 0)
include ha0
/-! ### the loop -/
variable (hq : rg b < 9218868437227405312)
include hq
end
end
end
end
end Go.Proofs.YtljndllhmdpjlaaGreatDoor
namespace Go.Proofs.YtljndllhmdpjlaaGreatDoor
open Go.RowKit
set_option maxRecDepth 100000
theorem tmod_nat (m n : Nat) : ((m : Nat) : Int).tmod ((n : Nat) : Int) = ((m % n : Nat) : Int) := rfl
theorem and_frac {m : Nat} (hm : m < 18446744073709551616) : IntKind.u64.wrap (BitVec.ofInt IntKind.u64.bits ((m : Nat) : Int) &&& BitVec.ofInt IntKind.u64.bits 4503599627370495).toNat = ((m % 4503599627370496 : Nat) : Int) := by
  have := and_bits (n := 4503599627370495) hm (by decide)
  rw [show m &&& 4503599627370495 = m % 4503599627370496 from Nat.and_two_pow_sub_one_eq_mod m 52] at this
  exact this
theorem bool_dec {p q : Prop} [Decidable p] [Decidable q] (h : p ↔ q) : (Value.bool (decide p)) = .bool (decide q) := by
  congr 1
  by_cases hp : p
  · rw [decide_eq_true hp, decide_eq_true (h.1 hp)]
  · rw [decide_eq_false hp, decide_eq_false (fun k => hp (h.2 k))]
section
variable (w : World)
theorem parts_any (a : Nat) (ha : a < 18446744073709551616) (hf : rg a < 9218868437227405312) : Calls Tryz.prog 75 #[.int .u64 ((a : Nat) : Int)] w fun e w' => e = .returned (.tuple #[.int .u64 ((mg (rg a) : Nat) : Int), .int .i64 (((ex (rg a) : Nat) : Int) - 1074)]) ∧ Below w.heap.size w w' := by
  have h1 : a / 4503599627370496 % 2048 = rg a / 4503599627370496 := by unfold rg at *; omega
  have h2 : a % 4503599627370496 = rg a % 4503599627370496 := by unfold rg; omega
  have h3 : rg a / 4503599627370496 < 2048 := by omega
  refine calls_cw Tryz.func75 rfl Tryz.ntmps75 rfl ?_
  have HF : Per (No) w (fun _ => True) := Per.true_
  have LW := Ext.refl (No) w
  have XLW : ∀ q9, (No) q9 → (No) q9 ∨ w.heap.size ≤ q9 := fun _ h => Or.inl h
  have E := Ext.refl (No) w
  refine cw_seq ?_
  refine cw_region ?_
  refine rs_op rfl (ow_assign rfl ?_)
  refine rs_op rfl (ow_assign rfl ?_)
  refine rs_nil ?_
  refine ew_next ?_
  refine cw_seq ?_
  refine cw_region ?_
  refine rs_op rfl (ow_move rfl ?_)
  refine rs_op rfl (ow_shr rfl rfl (by decide) (shr52 a) ?_)
  refine rs_op rfl (ow_and rfl rfl (and_2047 (by omega)) ?_)
  refine rs_set 7 (.int .u64 ((rg a / 4503599627370496 : Nat) : Int)) rfl ((by rw [h1] : (.int .u64 ((a / 4503599627370496 % 2048 : Nat) : Int) : Value) = _)) ?_
  refine rs_op rfl (ow_conv Tryz.underlying3 Tryz.underlying22 rfl (wrap_i64 (by omega)) ?_)
  refine rs_op rfl (ow_assign rfl ?_)
  refine rs_nil ?_
  refine ew_next ?_
  refine cw_seq ?_
  refine cw_seq ?_
  refine cw_region ?_
  refine rs_op rfl (ow_move rfl ?_)
  refine rs_op rfl (ow_eql rfl rfl ?_)
  refine rs_nil ?_
  refine ew_next ?_
  refine cw_cond rfl (fun h => ?_) (fun h => ?_)
  · have _way := True.intro
    have h := beq_iff_eq.1 h
    have hs : rg a < 4503599627370496 := by omega
    refine cw_seq ?_
    refine cw_region ?_
    refine rs_op rfl (ow_move rfl ?_)
    refine rs_op rfl (ow_and rfl rfl (and_frac ha) ?_)
    refine rs_op rfl (ow_assign rfl ?_)
    refine rs_op rfl (ow_assign rfl ?_)
    refine rs_nil ?_
    refine ew_next ?_
    refine cw_ret ?_
    refine ew_then_ret ?_
    refine ew_ret (rs := [.tmp 2, .tmp 3]) (vs := [_, _]) rfl ⟨rfl, rfl, trivial⟩ ?_
    exact ⟨by rw [h2, mg, ex, if_pos hs, if_pos hs, Nat.mod_eq_of_lt hs]; rfl, (LW.step E XLW).toBelow⟩
  · have _way := True.intro
    have h := beq_eq_false_iff_ne.1 h
    have hs : ¬ rg a < 4503599627370496 := by omega
    refine cw_skip ?_
    refine ew_next ?_
    refine cw_seq ?_
    refine cw_region ?_
    refine rs_op rfl (ow_move rfl ?_)
    refine rs_op rfl (ow_and rfl rfl (and_frac ha) ?_)
    refine rs_set 14 (.int .u64 ((rg a % 4503599627370496 : Nat) : Int)) rfl ((by rw [h2] : (.int .u64 ((a % 4503599627370496 : Nat) : Int) : Value) = _)) ?_
    refine rs_op rfl (ow_add rfl rfl (wrap_u64 (by omega)) ?_)
    refine rs_op rfl (ow_move rfl ?_)
    refine rs_op rfl (ow_sub rfl rfl (wrap_i64 (by omega)) ?_)
    refine rs_op rfl (ow_assign rfl ?_)
    refine rs_op rfl (ow_assign rfl ?_)
    refine rs_nil ?_
    refine ew_next ?_
    refine cw_ret ?_
    refine ew_ret (rs := [.tmp 2, .tmp 3]) (vs := [_, _]) rfl ⟨rfl, rfl, trivial⟩ ?_
    exact ⟨by rw [mg, ex, if_neg hs, if_neg hs, show (((rg a / 4503599627370496 - 1 : Nat) : Int) - 1074) = ((rg a / 4503599627370496 : Nat) : Int) - 1075 by omega, Nat.add_comm]; rfl, (LW.step E XLW).toBelow⟩
/-! ### rest -/
section
variable (a b : Nat) (ha : a < 18446744073709551616) (hb : b < 18446744073709551616)
include ha hb
section
variable (ha0 : rg a ≠ 0) (hb0 : rg b ≠ 0) (hf : rg a < 9218868437227405312) (hq : rg b < 9218868437227405312)
include ha0 hb0 hf hq
end
end
end
end Go.Proofs.YtljndllhmdpjlaaGreatDoor
namespace Go.Proofs.YtljndllhmdpjlaaGreatDoor
open Go.RowKit
set_option maxRecDepth 100000
theorem tdiv_nat (m n : Nat) : ((m : Nat) : Int).tdiv ((n : Nat) : Int) = ((m / n : Nat) : Int) := rfl
theorem quo_nat {m n : Nat} (h : m < 18446744073709551616) : IntKind.u64.wrap (((m : Nat) : Int).tdiv ((n : Nat) : Int)) = ((m / n : Nat) : Int) := by
  rw [tdiv_nat]; exact wrap_nat (Nat.lt_of_le_of_lt (Nat.div_le_self m n) h)
section
variable (w : World)
end
end Go.Proofs.YtljndllhmdpjlaaGreatDoor
namespace Go.Proofs.YtljndllhmdpjlaaGreatDoor
open Go.RowKit
set_option maxRecDepth 100000
theorem frF_parts {r : Nat} (hr : r < 9218868437227405312) (h0 : r ≠ 0) : frF r < 9218868437227405312 ∧ frF r ≠ 0 ∧ vl (frF r) = mg (nr r) * 2 ^ 1021 := by
  obtain ⟨m1, m2⟩ := mg_nr h0
  obtain ⟨p1, p2⟩ := rung_parts (e := 1021) m1 m2
  have e : frF r = 1021 * 4503599627370496 + mg (nr r) := by rw [frF_pos hr]; omega
  refine ⟨by omega, by omega, ?_⟩
  rw [e, vl, p1, p2]
theorem fullQ {r : Nat} (h0 : r ≠ 0) : vl (1074 * 4503599627370496 + mg (nr r)) = mg (nr r) * 2 ^ 1074 ∧ 1074 * 4503599627370496 + mg (nr r) < 9218868437227405312 := by
  obtain ⟨m1, m2⟩ := mg_nr h0
  obtain ⟨p1, p2⟩ := rung_parts (e := 1074) m1 m2
  refine ⟨?_, by omega⟩
  show mg _ * 2 ^ ex _ = _
  rewrite [p1, p2]; rfl
end Go.Proofs.YtljndllhmdpjlaaGreatDoor
namespace Go.Proofs.YtljndllhmdpjlaaGreatDoor
open Go.RowKit
set_option maxRecDepth 100000
theorem FRes.isn {r : Nat} {w w' : World} (h : FRes none r w w') : isN r = true := by
  rcases h with ⟨h1, _⟩ | ⟨_, hn, _⟩
  · cases h1
  · exact nan_isN hn
theorem FRes.nan {z : Option Nat} {r : Nat} {w w' : World} (h : FRes z r w w') (hz : z = none) : isN r = true := by subst hz; exact h.isn
theorem bareN_num {m : Nat} (h : isN m = false) : bareN m = m := by rw [bareN, if_neg (by rw [h]; decide)]
section
variable (w : World)
/-! ### package real's -/
section
variable (a b : Nat) (ha : a < 18446744073709551616) (hb : b < 18446744073709551616) (hz : isZ b = false)
include ha hb hz
section
variable (hf : rg a < 9218868437227405312) (hn : isN b = false)
include hf hn
end
end
end
end Go.Proofs.YtljndllhmdpjlaaGreatDoor
namespace Go.Proofs.YtljndllhmdpjlaaGreatDoor
open Go.RowKit
set_option maxRecDepth 100000
end Go.Proofs.YtljndllhmdpjlaaGreatDoor
namespace Go.Proofs.YtljndllhmdpjlaaGreatDoor
open Go.RowKit
set_option maxRecDepth 100000
/-- The caller's own row comes back longer. -/
def RetRowB (W : World) (base : Nat) (key : Option Nat) (n : Nat) (xs : List Value) (e : Ending) (w' : World) : Prop :=
  ∃ A c, e = .returned (.slice A n c) ∧ w'.ownsRow base 5 1 (.slice A n c) n xs ∧ Ext (Mut [key]) W w' ∧ ∀ q, (Value.slice A n c).ownBlock = some q → key = some q ∨ W.heap.size ≤ q
theorem kn_of {r r' : Option Nat} {n : Nat} (h : ∀ q, Mut [r'] q → Mut [r] q ∨ n ≤ q) : ∀ q, r' = some q → r = some q ∨ n ≤ q := fun q e => (h q (Or.inl e.symm)).imp (fun h => h.elim (fun e => e.symm) (fun e => e.elim)) id
section
variable (w : World) (base : Nat) (A : Option Addr) (c : Nat) (HB : base ≤ w.heap.size) (ho : w.ownsRow base 5 1 (.slice A 0 c) 0 [])
include HB ho
theorem efg_ze : Calls Tryz.prog 158 #[.slice A 0 c, .bool true, .slice none 0 0, .int .i64 0, .int .i64 0, .int .i64 (-1), .int .u8 101, .bool true] w (RetRowB w base (Value.slice A 0 c).ownBlock 6 [.int .u8 45, .int .u8 48, .int .u8 101, .int .u8 43, .int .u8 48, .int .u8 48]) := by
  refine calls_cw Tryz.func158 rfl Tryz.ntmps158 rfl ?_
  have Odst : World.ownsRow w base 5 1 (.slice A 0 c) 0 ([]) := ho
  have HF : Per (Mut [((Value.slice A 0 c).ownBlock)]) w (fun _ => True) := Per.true_
  have LW := Ext.refl (Mut [((Value.slice A 0 c).ownBlock)]) w
  have XLW : ∀ q9, (Mut [((Value.slice A 0 c).ownBlock)]) q9 → (Mut [((Value.slice A 0 c).ownBlock)]) q9 ∨ w.heap.size ≤ q9 := fun _ h => Or.inl h
  have E := Ext.refl (Mut [((Value.slice A 0 c).ownBlock)]) w
  refine cw_seq ?_
  refine cw_region ?_
  refine rs_op rfl (ow_assign rfl ?_)
  refine rs_nil ?_
  refine ew_next ?_
  refine cw_seq ?_
  refine cw_seq ?_
  refine cw_region ?_
  refine rs_op rfl (ow_move rfl ?_)
  refine rs_op rfl (ow_eql rfl rfl ?_)
  refine rs_op rfl (ow_move rfl ?_)
  refine rs_op rfl (ow_on rfl (ow_move rfl ?_))
  refine rs_op rfl (ow_on rfl (ow_eql rfl rfl ?_))
  refine rs_op rfl (ow_pickF rfl rfl ?_)
  refine rs_nil ?_
  refine ew_next ?_
  refine cw_else rfl ?_
  refine cw_skip ?_
  refine ew_next ?_
  refine cw_seq ?_
  refine cw_seq ?_
  refine cw_region ?_
  refine rs_op rfl (ow_move rfl ?_)
  refine rs_nil ?_
  refine ew_next ?_
  refine cw_block ?_
  refine cw_seq ?_
  refine cw_seq ?_
  refine cw_region ?_
  refine rs_op rfl (ow_eql rfl rfl ?_)
  refine rs_op rfl (ow_assign rfl ?_)
  refine rs_nil ?_
  refine ew_next ?_
  refine cw_then rfl ?_
  refine cw_skip ?_
  refine ew_next ?_
  refine cw_then rfl ?_
  refine cw_seq ?_
  refine cw_seq ?_
  refine cw_region ?_
  refine rs_op rfl (ow_move rfl ?_)
  refine rs_nil ?_
  refine ew_next ?_
  refine cw_then rfl ?_
  refine cw_region ?_
  refine rs_op rfl (ow_move rfl ?_)
  refine rs_op rfl (ow_buildSlice (cs := #[.int .u8 45]) Tryz.underlying84 sz5 zr5 (by decide) rfl (by rw [map_range_]; rfl) ?_)
  intro gb1 w2 Bb1 Eb1 Gb1
  have Db1_dst : Apart (some gb1) ((Value.slice A 0 c).ownBlock) := Apart.of_lt (owns_lt Odst) Gb1
  have Ddst_b1 := Db1_dst.symm
  have Gb1 : _ ≤ gb1 := Nat.le_trans E.size Gb1
  have GLb1 := Nat.le_trans LW.size Gb1
  replace Odst := owns_extN Odst Eb1 NotIn.nil
  replace E := E.trans Eb1.no
  clear Eb1
  replace HF := HF.cons (some_ge Gb1)
  replace E := E.cons (some gb1)
  replace XLW := Mut.grow XLW (fun k e => Or.inr (Nat.le_trans LW.size ((some_ge Gb1) k e)))
  replace HF := HF.on E
  replace LW := LW.step E XLW
  have SB : ∀ q9, Mut [((Value.slice A 0 c).ownBlock)] q9 → Mut [(some gb1), ((Value.slice A 0 c).ownBlock)] q9 := (Mut.skip (Mut.keep Mut.nil_))
  replace HF := HF.less SB
  replace XLW := fun k h => XLW k (SB k h)
  clear SB
  replace E := Ext.refl (Mut [((Value.slice A 0 c).ownBlock)]) w2
  replace HF := HF.and (Per.blkN Bb1 (NotIn.cons Db1_dst NotIn.nil))
  clear Bb1
  refine rs_op rfl (ow_append (news := [.int .u8 45]) Tryz.underlying84 inf5 rfl (by decide) rfl Odst rfl (reads_row (HF.on E).here.2 ((HF.on E).here.2).lt rfl) (by simp [Value.oneCell']) (by unfold maxLen; omega) (by omega) (by exact Nat.le_trans HB (Nat.le_trans LW.size E.size)) ?_)
  intro v0 w4 On En KN
  obtain ⟨Aq3, cq3, rfl⟩ := owns_shape On
  replace KN : ∀ q9, ((Value.slice Aq3 1 cq3).ownBlock) = some q9 → ((Value.slice A 0 c).ownBlock) = some q9 ∨ w2.heap.size ≤ q9 := KN
  have HY : ∀ q9, (Mut [((Value.slice Aq3 1 cq3).ownBlock)]) q9 → (Mut [((Value.slice A 0 c).ownBlock)]) q9 ∨ w2.heap.size ≤ q9 := (Mut.grow Mut.none_ (fun k e => (KN k e).elim (fun e => Or.inl (Mut.head k e)) (fun h => Or.inr (Nat.le_trans E.size h))))
  replace E := E.step1 En Mut.head
  replace HF := HF.turn E HY
  have XT := fun q9 (h : (Mut [((Value.slice Aq3 1 cq3).ownBlock)]) q9) => (HY q9 h).elim (XLW q9) (fun h => Or.inr (Nat.le_trans LW.size h))
  replace LW := LW.step E XLW
  replace XLW := XT
  clear XT
  replace E := Ext.refl (Mut [((Value.slice Aq3 1 cq3).ownBlock)]) w4
  clear HY
  replace Odst : World.ownsRow w4 base 5 1 (.slice Aq3 1 cq3) 1 ([.int .u8 45]) := by
    have e : (([]) : List Value) ++ ([.int .u8 45] : List Value) = [.int .u8 45] := rfl
    rw [← e]
    exact On
  clear On KN En
  refine rs_op rfl (ow_assign rfl ?_)
  refine rs_nil ?_
  refine ew_next ?_
  refine cw_seq ?_
  refine cw_region ?_
  refine rs_op rfl (ow_assign rfl ?_)
  refine rs_nil ?_
  refine ew_next ?_
  refine cw_seq ?_
  refine cw_seq ?_
  refine cw_region ?_
  refine rs_op rfl (ow_move rfl ?_)
  refine rs_op rfl (ow_neq rfl rfl ?_)
  refine rs_nil ?_
  refine ew_next ?_
  refine cw_else rfl ?_
  refine cw_skip ?_
  refine ew_next ?_
  refine cw_seq ?_
  refine cw_region ?_
  refine rs_op rfl (ow_move rfl ?_)
  refine rs_op rfl (ow_move rfl ?_)
  refine rs_op rfl (ow_buildSlice (cs := #[.int .u8 48]) Tryz.underlying84 sz5 zr5 (by decide) rfl (by rw [map_range_]; rfl) ?_)
  intro gb5 w6 Bb5 Eb5 Gb5
  have Db5_dst : Apart (some gb5) ((Value.slice Aq3 1 cq3).ownBlock) := Apart.of_lt (owns_lt Odst) Gb5
  have Ddst_b5 := Db5_dst.symm
  have Gb5 : _ ≤ gb5 := Nat.le_trans E.size Gb5
  have GLb5 := Nat.le_trans LW.size Gb5
  replace Odst := owns_extN Odst Eb5 NotIn.nil
  replace E := E.trans Eb5.no
  clear Eb5
  replace HF := HF.cons (some_ge Gb5)
  replace E := E.cons (some gb5)
  replace XLW := Mut.grow XLW (fun k e => Or.inr (Nat.le_trans LW.size ((some_ge Gb5) k e)))
  replace HF := HF.on E
  replace LW := LW.step E XLW
  have SB : ∀ q9, Mut [((Value.slice Aq3 1 cq3).ownBlock)] q9 → Mut [(some gb5), ((Value.slice Aq3 1 cq3).ownBlock)] q9 := (Mut.skip (Mut.keep Mut.nil_))
  replace HF := HF.less SB
  replace XLW := fun k h => XLW k (SB k h)
  clear SB
  replace E := Ext.refl (Mut [((Value.slice Aq3 1 cq3).ownBlock)]) w6
  replace HF := HF.and (Per.blkN Bb5 (NotIn.cons Db5_dst NotIn.nil))
  clear Bb5
  refine rs_op rfl (ow_append (news := [.int .u8 48]) Tryz.underlying84 inf5 rfl (by decide) rfl Odst rfl (reads_row (HF.on E).here.2 ((HF.on E).here.2).lt rfl) (by simp [Value.oneCell']) (by unfold maxLen; omega) (by omega) (by exact Nat.le_trans HB (Nat.le_trans LW.size E.size)) ?_)
  intro v0 w8 On En KN
  obtain ⟨Aq7, cq7, rfl⟩ := owns_shape On
  replace KN : ∀ q9, ((Value.slice Aq7 2 cq7).ownBlock) = some q9 → ((Value.slice Aq3 1 cq3).ownBlock) = some q9 ∨ w6.heap.size ≤ q9 := KN
  have HY : ∀ q9, (Mut [((Value.slice Aq7 2 cq7).ownBlock)]) q9 → (Mut [((Value.slice Aq3 1 cq3).ownBlock)]) q9 ∨ w6.heap.size ≤ q9 := (Mut.grow Mut.none_ (fun k e => (KN k e).elim (fun e => Or.inl (Mut.head k e)) (fun h => Or.inr (Nat.le_trans E.size h))))
  replace E := E.step1 En Mut.head
  replace HF := HF.turn E HY
  have XT := fun q9 (h : (Mut [((Value.slice Aq7 2 cq7).ownBlock)]) q9) => (HY q9 h).elim (XLW q9) (fun h => Or.inr (Nat.le_trans LW.size h))
  replace LW := LW.step E XLW
  replace XLW := XT
  clear XT
  replace E := Ext.refl (Mut [((Value.slice Aq7 2 cq7).ownBlock)]) w8
  clear HY
  replace Odst : World.ownsRow w8 base 5 1 (.slice Aq7 2 cq7) 2 ([.int .u8 45, .int .u8 48]) := by
    have e : (([.int .u8 45]) : List Value) ++ ([.int .u8 48] : List Value) = [.int .u8 45, .int .u8 48] := rfl
    rw [← e]
    exact On
  clear On KN En
  refine rs_op rfl (ow_assign rfl ?_)
  refine rs_nil ?_
  refine ew_next ?_
  refine cw_seq ?_
  refine cw_seq ?_
  refine cw_region ?_
  refine rs_op rfl (ow_move rfl ?_)
  refine rs_op rfl (ow_gtr rfl rfl ?_)
  refine rs_nil ?_
  refine ew_next ?_
  refine cw_else rfl ?_
  refine cw_skip ?_
  refine ew_next ?_
  refine cw_seq ?_
  refine cw_region ?_
  refine rs_op rfl (ow_move rfl ?_)
  refine rs_op rfl (ow_move rfl ?_)
  refine rs_op rfl (ow_buildSlice (cs := #[.int .u8 101]) Tryz.underlying84 sz5 zr5 (by decide) rfl (by rw [map_range_]; rfl) ?_)
  intro gb9 w10 Bb9 Eb9 Gb9
  have Db9_dst : Apart (some gb9) ((Value.slice Aq7 2 cq7).ownBlock) := Apart.of_lt (owns_lt Odst) Gb9
  have Ddst_b9 := Db9_dst.symm
  have Gb9 : _ ≤ gb9 := Nat.le_trans E.size Gb9
  have GLb9 := Nat.le_trans LW.size Gb9
  replace Odst := owns_extN Odst Eb9 NotIn.nil
  replace E := E.trans Eb9.no
  clear Eb9
  replace HF := HF.cons (some_ge Gb9)
  replace E := E.cons (some gb9)
  replace XLW := Mut.grow XLW (fun k e => Or.inr (Nat.le_trans LW.size ((some_ge Gb9) k e)))
  replace HF := HF.on E
  replace LW := LW.step E XLW
  have SB : ∀ q9, Mut [((Value.slice Aq7 2 cq7).ownBlock)] q9 → Mut [(some gb9), ((Value.slice Aq7 2 cq7).ownBlock)] q9 := (Mut.skip (Mut.keep Mut.nil_))
  replace HF := HF.less SB
  replace XLW := fun k h => XLW k (SB k h)
  clear SB
  replace E := Ext.refl (Mut [((Value.slice Aq7 2 cq7).ownBlock)]) w10
  replace HF := HF.and (Per.blkN Bb9 (NotIn.cons Db9_dst NotIn.nil))
  clear Bb9
  refine rs_op rfl (ow_append (news := [.int .u8 101]) Tryz.underlying84 inf5 rfl (by decide) rfl Odst rfl (reads_row (HF.on E).here.2 ((HF.on E).here.2).lt rfl) (by simp [Value.oneCell']) (by unfold maxLen; omega) (by omega) (by exact Nat.le_trans HB (Nat.le_trans LW.size E.size)) ?_)
  intro v0 w12 On En KN
  obtain ⟨Aq11, cq11, rfl⟩ := owns_shape On
  replace KN : ∀ q9, ((Value.slice Aq11 3 cq11).ownBlock) = some q9 → ((Value.slice Aq7 2 cq7).ownBlock) = some q9 ∨ w10.heap.size ≤ q9 := KN
  have HY : ∀ q9, (Mut [((Value.slice Aq11 3 cq11).ownBlock)]) q9 → (Mut [((Value.slice Aq7 2 cq7).ownBlock)]) q9 ∨ w10.heap.size ≤ q9 := (Mut.grow Mut.none_ (fun k e => (KN k e).elim (fun e => Or.inl (Mut.head k e)) (fun h => Or.inr (Nat.le_trans E.size h))))
  replace E := E.step1 En Mut.head
  replace HF := HF.turn E HY
  have XT := fun q9 (h : (Mut [((Value.slice Aq11 3 cq11).ownBlock)]) q9) => (HY q9 h).elim (XLW q9) (fun h => Or.inr (Nat.le_trans LW.size h))
  replace LW := LW.step E XLW
  replace XLW := XT
  clear XT
  replace E := Ext.refl (Mut [((Value.slice Aq11 3 cq11).ownBlock)]) w12
  clear HY
  replace Odst : World.ownsRow w12 base 5 1 (.slice Aq11 3 cq11) 3 ([.int .u8 45, .int .u8 48, .int .u8 101]) := by
    have e : (([.int .u8 45, .int .u8 48]) : List Value) ++ ([.int .u8 101] : List Value) = [.int .u8 45, .int .u8 48, .int .u8 101] := rfl
    rw [← e]
    exact On
  clear On KN En
  refine rs_op rfl (ow_assign rfl ?_)
  refine rs_nil ?_
  refine ew_next ?_
  refine cw_seq ?_
  refine cw_region ?_
  refine rs_op rfl (ow_move rfl ?_)
  refine rs_op rfl (ow_sub (z := (-1)) rfl rfl (by kernel_rfl) ?_)
  refine rs_op rfl (ow_assign rfl ?_)
  refine rs_nil ?_
  refine ew_next ?_
  refine cw_seq ?_
  refine cw_seq ?_
  refine cw_region ?_
  refine rs_op rfl (ow_move rfl ?_)
  refine rs_op rfl (ow_eql rfl rfl ?_)
  refine rs_nil ?_
  refine ew_next ?_
  refine cw_then rfl ?_
  refine cw_region ?_
  refine rs_op rfl (ow_assign rfl ?_)
  refine rs_nil ?_
  refine ew_next ?_
  refine cw_seq ?_
  refine cw_seq ?_
  refine cw_region ?_
  refine rs_op rfl (ow_move rfl ?_)
  refine rs_op rfl (ow_lss rfl rfl ?_)
  refine rs_nil ?_
  refine ew_next ?_
  refine cw_else rfl ?_
  refine cw_region ?_
  refine rs_op rfl (ow_assign rfl ?_)
  refine rs_nil ?_
  refine ew_next ?_
  refine cw_seq ?_
  refine cw_region ?_
  refine rs_op rfl (ow_move rfl ?_)
  refine rs_op rfl (ow_move rfl ?_)
  refine rs_op rfl (ow_buildSlice (cs := #[.int .u8 43]) Tryz.underlying84 sz5 zr5 (by decide) rfl (by rw [map_range_]; rfl) ?_)
  intro gb13 w14 Bb13 Eb13 Gb13
  have Db13_dst : Apart (some gb13) ((Value.slice Aq11 3 cq11).ownBlock) := Apart.of_lt (owns_lt Odst) Gb13
  have Ddst_b13 := Db13_dst.symm
  have Gb13 : _ ≤ gb13 := Nat.le_trans E.size Gb13
  have GLb13 := Nat.le_trans LW.size Gb13
  replace Odst := owns_extN Odst Eb13 NotIn.nil
  replace E := E.trans Eb13.no
  clear Eb13
  replace HF := HF.cons (some_ge Gb13)
  replace E := E.cons (some gb13)
  replace XLW := Mut.grow XLW (fun k e => Or.inr (Nat.le_trans LW.size ((some_ge Gb13) k e)))
  replace HF := HF.on E
  replace LW := LW.step E XLW
  have SB : ∀ q9, Mut [((Value.slice Aq11 3 cq11).ownBlock)] q9 → Mut [(some gb13), ((Value.slice Aq11 3 cq11).ownBlock)] q9 := (Mut.skip (Mut.keep Mut.nil_))
  replace HF := HF.less SB
  replace XLW := fun k h => XLW k (SB k h)
  clear SB
  replace E := Ext.refl (Mut [((Value.slice Aq11 3 cq11).ownBlock)]) w14
  replace HF := HF.and (Per.blkN Bb13 (NotIn.cons Db13_dst NotIn.nil))
  clear Bb13
  refine rs_op rfl (ow_append (news := [.int .u8 43]) Tryz.underlying84 inf5 rfl (by decide) rfl Odst rfl (reads_row (HF.on E).here.2 ((HF.on E).here.2).lt rfl) (by simp [Value.oneCell']) (by unfold maxLen; omega) (by omega) (by exact Nat.le_trans HB (Nat.le_trans LW.size E.size)) ?_)
  intro v0 w16 On En KN
  obtain ⟨Aq15, cq15, rfl⟩ := owns_shape On
  replace KN : ∀ q9, ((Value.slice Aq15 4 cq15).ownBlock) = some q9 → ((Value.slice Aq11 3 cq11).ownBlock) = some q9 ∨ w14.heap.size ≤ q9 := KN
  have HY : ∀ q9, (Mut [((Value.slice Aq15 4 cq15).ownBlock)]) q9 → (Mut [((Value.slice Aq11 3 cq11).ownBlock)]) q9 ∨ w14.heap.size ≤ q9 := (Mut.grow Mut.none_ (fun k e => (KN k e).elim (fun e => Or.inl (Mut.head k e)) (fun h => Or.inr (Nat.le_trans E.size h))))
  replace E := E.step1 En Mut.head
  replace HF := HF.turn E HY
  have XT := fun q9 (h : (Mut [((Value.slice Aq15 4 cq15).ownBlock)]) q9) => (HY q9 h).elim (XLW q9) (fun h => Or.inr (Nat.le_trans LW.size h))
  replace LW := LW.step E XLW
  replace XLW := XT
  clear XT
  replace E := Ext.refl (Mut [((Value.slice Aq15 4 cq15).ownBlock)]) w16
  clear HY
  replace Odst : World.ownsRow w16 base 5 1 (.slice Aq15 4 cq15) 4 ([.int .u8 45, .int .u8 48, .int .u8 101, .int .u8 43]) := by
    have e : (([.int .u8 45, .int .u8 48, .int .u8 101]) : List Value) ++ ([.int .u8 43] : List Value) = [.int .u8 45, .int .u8 48, .int .u8 101, .int .u8 43] := rfl
    rw [← e]
    exact On
  clear On KN En
  refine rs_op rfl (ow_assign rfl ?_)
  refine rs_nil ?_
  refine ew_next ?_
  refine cw_seq ?_
  refine cw_block ?_
  refine cw_seq ?_
  refine cw_region ?_
  refine rs_op rfl (ow_move rfl ?_)
  refine rs_op rfl (ow_lss rfl rfl ?_)
  refine rs_op rfl (ow_assign rfl ?_)
  refine rs_nil ?_
  refine ew_next ?_
  refine cw_then rfl ?_
  refine cw_region ?_
  refine rs_op rfl (ow_move rfl ?_)
  refine rs_op rfl (ow_move rfl ?_)
  refine rs_op rfl (ow_conv (z := 0) Tryz.underlying5 Tryz.underlying3 rfl (by kernel_rfl) ?_)
  refine rs_op rfl (ow_add (z := 48) rfl rfl (by kernel_rfl) ?_)
  refine rs_op rfl (ow_buildSlice (cs := #[.int .u8 48, .int .u8 48]) Tryz.underlying84 sz5 zr5 (by decide) rfl (by rw [map_range_]; rfl) ?_)
  intro gb17 w18 Bb17 Eb17 Gb17
  have Db17_dst : Apart (some gb17) ((Value.slice Aq15 4 cq15).ownBlock) := Apart.of_lt (owns_lt Odst) Gb17
  have Ddst_b17 := Db17_dst.symm
  have Gb17 : _ ≤ gb17 := Nat.le_trans E.size Gb17
  have GLb17 := Nat.le_trans LW.size Gb17
  replace Odst := owns_extN Odst Eb17 NotIn.nil
  replace E := E.trans Eb17.no
  clear Eb17
  replace HF := HF.cons (some_ge Gb17)
  replace E := E.cons (some gb17)
  replace XLW := Mut.grow XLW (fun k e => Or.inr (Nat.le_trans LW.size ((some_ge Gb17) k e)))
  replace HF := HF.on E
  replace LW := LW.step E XLW
  have SB : ∀ q9, Mut [((Value.slice Aq15 4 cq15).ownBlock)] q9 → Mut [(some gb17), ((Value.slice Aq15 4 cq15).ownBlock)] q9 := (Mut.skip (Mut.keep Mut.nil_))
  replace HF := HF.less SB
  replace XLW := fun k h => XLW k (SB k h)
  clear SB
  replace E := Ext.refl (Mut [((Value.slice Aq15 4 cq15).ownBlock)]) w18
  replace HF := HF.and (Per.blkN Bb17 (NotIn.cons Db17_dst NotIn.nil))
  clear Bb17
  refine rs_op rfl (ow_append (news := [.int .u8 48, .int .u8 48]) Tryz.underlying84 inf5 rfl (by decide) rfl Odst rfl (reads_row (HF.on E).here.2 ((HF.on E).here.2).lt rfl) (by simp [Value.oneCell']) (by unfold maxLen; omega) (by omega) (by exact Nat.le_trans HB (Nat.le_trans LW.size E.size)) ?_)
  intro v0 w20 On En KN
  obtain ⟨Aq19, cq19, rfl⟩ := owns_shape On
  replace KN : ∀ q9, ((Value.slice Aq19 6 cq19).ownBlock) = some q9 → ((Value.slice Aq15 4 cq15).ownBlock) = some q9 ∨ w18.heap.size ≤ q9 := KN
  have HY : ∀ q9, (Mut [((Value.slice Aq19 6 cq19).ownBlock)]) q9 → (Mut [((Value.slice Aq15 4 cq15).ownBlock)]) q9 ∨ w18.heap.size ≤ q9 := (Mut.grow Mut.none_ (fun k e => (KN k e).elim (fun e => Or.inl (Mut.head k e)) (fun h => Or.inr (Nat.le_trans E.size h))))
  replace E := E.step1 En Mut.head
  replace HF := HF.turn E HY
  have XT := fun q9 (h : (Mut [((Value.slice Aq19 6 cq19).ownBlock)]) q9) => (HY q9 h).elim (XLW q9) (fun h => Or.inr (Nat.le_trans LW.size h))
  replace LW := LW.step E XLW
  replace XLW := XT
  clear XT
  replace E := Ext.refl (Mut [((Value.slice Aq19 6 cq19).ownBlock)]) w20
  clear HY
  replace Odst : World.ownsRow w20 base 5 1 (.slice Aq19 6 cq19) 6 ([.int .u8 45, .int .u8 48, .int .u8 101, .int .u8 43, .int .u8 48, .int .u8 48]) := by
    have e : (([.int .u8 45, .int .u8 48, .int .u8 101, .int .u8 43]) : List Value) ++ ([.int .u8 48, .int .u8 48] : List Value) = [.int .u8 45, .int .u8 48, .int .u8 101, .int .u8 43, .int .u8 48, .int .u8 48] := rfl
    rw [← e]
    exact On
  clear On KN En
  refine rs_op rfl (ow_assign rfl ?_)
  refine rs_nil ?_
  refine ew_block_normal ?_
  refine ew_next ?_
  refine cw_seq ?_
  refine cw_region ?_
  refine rs_op rfl (ow_move rfl ?_)
  refine rs_op rfl (ow_assign rfl ?_)
  refine rs_nil ?_
  refine ew_next ?_
  refine cw_ret ?_
  refine ew_block_ret ?_
  refine ew_then_ret ?_
  refine ew_ret (rs := [.tmp 16]) (vs := [_]) rfl ⟨rfl, trivial⟩ ?_
  exact ⟨_, _, rfl, Odst, (LW.step E XLW), kn_of XLW⟩
theorem efg_zf : Calls Tryz.prog 158 #[.slice A 0 c, .bool true, .slice none 0 0, .int .i64 0, .int .i64 0, .int .i64 (-1), .int .u8 102, .bool true] w (RetRowB w base (Value.slice A 0 c).ownBlock 2 [.int .u8 45, .int .u8 48]) := by
  refine calls_cw Tryz.func158 rfl Tryz.ntmps158 rfl ?_
  have Odst : World.ownsRow w base 5 1 (.slice A 0 c) 0 ([]) := ho
  have HF : Per (Mut [((Value.slice A 0 c).ownBlock)]) w (fun _ => True) := Per.true_
  have LW := Ext.refl (Mut [((Value.slice A 0 c).ownBlock)]) w
  have XLW : ∀ q9, (Mut [((Value.slice A 0 c).ownBlock)]) q9 → (Mut [((Value.slice A 0 c).ownBlock)]) q9 ∨ w.heap.size ≤ q9 := fun _ h => Or.inl h
  have E := Ext.refl (Mut [((Value.slice A 0 c).ownBlock)]) w
  refine cw_seq ?_
  refine cw_region ?_
  refine rs_op rfl (ow_assign rfl ?_)
  refine rs_nil ?_
  refine ew_next ?_
  refine cw_seq ?_
  refine cw_seq ?_
  refine cw_region ?_
  refine rs_op rfl (ow_move rfl ?_)
  refine rs_op rfl (ow_eql rfl rfl ?_)
  refine rs_op rfl (ow_move rfl ?_)
  refine rs_op rfl (ow_on rfl (ow_move rfl ?_))
  refine rs_op rfl (ow_on rfl (ow_eql rfl rfl ?_))
  refine rs_op rfl (ow_pickF rfl rfl ?_)
  refine rs_nil ?_
  refine ew_next ?_
  refine cw_else rfl ?_
  refine cw_skip ?_
  refine ew_next ?_
  refine cw_seq ?_
  refine cw_seq ?_
  refine cw_region ?_
  refine rs_op rfl (ow_move rfl ?_)
  refine rs_nil ?_
  refine ew_next ?_
  refine cw_block ?_
  refine cw_seq ?_
  refine cw_seq ?_
  refine cw_region ?_
  refine rs_op rfl (ow_eql rfl rfl ?_)
  refine rs_op rfl (ow_assign rfl ?_)
  refine rs_nil ?_
  refine ew_next ?_
  refine cw_else rfl ?_
  refine cw_region ?_
  refine rs_op rfl (ow_eql rfl rfl ?_)
  refine rs_op rfl (ow_assign rfl ?_)
  refine rs_nil ?_
  refine ew_next ?_
  refine cw_else rfl ?_
  refine cw_seq ?_
  refine cw_region ?_
  refine rs_op rfl (ow_eql rfl rfl ?_)
  refine rs_op rfl (ow_assign rfl ?_)
  refine rs_nil ?_
  refine ew_next ?_
  refine cw_then rfl ?_
  refine cw_seq ?_
  refine cw_seq ?_
  refine cw_region ?_
  refine rs_op rfl (ow_move rfl ?_)
  refine rs_nil ?_
  refine ew_next ?_
  refine cw_then rfl ?_
  refine cw_region ?_
  refine rs_op rfl (ow_move rfl ?_)
  refine rs_op rfl (ow_buildSlice (cs := #[.int .u8 45]) Tryz.underlying84 sz5 zr5 (by decide) rfl (by rw [map_range_]; rfl) ?_)
  intro gb1 w2 Bb1 Eb1 Gb1
  have Db1_dst : Apart (some gb1) ((Value.slice A 0 c).ownBlock) := Apart.of_lt (owns_lt Odst) Gb1
  have Ddst_b1 := Db1_dst.symm
  have Gb1 : _ ≤ gb1 := Nat.le_trans E.size Gb1
  have GLb1 := Nat.le_trans LW.size Gb1
  replace Odst := owns_extN Odst Eb1 NotIn.nil
  replace E := E.trans Eb1.no
  clear Eb1
  replace HF := HF.cons (some_ge Gb1)
  replace E := E.cons (some gb1)
  replace XLW := Mut.grow XLW (fun k e => Or.inr (Nat.le_trans LW.size ((some_ge Gb1) k e)))
  replace HF := HF.on E
  replace LW := LW.step E XLW
  have SB : ∀ q9, Mut [((Value.slice A 0 c).ownBlock)] q9 → Mut [(some gb1), ((Value.slice A 0 c).ownBlock)] q9 := (Mut.skip (Mut.keep Mut.nil_))
  replace HF := HF.less SB
  replace XLW := fun k h => XLW k (SB k h)
  clear SB
  replace E := Ext.refl (Mut [((Value.slice A 0 c).ownBlock)]) w2
  replace HF := HF.and (Per.blkN Bb1 (NotIn.cons Db1_dst NotIn.nil))
  clear Bb1
  refine rs_op rfl (ow_append (news := [.int .u8 45]) Tryz.underlying84 inf5 rfl (by decide) rfl Odst rfl (reads_row (HF.on E).here.2 ((HF.on E).here.2).lt rfl) (by simp [Value.oneCell']) (by unfold maxLen; omega) (by omega) (by exact Nat.le_trans HB (Nat.le_trans LW.size E.size)) ?_)
  intro v0 w4 On En KN
  obtain ⟨Aq3, cq3, rfl⟩ := owns_shape On
  replace KN : ∀ q9, ((Value.slice Aq3 1 cq3).ownBlock) = some q9 → ((Value.slice A 0 c).ownBlock) = some q9 ∨ w2.heap.size ≤ q9 := KN
  have HY : ∀ q9, (Mut [((Value.slice Aq3 1 cq3).ownBlock)]) q9 → (Mut [((Value.slice A 0 c).ownBlock)]) q9 ∨ w2.heap.size ≤ q9 := (Mut.grow Mut.none_ (fun k e => (KN k e).elim (fun e => Or.inl (Mut.head k e)) (fun h => Or.inr (Nat.le_trans E.size h))))
  replace E := E.step1 En Mut.head
  replace HF := HF.turn E HY
  have XT := fun q9 (h : (Mut [((Value.slice Aq3 1 cq3).ownBlock)]) q9) => (HY q9 h).elim (XLW q9) (fun h => Or.inr (Nat.le_trans LW.size h))
  replace LW := LW.step E XLW
  replace XLW := XT
  clear XT
  replace E := Ext.refl (Mut [((Value.slice Aq3 1 cq3).ownBlock)]) w4
  clear HY
  replace Odst : World.ownsRow w4 base 5 1 (.slice Aq3 1 cq3) 1 ([.int .u8 45]) := by
    have e : (([]) : List Value) ++ ([.int .u8 45] : List Value) = [.int .u8 45] := rfl
    rw [← e]
    exact On
  clear On KN En
  refine rs_op rfl (ow_assign rfl ?_)
  refine rs_nil ?_
  refine ew_next ?_
  refine cw_seq ?_
  refine cw_seq ?_
  refine cw_region ?_
  refine rs_op rfl (ow_move rfl ?_)
  refine rs_op rfl (ow_gtr rfl rfl ?_)
  refine rs_nil ?_
  refine ew_next ?_
  refine cw_else rfl ?_
  refine cw_region ?_
  refine rs_op rfl (ow_move rfl ?_)
  refine rs_op rfl (ow_buildSlice (cs := #[.int .u8 48]) Tryz.underlying84 sz5 zr5 (by decide) rfl (by rw [map_range_]; rfl) ?_)
  intro gb5 w6 Bb5 Eb5 Gb5
  have Db5_dst : Apart (some gb5) ((Value.slice Aq3 1 cq3).ownBlock) := Apart.of_lt (owns_lt Odst) Gb5
  have Ddst_b5 := Db5_dst.symm
  have Gb5 : _ ≤ gb5 := Nat.le_trans E.size Gb5
  have GLb5 := Nat.le_trans LW.size Gb5
  replace Odst := owns_extN Odst Eb5 NotIn.nil
  replace E := E.trans Eb5.no
  clear Eb5
  replace HF := HF.cons (some_ge Gb5)
  replace E := E.cons (some gb5)
  replace XLW := Mut.grow XLW (fun k e => Or.inr (Nat.le_trans LW.size ((some_ge Gb5) k e)))
  replace HF := HF.on E
  replace LW := LW.step E XLW
  have SB : ∀ q9, Mut [((Value.slice Aq3 1 cq3).ownBlock)] q9 → Mut [(some gb5), ((Value.slice Aq3 1 cq3).ownBlock)] q9 := (Mut.skip (Mut.keep Mut.nil_))
  replace HF := HF.less SB
  replace XLW := fun k h => XLW k (SB k h)
  clear SB
  replace E := Ext.refl (Mut [((Value.slice Aq3 1 cq3).ownBlock)]) w6
  replace HF := HF.and (Per.blkN Bb5 (NotIn.cons Db5_dst NotIn.nil))
  clear Bb5
  refine rs_op rfl (ow_append (news := [.int .u8 48]) Tryz.underlying84 inf5 rfl (by decide) rfl Odst rfl (reads_row (HF.on E).here.2 ((HF.on E).here.2).lt rfl) (by simp [Value.oneCell']) (by unfold maxLen; omega) (by omega) (by exact Nat.le_trans HB (Nat.le_trans LW.size E.size)) ?_)
  intro v0 w8 On En KN
  obtain ⟨Aq7, cq7, rfl⟩ := owns_shape On
  replace KN : ∀ q9, ((Value.slice Aq7 2 cq7).ownBlock) = some q9 → ((Value.slice Aq3 1 cq3).ownBlock) = some q9 ∨ w6.heap.size ≤ q9 := KN
  have HY : ∀ q9, (Mut [((Value.slice Aq7 2 cq7).ownBlock)]) q9 → (Mut [((Value.slice Aq3 1 cq3).ownBlock)]) q9 ∨ w6.heap.size ≤ q9 := (Mut.grow Mut.none_ (fun k e => (KN k e).elim (fun e => Or.inl (Mut.head k e)) (fun h => Or.inr (Nat.le_trans E.size h))))
  replace E := E.step1 En Mut.head
  replace HF := HF.turn E HY
  have XT := fun q9 (h : (Mut [((Value.slice Aq7 2 cq7).ownBlock)]) q9) => (HY q9 h).elim (XLW q9) (fun h => Or.inr (Nat.le_trans LW.size h))
  replace LW := LW.step E XLW
  replace XLW := XT
  clear XT
  replace E := Ext.refl (Mut [((Value.slice Aq7 2 cq7).ownBlock)]) w8
  clear HY
  replace Odst : World.ownsRow w8 base 5 1 (.slice Aq7 2 cq7) 2 ([.int .u8 45, .int .u8 48]) := by
    have e : (([.int .u8 45]) : List Value) ++ ([.int .u8 48] : List Value) = [.int .u8 45, .int .u8 48] := rfl
    rw [← e]
    exact On
  clear On KN En
  refine rs_op rfl (ow_assign rfl ?_)
  refine rs_nil ?_
  refine ew_next ?_
  refine cw_seq ?_
  refine cw_seq ?_
  refine cw_region ?_
  refine rs_op rfl (ow_move rfl ?_)
  refine rs_op rfl (ow_gtr rfl rfl ?_)
  refine rs_nil ?_
  refine ew_next ?_
  refine cw_else rfl ?_
  refine cw_skip ?_
  refine ew_next ?_
  refine cw_seq ?_
  refine cw_region ?_
  refine rs_op rfl (ow_move rfl ?_)
  refine rs_op rfl (ow_assign rfl ?_)
  refine rs_nil ?_
  refine ew_next ?_
  refine cw_ret ?_
  refine ew_block_ret ?_
  refine ew_then_ret ?_
  refine ew_ret (rs := [.tmp 16]) (vs := [_]) rfl ⟨rfl, trivial⟩ ?_
  exact ⟨_, _, rfl, Odst, (LW.step E XLW), kn_of XLW⟩
theorem ftoa_ze : Calls Tryz.prog 130 #[.slice A 0 c, .float .f64 9223372036854775808, .int .u8 101, .int .i64 (-1)] w (RetRowB w base (Value.slice A 0 c).ownBlock 6 [.int .u8 45, .int .u8 48, .int .u8 101, .int .u8 43, .int .u8 48, .int .u8 48]) := by
  refine calls_cw Tryz.func130 rfl Tryz.ntmps130 rfl ?_
  have Odst : World.ownsRow w base 5 1 (.slice A 0 c) 0 ([]) := ho
  have HF : Per (Mut [((Value.slice A 0 c).ownBlock)]) w (fun _ => True) := Per.true_
  have LW := Ext.refl (Mut [((Value.slice A 0 c).ownBlock)]) w
  have XLW : ∀ q9, (Mut [((Value.slice A 0 c).ownBlock)]) q9 → (Mut [((Value.slice A 0 c).ownBlock)]) q9 ∨ w.heap.size ≤ q9 := fun _ h => Or.inl h
  have E := Ext.refl (Mut [((Value.slice A 0 c).ownBlock)]) w
  refine cw_seq ?_
  refine cw_region ?_
  refine rs_op rfl (ow_assign rfl ?_)
  refine rs_nil ?_
  refine ew_next ?_
  refine cw_seq ?_
  refine cw_region ?_
  refine rs_op rfl (ow_assign rfl ?_)
  refine rs_nil ?_
  refine ew_next ?_
  refine cw_seq ?_
  refine cw_region ?_
  refine rs_op rfl (ow_assign rfl ?_)
  refine rs_op rfl (ow_assign rfl ?_)
  refine rs_op rfl (ow_assign rfl ?_)
  refine rs_nil ?_
  refine ew_next ?_
  refine cw_seq ?_
  refine cw_block ?_
  refine cw_seq ?_
  refine cw_region ?_
  refine rs_op rfl (ow_eql rfl rfl ?_)
  refine rs_op rfl (ow_assign rfl ?_)
  refine rs_nil ?_
  refine ew_next ?_
  refine cw_else rfl ?_
  refine cw_seq ?_
  refine cw_region ?_
  refine rs_op rfl (ow_eql rfl rfl ?_)
  refine rs_op rfl (ow_assign rfl ?_)
  refine rs_nil ?_
  refine ew_next ?_
  refine cw_then rfl ?_
  refine cw_seq ?_
  refine cw_region ?_
  refine rs_op rfl (ow_move rfl ?_)
  refine rs_op rfl (ow_bits ex155 rfl ?_)
  refine rs_op rfl (ow_assign rfl ?_)
  refine rs_nil ?_
  refine ew_next ?_
  refine cw_seq ?_
  refine cw_region ?_
  refine rs_op rfl (ow_assign rfl ?_)
  refine rs_nil ?_
  refine ew_next ?_
  refine cw_seq ?_
  refine cw_region ?_
  refine rs_op rfl (ow_assign rfl ?_)
  refine rs_nil ?_
  refine ew_next ?_
  refine cw_region ?_
  refine rs_op rfl (ow_assign rfl ?_)
  refine rs_nil ?_
  refine ew_block_normal ?_
  refine ew_next ?_
  refine cw_seq ?_
  refine cw_region ?_
  refine rs_op rfl (ow_move rfl ?_)
  refine rs_op rfl (ow_move rfl ?_)
  refine rs_op rfl (ow_move rfl ?_)
  refine rs_op rfl (ow_add (z := 63) rfl rfl (by kernel_rfl) ?_)
  refine rs_op rfl (ow_shr (z := 1) rfl rfl (by decide) (by kernel_rfl) ?_)
  refine rs_op rfl (ow_neq rfl rfl ?_)
  refine rs_op rfl (ow_assign rfl ?_)
  refine rs_nil ?_
  refine ew_next ?_
  refine cw_seq ?_
  have OY : ∀ q9, (Mut (outM [])) q9 → q9 < (World.drew w).heap.size → (Mut [((Value.slice A 0 c).ownBlock)]) q9 := fun k h _ => (Mut.none_) k h
  refine cw_drawn (Mut [((Value.slice A 0 c).ownBlock)]) (Mut.grow Mut.none_ (owns_lt Odst)) [] [] (fxAt [Fx.of (.int .u64 9223372036854775808),
      Fx.of (.int .i64 52),
      Fx.of (.int .u64 2048),
      Fx.of (.int .i64 2048),
      Fx.of (.int .i64 11),
      Fx.of (.int .i64 2048),
      Fx.of (.int .i64 2047),
      Fx.of (.int .i64 0),
      Fx.of (.int .i64 0)]) mixed rfl trivial (fun _ h => by cases h) ?_ ?_
  · refine ⟨?_, ?_, ?_, ?_, ?_, ?_, ?_, ?_, ?_, trivial⟩
    · intro vs X wq K
      have LE := K.1
      have XN := K.2.1
      have SQ := Nat.le_trans LW.size (Nat.le_trans E.size LE.size)
      exact ow_move rfl ⟨Below.refl _ _, Left.of rfl⟩
    · intro vs X wq K
      have LE := K.1
      have XN := K.2.1
      have SQ := Nat.le_trans LW.size (Nat.le_trans E.size LE.size)
      exact ow_move rfl ⟨Below.refl _ _, Left.of rfl⟩
    · intro vs X wq K
      have LE := K.1
      have XN := K.2.1
      have SQ := Nat.le_trans LW.size (Nat.le_trans E.size LE.size)
      obtain ⟨_, e0, k0⟩ := K.dep 0 rfl rfl rfl
      refine ow_set 50 (.int .u64 9223372036854775808) rfl e0 ?_
      obtain ⟨_, e1, k1⟩ := K.dep 1 rfl rfl rfl
      refine ow_set 51 (.int .i64 52) rfl e1 ?_
      exact ow_shr (z := 2048) rfl rfl (by decide) (by kernel_rfl) ⟨Below.refl _ _, Left.of rfl⟩
    · intro vs X wq K
      have LE := K.1
      have XN := K.2.1
      have SQ := Nat.le_trans LW.size (Nat.le_trans E.size LE.size)
      obtain ⟨_, e2, k2⟩ := K.dep 2 rfl rfl rfl
      refine ow_set 52 (.int .u64 2048) rfl e2 ?_
      exact ow_conv (z := 2048) Tryz.underlying3 Tryz.underlying22 rfl (by kernel_rfl) ⟨Below.refl _ _, Left.of rfl⟩
    · intro vs X wq K
      have LE := K.1
      have XN := K.2.1
      have SQ := Nat.le_trans LW.size (Nat.le_trans E.size LE.size)
      exact ow_move rfl ⟨Below.refl _ _, Left.of rfl⟩
    · intro vs X wq K
      have LE := K.1
      have XN := K.2.1
      have SQ := Nat.le_trans LW.size (Nat.le_trans E.size LE.size)
      obtain ⟨_, e4, k4⟩ := K.dep 4 rfl rfl rfl
      refine ow_set 54 (.int .i64 11) rfl e4 ?_
      exact ow_shl (z := 2048) rfl rfl (by decide) (by kernel_rfl) ⟨Below.refl _ _, Left.of rfl⟩
    · intro vs X wq K
      have LE := K.1
      have XN := K.2.1
      have SQ := Nat.le_trans LW.size (Nat.le_trans E.size LE.size)
      obtain ⟨_, e5, k5⟩ := K.dep 5 rfl rfl rfl
      refine ow_set 55 (.int .i64 2048) rfl e5 ?_
      exact ow_sub (z := 2047) rfl rfl (by kernel_rfl) ⟨Below.refl _ _, Left.of rfl⟩
    · intro vs X wq K
      have LE := K.1
      have XN := K.2.1
      have SQ := Nat.le_trans LW.size (Nat.le_trans E.size LE.size)
      obtain ⟨_, e3, k3⟩ := K.dep 3 rfl rfl rfl
      refine ow_set 53 (.int .i64 2048) rfl e3 ?_
      obtain ⟨_, e6, k6⟩ := K.dep 6 rfl rfl rfl
      refine ow_set 56 (.int .i64 2047) rfl e6 ?_
      exact ow_and (z := 0) rfl rfl (by kernel_rfl) ⟨Below.refl _ _, Left.of rfl⟩
    · intro vs X wq K
      have LE := K.1
      have XN := K.2.1
      have SQ := Nat.le_trans LW.size (Nat.le_trans E.size LE.size)
      obtain ⟨_, e7, k7⟩ := K.dep 7 rfl rfl rfl
      refine ow_set 57 (.int .i64 0) rfl e7 ?_
      exact ow_assign rfl ⟨Below.refl _ _, Left.of rfl⟩
  intro vs w1 LE AO AL AF AA
  have LOdst := Odst
  replace Odst := owns_extN (w := World.drew _) Odst LE NotIn.nil
  replace E := E.drew.trans (LE.mono OY)
  obtain ⟨_, e8, k8⟩ := AL.2.2.2.2.2.2.2.2.1
  refine ew_sub (τ := [(0, _), (2, _), (3, _), (8, _), (9, _), (10, _), (11, _), (12, _), (13, _), (14, .int .i64 0)]) ⟨rfl, rfl, rfl, rfl, rfl, rfl, rfl, rfl, rfl, congrArg some e8, trivial⟩ ?_
  clear AL AF AA LE AO OY e8 k8 LOdst
  refine ew_next ?_
  refine cw_seq ?_
  refine cw_region ?_
  refine rs_op rfl (ow_move rfl ?_)
  refine rs_op rfl (ow_move rfl ?_)
  refine rs_op rfl (ow_shl (z := 4503599627370496) rfl rfl (by decide) (by kernel_rfl) ?_)
  refine rs_op rfl (ow_sub (z := 4503599627370495) rfl rfl (by kernel_rfl) ?_)
  refine rs_op rfl (ow_and (z := 0) rfl rfl (by kernel_rfl) ?_)
  refine rs_op rfl (ow_assign rfl ?_)
  refine rs_nil ?_
  refine ew_next ?_
  refine cw_seq ?_
  refine cw_seq ?_
  refine cw_region ?_
  refine rs_op rfl (ow_move rfl ?_)
  refine rs_op rfl (ow_move rfl ?_)
  refine rs_op rfl (ow_shl (z := 2048) rfl rfl (by decide) (by kernel_rfl) ?_)
  refine rs_op rfl (ow_sub (z := 2047) rfl rfl (by kernel_rfl) ?_)
  refine rs_op rfl (ow_eql rfl rfl ?_)
  refine rs_nil ?_
  refine ew_next ?_
  refine cw_else rfl ?_
  refine cw_skip ?_
  refine ew_next ?_
  refine cw_seq ?_
  refine cw_seq ?_
  refine cw_region ?_
  refine rs_op rfl (ow_move rfl ?_)
  refine rs_op rfl (ow_eql rfl rfl ?_)
  refine rs_nil ?_
  refine ew_next ?_
  refine cw_then rfl ?_
  refine cw_region ?_
  refine rs_op rfl (ow_move rfl ?_)
  refine rs_op rfl (ow_add (z := 1) rfl rfl (by kernel_rfl) ?_)
  refine rs_op rfl (ow_assign rfl ?_)
  refine rs_nil ?_
  refine ew_next ?_
  refine cw_seq ?_
  refine cw_region ?_
  refine rs_op rfl (ow_move rfl ?_)
  refine rs_op rfl (ow_move rfl ?_)
  refine rs_op rfl (ow_add (z := (-1022)) rfl rfl (by kernel_rfl) ?_)
  refine rs_op rfl (ow_assign rfl ?_)
  refine rs_nil ?_
  refine ew_next ?_
  refine cw_seq ?_
  refine cw_seq ?_
  refine cw_region ?_
  refine rs_op rfl (ow_move rfl ?_)
  refine rs_op rfl (ow_eql rfl rfl ?_)
  refine rs_nil ?_
  refine ew_next ?_
  refine cw_else rfl ?_
  refine cw_skip ?_
  refine ew_next ?_
  refine cw_seq ?_
  refine cw_seq ?_
  refine cw_region ?_
  refine rs_op rfl (ow_move rfl ?_)
  refine rs_op rfl (ow_eql rfl rfl ?_)
  refine rs_op rfl (ow_move rfl ?_)
  refine rs_op rfl (ow_on rfl (ow_move rfl ?_))
  refine rs_op rfl (ow_on rfl (ow_eql rfl rfl ?_))
  refine rs_op rfl (ow_pickF rfl rfl ?_)
  refine rs_nil ?_
  refine ew_next ?_
  refine cw_else rfl ?_
  refine cw_skip ?_
  refine ew_next ?_
  refine cw_seq ?_
  refine cw_seq ?_
  refine cw_region ?_
  refine rs_op rfl (ow_move rfl ?_)
  refine rs_op rfl (ow_eql rfl rfl ?_)
  refine rs_nil ?_
  refine ew_next ?_
  refine cw_then rfl ?_
  refine cw_seq ?_
  refine cw_region ?_
  refine rs_op rfl (ow_move rfl ?_)
  refine rs_op rfl (ow_move rfl ?_)
  refine rs_op rfl (ow_move rfl ?_)
  refine rs_op rfl (ow_move rfl ?_)
  refine rs_op rfl (ow_move rfl ?_)
  refine rs_op rfl (ow_lss rfl rfl ?_)
  refine rs_op rfl (ow_enter en158 rfl ((efg_ze _ base A c (Nat.le_trans HB (Nat.le_trans LW.size E.size)) Odst).mono ?_))
  rintro e w2 ⟨A1, c1, rfl, On, En, KN⟩
  refine ⟨_, rfl, ?_⟩
  replace KN : ∀ q9, ((Value.slice A1 6 c1).ownBlock) = some q9 → ((Value.slice A 0 c).ownBlock) = some q9 ∨ w1.heap.size ≤ q9 := KN
  have HY : ∀ q9, (Mut [((Value.slice A1 6 c1).ownBlock)]) q9 → (Mut [((Value.slice A 0 c).ownBlock)]) q9 ∨ w.heap.size ≤ q9 := (Mut.grow Mut.none_ (fun k e => (KN k e).elim (fun e => Or.inl (Mut.head k e)) (fun h => Or.inr (Nat.le_trans E.size h))))
  replace E := E.step1 En Mut.head
  replace HF := HF.turn E HY
  have XT := fun q9 (h : (Mut [((Value.slice A1 6 c1).ownBlock)]) q9) => (HY q9 h).elim (XLW q9) (fun h => Or.inr (Nat.le_trans LW.size h))
  replace LW := LW.step E XLW
  replace XLW := XT
  clear XT
  replace E := Ext.refl (Mut [((Value.slice A1 6 c1).ownBlock)]) w2
  clear HY
  replace Odst : World.ownsRow w2 base 5 1 (.slice A1 6 c1) 6 ([.int .u8 45, .int .u8 48, .int .u8 101, .int .u8 43, .int .u8 48, .int .u8 48]) := On
  clear On KN En
  refine rs_op rfl (ow_assign rfl ?_)
  refine rs_nil ?_
  refine ew_next ?_
  refine cw_ret ?_
  refine ew_then_ret ?_
  refine ew_ret (rs := [.tmp 8]) (vs := [_]) rfl ⟨rfl, trivial⟩ ?_
  exact ⟨_, _, rfl, Odst, (LW.step E XLW), kn_of XLW⟩
theorem ftoa_zf : Calls Tryz.prog 130 #[.slice A 0 c, .float .f64 9223372036854775808, .int .u8 102, .int .i64 (-1)] w (RetRowB w base (Value.slice A 0 c).ownBlock 2 [.int .u8 45, .int .u8 48]) := by
  refine calls_cw Tryz.func130 rfl Tryz.ntmps130 rfl ?_
  have Odst : World.ownsRow w base 5 1 (.slice A 0 c) 0 ([]) := ho
  have HF : Per (Mut [((Value.slice A 0 c).ownBlock)]) w (fun _ => True) := Per.true_
  have LW := Ext.refl (Mut [((Value.slice A 0 c).ownBlock)]) w
  have XLW : ∀ q9, (Mut [((Value.slice A 0 c).ownBlock)]) q9 → (Mut [((Value.slice A 0 c).ownBlock)]) q9 ∨ w.heap.size ≤ q9 := fun _ h => Or.inl h
  have E := Ext.refl (Mut [((Value.slice A 0 c).ownBlock)]) w
  refine cw_seq ?_
  refine cw_region ?_
  refine rs_op rfl (ow_assign rfl ?_)
  refine rs_nil ?_
  refine ew_next ?_
  refine cw_seq ?_
  refine cw_region ?_
  refine rs_op rfl (ow_assign rfl ?_)
  refine rs_nil ?_
  refine ew_next ?_
  refine cw_seq ?_
  refine cw_region ?_
  refine rs_op rfl (ow_assign rfl ?_)
  refine rs_op rfl (ow_assign rfl ?_)
  refine rs_op rfl (ow_assign rfl ?_)
  refine rs_nil ?_
  refine ew_next ?_
  refine cw_seq ?_
  refine cw_block ?_
  refine cw_seq ?_
  refine cw_region ?_
  refine rs_op rfl (ow_eql rfl rfl ?_)
  refine rs_op rfl (ow_assign rfl ?_)
  refine rs_nil ?_
  refine ew_next ?_
  refine cw_else rfl ?_
  refine cw_seq ?_
  refine cw_region ?_
  refine rs_op rfl (ow_eql rfl rfl ?_)
  refine rs_op rfl (ow_assign rfl ?_)
  refine rs_nil ?_
  refine ew_next ?_
  refine cw_then rfl ?_
  refine cw_seq ?_
  refine cw_region ?_
  refine rs_op rfl (ow_move rfl ?_)
  refine rs_op rfl (ow_bits ex155 rfl ?_)
  refine rs_op rfl (ow_assign rfl ?_)
  refine rs_nil ?_
  refine ew_next ?_
  refine cw_seq ?_
  refine cw_region ?_
  refine rs_op rfl (ow_assign rfl ?_)
  refine rs_nil ?_
  refine ew_next ?_
  refine cw_seq ?_
  refine cw_region ?_
  refine rs_op rfl (ow_assign rfl ?_)
  refine rs_nil ?_
  refine ew_next ?_
  refine cw_region ?_
  refine rs_op rfl (ow_assign rfl ?_)
  refine rs_nil ?_
  refine ew_block_normal ?_
  refine ew_next ?_
  refine cw_seq ?_
  refine cw_region ?_
  refine rs_op rfl (ow_move rfl ?_)
  refine rs_op rfl (ow_move rfl ?_)
  refine rs_op rfl (ow_move rfl ?_)
  refine rs_op rfl (ow_add (z := 63) rfl rfl (by kernel_rfl) ?_)
  refine rs_op rfl (ow_shr (z := 1) rfl rfl (by decide) (by kernel_rfl) ?_)
  refine rs_op rfl (ow_neq rfl rfl ?_)
  refine rs_op rfl (ow_assign rfl ?_)
  refine rs_nil ?_
  refine ew_next ?_
  refine cw_seq ?_
  have OY : ∀ q9, (Mut (outM [])) q9 → q9 < (World.drew w).heap.size → (Mut [((Value.slice A 0 c).ownBlock)]) q9 := fun k h _ => (Mut.none_) k h
  refine cw_drawn (Mut [((Value.slice A 0 c).ownBlock)]) (Mut.grow Mut.none_ (owns_lt Odst)) [] [] (fxAt [Fx.of (.int .u64 9223372036854775808),
      Fx.of (.int .i64 52),
      Fx.of (.int .u64 2048),
      Fx.of (.int .i64 2048),
      Fx.of (.int .i64 11),
      Fx.of (.int .i64 2048),
      Fx.of (.int .i64 2047),
      Fx.of (.int .i64 0),
      Fx.of (.int .i64 0)]) mixed rfl trivial (fun _ h => by cases h) ?_ ?_
  · refine ⟨?_, ?_, ?_, ?_, ?_, ?_, ?_, ?_, ?_, trivial⟩
    · intro vs X wq K
      have LE := K.1
      have XN := K.2.1
      have SQ := Nat.le_trans LW.size (Nat.le_trans E.size LE.size)
      exact ow_move rfl ⟨Below.refl _ _, Left.of rfl⟩
    · intro vs X wq K
      have LE := K.1
      have XN := K.2.1
      have SQ := Nat.le_trans LW.size (Nat.le_trans E.size LE.size)
      exact ow_move rfl ⟨Below.refl _ _, Left.of rfl⟩
    · intro vs X wq K
      have LE := K.1
      have XN := K.2.1
      have SQ := Nat.le_trans LW.size (Nat.le_trans E.size LE.size)
      obtain ⟨_, e0, k0⟩ := K.dep 0 rfl rfl rfl
      refine ow_set 50 (.int .u64 9223372036854775808) rfl e0 ?_
      obtain ⟨_, e1, k1⟩ := K.dep 1 rfl rfl rfl
      refine ow_set 51 (.int .i64 52) rfl e1 ?_
      exact ow_shr (z := 2048) rfl rfl (by decide) (by kernel_rfl) ⟨Below.refl _ _, Left.of rfl⟩
    · intro vs X wq K
      have LE := K.1
      have XN := K.2.1
      have SQ := Nat.le_trans LW.size (Nat.le_trans E.size LE.size)
      obtain ⟨_, e2, k2⟩ := K.dep 2 rfl rfl rfl
      refine ow_set 52 (.int .u64 2048) rfl e2 ?_
      exact ow_conv (z := 2048) Tryz.underlying3 Tryz.underlying22 rfl (by kernel_rfl) ⟨Below.refl _ _, Left.of rfl⟩
    · intro vs X wq K
      have LE := K.1
      have XN := K.2.1
      have SQ := Nat.le_trans LW.size (Nat.le_trans E.size LE.size)
      exact ow_move rfl ⟨Below.refl _ _, Left.of rfl⟩
    · intro vs X wq K
      have LE := K.1
      have XN := K.2.1
      have SQ := Nat.le_trans LW.size (Nat.le_trans E.size LE.size)
      obtain ⟨_, e4, k4⟩ := K.dep 4 rfl rfl rfl
      refine ow_set 54 (.int .i64 11) rfl e4 ?_
      exact ow_shl (z := 2048) rfl rfl (by decide) (by kernel_rfl) ⟨Below.refl _ _, Left.of rfl⟩
    · intro vs X wq K
      have LE := K.1
      have XN := K.2.1
      have SQ := Nat.le_trans LW.size (Nat.le_trans E.size LE.size)
      obtain ⟨_, e5, k5⟩ := K.dep 5 rfl rfl rfl
      refine ow_set 55 (.int .i64 2048) rfl e5 ?_
      exact ow_sub (z := 2047) rfl rfl (by kernel_rfl) ⟨Below.refl _ _, Left.of rfl⟩
    · intro vs X wq K
      have LE := K.1
      have XN := K.2.1
      have SQ := Nat.le_trans LW.size (Nat.le_trans E.size LE.size)
      obtain ⟨_, e3, k3⟩ := K.dep 3 rfl rfl rfl
      refine ow_set 53 (.int .i64 2048) rfl e3 ?_
      obtain ⟨_, e6, k6⟩ := K.dep 6 rfl rfl rfl
      refine ow_set 56 (.int .i64 2047) rfl e6 ?_
      exact ow_and (z := 0) rfl rfl (by kernel_rfl) ⟨Below.refl _ _, Left.of rfl⟩
    · intro vs X wq K
      have LE := K.1
      have XN := K.2.1
      have SQ := Nat.le_trans LW.size (Nat.le_trans E.size LE.size)
      obtain ⟨_, e7, k7⟩ := K.dep 7 rfl rfl rfl
      refine ow_set 57 (.int .i64 0) rfl e7 ?_
      exact ow_assign rfl ⟨Below.refl _ _, Left.of rfl⟩
  intro vs w1 LE AO AL AF AA
  have LOdst := Odst
  replace Odst := owns_extN (w := World.drew _) Odst LE NotIn.nil
  replace E := E.drew.trans (LE.mono OY)
  obtain ⟨_, e8, k8⟩ := AL.2.2.2.2.2.2.2.2.1
  refine ew_sub (τ := [(0, _), (2, _), (3, _), (8, _), (9, _), (10, _), (11, _), (12, _), (13, _), (14, .int .i64 0)]) ⟨rfl, rfl, rfl, rfl, rfl, rfl, rfl, rfl, rfl, congrArg some e8, trivial⟩ ?_
  clear AL AF AA LE AO OY e8 k8 LOdst
  refine ew_next ?_
  refine cw_seq ?_
  refine cw_region ?_
  refine rs_op rfl (ow_move rfl ?_)
  refine rs_op rfl (ow_move rfl ?_)
  refine rs_op rfl (ow_shl (z := 4503599627370496) rfl rfl (by decide) (by kernel_rfl) ?_)
  refine rs_op rfl (ow_sub (z := 4503599627370495) rfl rfl (by kernel_rfl) ?_)
  refine rs_op rfl (ow_and (z := 0) rfl rfl (by kernel_rfl) ?_)
  refine rs_op rfl (ow_assign rfl ?_)
  refine rs_nil ?_
  refine ew_next ?_
  refine cw_seq ?_
  refine cw_seq ?_
  refine cw_region ?_
  refine rs_op rfl (ow_move rfl ?_)
  refine rs_op rfl (ow_move rfl ?_)
  refine rs_op rfl (ow_shl (z := 2048) rfl rfl (by decide) (by kernel_rfl) ?_)
  refine rs_op rfl (ow_sub (z := 2047) rfl rfl (by kernel_rfl) ?_)
  refine rs_op rfl (ow_eql rfl rfl ?_)
  refine rs_nil ?_
  refine ew_next ?_
  refine cw_else rfl ?_
  refine cw_skip ?_
  refine ew_next ?_
  refine cw_seq ?_
  refine cw_seq ?_
  refine cw_region ?_
  refine rs_op rfl (ow_move rfl ?_)
  refine rs_op rfl (ow_eql rfl rfl ?_)
  refine rs_nil ?_
  refine ew_next ?_
  refine cw_then rfl ?_
  refine cw_region ?_
  refine rs_op rfl (ow_move rfl ?_)
  refine rs_op rfl (ow_add (z := 1) rfl rfl (by kernel_rfl) ?_)
  refine rs_op rfl (ow_assign rfl ?_)
  refine rs_nil ?_
  refine ew_next ?_
  refine cw_seq ?_
  refine cw_region ?_
  refine rs_op rfl (ow_move rfl ?_)
  refine rs_op rfl (ow_move rfl ?_)
  refine rs_op rfl (ow_add (z := (-1022)) rfl rfl (by kernel_rfl) ?_)
  refine rs_op rfl (ow_assign rfl ?_)
  refine rs_nil ?_
  refine ew_next ?_
  refine cw_seq ?_
  refine cw_seq ?_
  refine cw_region ?_
  refine rs_op rfl (ow_move rfl ?_)
  refine rs_op rfl (ow_eql rfl rfl ?_)
  refine rs_nil ?_
  refine ew_next ?_
  refine cw_else rfl ?_
  refine cw_skip ?_
  refine ew_next ?_
  refine cw_seq ?_
  refine cw_seq ?_
  refine cw_region ?_
  refine rs_op rfl (ow_move rfl ?_)
  refine rs_op rfl (ow_eql rfl rfl ?_)
  refine rs_op rfl (ow_move rfl ?_)
  refine rs_op rfl (ow_on rfl (ow_move rfl ?_))
  refine rs_op rfl (ow_on rfl (ow_eql rfl rfl ?_))
  refine rs_op rfl (ow_pickF rfl rfl ?_)
  refine rs_nil ?_
  refine ew_next ?_
  refine cw_else rfl ?_
  refine cw_skip ?_
  refine ew_next ?_
  refine cw_seq ?_
  refine cw_seq ?_
  refine cw_region ?_
  refine rs_op rfl (ow_move rfl ?_)
  refine rs_op rfl (ow_eql rfl rfl ?_)
  refine rs_nil ?_
  refine ew_next ?_
  refine cw_then rfl ?_
  refine cw_seq ?_
  refine cw_region ?_
  refine rs_op rfl (ow_move rfl ?_)
  refine rs_op rfl (ow_move rfl ?_)
  refine rs_op rfl (ow_move rfl ?_)
  refine rs_op rfl (ow_move rfl ?_)
  refine rs_op rfl (ow_move rfl ?_)
  refine rs_op rfl (ow_lss rfl rfl ?_)
  refine rs_op rfl (ow_enter en158 rfl ((efg_zf _ base A c (Nat.le_trans HB (Nat.le_trans LW.size E.size)) Odst).mono ?_))
  rintro e w2 ⟨A1, c1, rfl, On, En, KN⟩
  refine ⟨_, rfl, ?_⟩
  replace KN : ∀ q9, ((Value.slice A1 2 c1).ownBlock) = some q9 → ((Value.slice A 0 c).ownBlock) = some q9 ∨ w1.heap.size ≤ q9 := KN
  have HY : ∀ q9, (Mut [((Value.slice A1 2 c1).ownBlock)]) q9 → (Mut [((Value.slice A 0 c).ownBlock)]) q9 ∨ w.heap.size ≤ q9 := (Mut.grow Mut.none_ (fun k e => (KN k e).elim (fun e => Or.inl (Mut.head k e)) (fun h => Or.inr (Nat.le_trans E.size h))))
  replace E := E.step1 En Mut.head
  replace HF := HF.turn E HY
  have XT := fun q9 (h : (Mut [((Value.slice A1 2 c1).ownBlock)]) q9) => (HY q9 h).elim (XLW q9) (fun h => Or.inr (Nat.le_trans LW.size h))
  replace LW := LW.step E XLW
  replace XLW := XT
  clear XT
  replace E := Ext.refl (Mut [((Value.slice A1 2 c1).ownBlock)]) w2
  clear HY
  replace Odst : World.ownsRow w2 base 5 1 (.slice A1 2 c1) 2 ([.int .u8 45, .int .u8 48]) := On
  clear On KN En
  refine rs_op rfl (ow_assign rfl ?_)
  refine rs_nil ?_
  refine ew_next ?_
  refine cw_ret ?_
  refine ew_then_ret ?_
  refine ew_ret (rs := [.tmp 8]) (vs := [_]) rfl ⟨rfl, trivial⟩ ?_
  exact ⟨_, _, rfl, Odst, (LW.step E XLW), kn_of XLW⟩
end
theorem ct71_4 : Gives 71 #[.float .f64 9223372036854775808] (.float .f64 0) := by
  intro w
  refine calls_cw Tryz.func71 rfl Tryz.ntmps71 rfl ?_
  have HF : Per (No) w (fun _ => True) := Per.true_
  have LW := Ext.refl (No) w
  have XLW : ∀ q9, (No) q9 → (No) q9 ∨ w.heap.size ≤ q9 := fun _ h => Or.inl h
  have E := Ext.refl (No) w
  refine cw_seq ?_
  refine cw_region ?_
  refine rs_op rfl (ow_assign rfl ?_)
  refine rs_nil ?_
  refine ew_next ?_
  refine cw_seq ?_
  refine cw_region ?_
  refine rs_op rfl (ow_move rfl ?_)
  refine rs_op rfl (ow_bits ex59 rfl ?_)
  refine rs_op rfl (ow_andNot (z := 0) rfl rfl (by kernel_rfl) ?_)
  refine rs_op rfl (ow_frombits (b := 0) ex60 rfl ?_)
  refine rs_op rfl (ow_assign rfl ?_)
  refine rs_nil ?_
  refine ew_next ?_
  refine cw_ret ?_
  refine ew_ret (rs := [.tmp 2]) (vs := [.float .f64 0]) rfl ⟨rfl, trivial⟩ ?_
  exact ⟨rfl, (LW.step E XLW).toBelow⟩
theorem ct61_4 : Gives 61 #[.float .f64 9223372036854775808, .int .i64 0] (.bool false) := by
  intro w
  refine calls_cw Tryz.func61 rfl Tryz.ntmps61 rfl ?_
  have HF : Per (No) w (fun _ => True) := Per.true_
  have LW := Ext.refl (No) w
  have XLW : ∀ q9, (No) q9 → (No) q9 ∨ w.heap.size ≤ q9 := fun _ h => Or.inl h
  have E := Ext.refl (No) w
  refine cw_seq ?_
  refine cw_region ?_
  refine rs_op rfl (ow_assign rfl ?_)
  refine rs_nil ?_
  refine ew_next ?_
  refine cw_seq ?_
  refine cw_seq ?_
  refine cw_region ?_
  refine rs_op rfl (ow_move rfl ?_)
  refine rs_op rfl (ow_eql rfl rfl ?_)
  refine rs_nil ?_
  refine ew_next ?_
  refine cw_then rfl ?_
  refine cw_region ?_
  refine rs_op rfl (ow_move rfl ?_)
  refine rs_op rfl (ow_enter en71 rfl ((ct71_4 _).mono ?_))
  rintro e w1 ⟨rfl, hb⟩
  refine ⟨_, rfl, ?_⟩
  have Ec := Ext.of_below hb No
  replace E := E.trans Ec.no
  clear hb Ec
  refine rs_op rfl (ow_assign rfl ?_)
  refine rs_nil ?_
  refine ew_next ?_
  refine cw_seq ?_
  refine cw_region ?_
  refine rs_op rfl (ow_move rfl ?_)
  refine rs_op rfl (ow_fgtr rfl rfl ?_)
  refine rs_set 14 (.bool false) rfl (by kernel_rfl : (.bool (ford 0 9218868437227405311 == some .gt) : Value) = _) ?_
  refine rs_op rfl (ow_assign rfl ?_)
  refine rs_nil ?_
  refine ew_next ?_
  refine cw_ret ?_
  refine ew_ret (rs := [.tmp 4]) (vs := [.bool false]) rfl ⟨rfl, trivial⟩ ?_
  exact ⟨rfl, (LW.step E XLW).toBelow⟩
theorem ct99_7 : Gives 99 #[.string ⟨#[45, 48, 101, 43, 48, 48]⟩, .int .u8 101] (.int .i64 2) := by
  intro w
  refine calls_cw Tryz.func99 rfl Tryz.ntmps99 rfl ?_
  have HF : Per (No) w (fun _ => True) := Per.true_
  have LW := Ext.refl (No) w
  have XLW : ∀ q9, (No) q9 → (No) q9 ∨ w.heap.size ≤ q9 := fun _ h => Or.inl h
  have E := Ext.refl (No) w
  refine cw_seq ?_
  refine cw_region ?_
  refine rs_op rfl (ow_assign rfl ?_)
  refine rs_nil ?_
  refine ew_next ?_
  refine cw_seq ?_
  refine cw_region ?_
  refine rs_op rfl (ow_move rfl ?_)
  refine rs_op rfl (ow_move rfl ?_)
  refine rs_op rfl (ow_ext ex131 rfl (run_indexByte_string _ _ _) ?_)
  refine rs_set 7 (.int .i64 2) rfl (by kernel_rfl : (.int .i64 (firstIdx ⟨#[45, 48, 101, 43, 48, 48]⟩ (101 : Int).toNat.toUInt8) : Value) = _) ?_
  refine rs_op rfl (ow_assign rfl ?_)
  refine rs_nil ?_
  refine ew_next ?_
  refine cw_ret ?_
  refine ew_ret (rs := [.tmp 4]) (vs := [.int .i64 2]) rfl ⟨rfl, trivial⟩ ?_
  exact ⟨rfl, (LW.step E XLW).toBelow⟩
theorem ct63_7 : Gives 63 #[.string ⟨#[45, 48, 101, 43, 48, 48]⟩, .int .u8 101] (.int .i64 2) := by
  intro w
  refine calls_cw Tryz.func63 rfl Tryz.ntmps63 rfl ?_
  have HF : Per (No) w (fun _ => True) := Per.true_
  have LW := Ext.refl (No) w
  have XLW : ∀ q9, (No) q9 → (No) q9 ∨ w.heap.size ≤ q9 := fun _ h => Or.inl h
  have E := Ext.refl (No) w
  refine cw_seq ?_
  refine cw_region ?_
  refine rs_op rfl (ow_assign rfl ?_)
  refine rs_nil ?_
  refine ew_next ?_
  refine cw_seq ?_
  refine cw_region ?_
  refine rs_op rfl (ow_move rfl ?_)
  refine rs_op rfl (ow_move rfl ?_)
  refine rs_op rfl (ow_enter en99 rfl ((ct99_7 _).mono ?_))
  rintro e w1 ⟨rfl, hb⟩
  refine ⟨_, rfl, ?_⟩
  have Ec := Ext.of_below hb No
  replace E := E.trans Ec.no
  clear hb Ec
  refine rs_op rfl (ow_assign rfl ?_)
  refine rs_nil ?_
  refine ew_next ?_
  refine cw_ret ?_
  refine ew_ret (rs := [.tmp 4]) (vs := [.int .i64 2]) rfl ⟨rfl, trivial⟩ ?_
  exact ⟨rfl, (LW.step E XLW).toBelow⟩
theorem ct100_9 : Gives 100 #[.string ⟨#[43, 48, 48]⟩] (.tuple #[.int .i64 0, .nilIface]) := by
  intro w
  refine calls_cw Tryz.func100 rfl Tryz.ntmps100 rfl ?_
  have HF : Per (No) w (fun _ => True) := Per.true_
  have LW := Ext.refl (No) w
  have XLW : ∀ q9, (No) q9 → (No) q9 ∨ w.heap.size ≤ q9 := fun _ h => Or.inl h
  have E := Ext.refl (No) w
  refine cw_seq ?_
  refine cw_region ?_
  refine rs_op rfl (ow_assign rfl ?_)
  refine rs_op rfl (ow_assign rfl ?_)
  refine rs_nil ?_
  refine ew_next ?_
  refine cw_seq ?_
  refine cw_region ?_
  refine rs_op rfl (ow_move rfl ?_)
  refine rs_op rfl (ow_lenS Tryz.underlying9 rfl ?_)
  refine rs_op rfl (ow_assign rfl ?_)
  refine rs_nil ?_
  refine ew_next ?_
  refine cw_seq ?_
  refine cw_seq ?_
  refine cw_region ?_
  refine rs_op rfl (ow_move rfl ?_)
  refine rs_op rfl (ow_off rfl ?_)
  refine rs_op rfl (ow_off rfl ?_)
  refine rs_op rfl (ow_off rfl ?_)
  refine rs_op rfl (ow_offU rfl rfl ?_)
  refine rs_op rfl (ow_offU rfl rfl ?_)
  refine rs_op rfl (ow_off rfl ?_)
  refine rs_op rfl (ow_pickF rfl rfl ?_)
  refine rs_op rfl (ow_move rfl ?_)
  refine rs_op rfl (ow_on rfl (ow_move rfl ?_))
  refine rs_op rfl (ow_on rfl (ow_move rfl ?_))
  refine rs_op rfl (ow_on rfl (ow_lss rfl rfl ?_))
  refine rs_op rfl (ow_on rfl (ow_move rfl ?_))
  refine rs_op rfl (ow_on rfl (ow_move rfl ?_))
  refine rs_op rfl (ow_on rfl (ow_lss rfl rfl ?_))
  refine rs_op rfl (ow_on rfl (ow_pickT rfl rfl ?_))
  refine rs_op rfl (ow_on rfl (ow_pickT rfl rfl ?_))
  refine rs_op rfl (ow_pickF rfl rfl ?_)
  refine rs_nil ?_
  refine ew_next ?_
  refine cw_then rfl ?_
  refine cw_seq ?_
  refine cw_region ?_
  refine rs_op rfl (ow_move rfl ?_)
  refine rs_op rfl (ow_assign rfl ?_)
  refine rs_nil ?_
  refine ew_next ?_
  refine cw_seq ?_
  refine cw_seq ?_
  refine cw_region ?_
  refine rs_op rfl (ow_move rfl ?_)
  refine rs_op rfl (ow_indexSL (j := 0) (b := 43) Tryz.underlying9 rfl rfl rfl (by kernel_rfl) ?_)
  refine rs_op rfl (ow_eql rfl rfl ?_)
  refine rs_op rfl (ow_move rfl ?_)
  refine rs_op rfl (ow_on rfl (ow_move rfl ?_))
  refine rs_op rfl (ow_on rfl (ow_indexSL (j := 0) (b := 43) Tryz.underlying9 rfl rfl rfl (by kernel_rfl) ?_))
  refine rs_op rfl (ow_on rfl (ow_eql rfl rfl ?_))
  refine rs_op rfl (ow_pickF rfl rfl ?_)
  refine rs_nil ?_
  refine ew_next ?_
  refine cw_then rfl ?_
  refine cw_seq ?_
  refine cw_region ?_
  refine rs_op rfl (ow_move rfl ?_)
  refine rs_op rfl (ow_sliceS (l := 1) (h := 3) Tryz.underlying9 rfl ⟨_, rfl⟩ rfl (by decide) (by decide) ?_)
  refine rs_set 41 (.string ⟨#[48, 48]⟩) rfl (by kernel_rfl : (.string ((⟨#[43, 48, 48]⟩ : ByteArray).extract 1 3) : Value) = _) ?_
  refine rs_op rfl (ow_assign rfl ?_)
  refine rs_nil ?_
  refine ew_next ?_
  refine cw_seq ?_
  refine cw_region ?_
  refine rs_op rfl (ow_move rfl ?_)
  refine rs_op rfl (ow_lenS Tryz.underlying9 rfl ?_)
  refine rs_op rfl (ow_lss rfl rfl ?_)
  refine rs_nil ?_
  refine ew_next ?_
  refine cw_else rfl ?_
  refine cw_skip ?_
  refine ew_next ?_
  refine cw_seq ?_
  refine cw_region ?_
  refine rs_op rfl (ow_assign rfl ?_)
  refine rs_nil ?_
  refine ew_next ?_
  refine cw_seq ?_
  refine cw_seq ?_
  refine cw_region ?_
  refine rs_op rfl (ow_move rfl ?_)
  refine rs_op rfl (ow_strBytes (n := 2) (xs := [.int .u8 48, .int .u8 48]) Tryz.underlying9 Tryz.underlying84 Tryz.underlying5 rfl rfl rfl ?_)
  intro gb1 cb1 w2 Rb1 Eb1 Gb1
  replace E := E.trans Eb1.no
  clear Eb1
  replace HF := HF.on E
  replace LW := LW.step E XLW
  replace E := Ext.refl (No) w2
  replace HF := HF.and (Per.rowL Rb1)
  refine rs_op rfl (ow_len Tryz.underlying84 rfl ?_)
  refine rs_set 48 (.int .i64 2) rfl (by kernel_rfl : (.int .i64 (2 : Nat) : Value) = _) ?_
  refine rs_op rfl (ow_move rfl ?_)
  refine rs_nil ?_
  refine ew_next ?_
  refine cw_block ?_
  refine cw_unroll ?_
  refine cw_seq ?_
  refine cw_region ?_
  refine rs_op rfl (ow_lss rfl rfl ?_)
  refine rs_nil ?_
  refine ew_next ?_
  refine cw_seq ?_
  refine cw_then rfl ?_
  refine cw_skip ?_
  refine ew_next ?_
  refine cw_seq ?_
  refine cw_block ?_
  refine cw_seq ?_
  refine cw_region ?_
  refine rs_op rfl (ow_indexAddr1 (j := 0) Tryz.underlying84 sz5 rfl rfl rfl (by decide) ?_)
  refine rs_op rfl (ow_load1 Tryz.underlying5 rfl rfl ((HF.on E).here.2 0 _ rfl) ?_)
  refine rs_op rfl (ow_assign rfl ?_)
  refine rs_nil ?_
  refine ew_next ?_
  refine cw_seq ?_
  refine cw_region ?_
  refine rs_op rfl (ow_move rfl ?_)
  refine rs_op rfl (ow_sub (z := 0) rfl rfl (by kernel_rfl) ?_)
  refine rs_op rfl (ow_assign rfl ?_)
  refine rs_nil ?_
  refine ew_next ?_
  refine cw_seq ?_
  refine cw_seq ?_
  refine cw_region ?_
  refine rs_op rfl (ow_move rfl ?_)
  refine rs_op rfl (ow_gtr rfl rfl ?_)
  refine rs_nil ?_
  refine ew_next ?_
  refine cw_else rfl ?_
  refine cw_skip ?_
  refine ew_next ?_
  refine cw_region ?_
  refine rs_op rfl (ow_move rfl ?_)
  refine rs_op rfl (ow_mul (z := 0) rfl rfl (by kernel_rfl) ?_)
  refine rs_op rfl (ow_move rfl ?_)
  refine rs_op rfl (ow_conv (z := 0) Tryz.underlying3 Tryz.underlying5 rfl (by kernel_rfl) ?_)
  refine rs_op rfl (ow_add (z := 0) rfl rfl (by kernel_rfl) ?_)
  refine rs_op rfl (ow_assign rfl ?_)
  refine rs_nil ?_
  refine ew_block_normal ?_
  refine ew_next ?_
  refine cw_region ?_
  refine rs_op rfl (ow_add (z := 1) rfl rfl (by kernel_rfl) ?_)
  refine rs_op rfl (ow_move rfl ?_)
  refine rs_nil ?_
  refine ew_again ?_
  refine cw_seq ?_
  refine cw_region ?_
  refine rs_op rfl (ow_lss rfl rfl ?_)
  refine rs_nil ?_
  refine ew_next ?_
  refine cw_seq ?_
  refine cw_then rfl ?_
  refine cw_skip ?_
  refine ew_next ?_
  refine cw_seq ?_
  refine cw_block ?_
  refine cw_seq ?_
  refine cw_region ?_
  refine rs_op rfl (ow_indexAddr1 (j := 1) Tryz.underlying84 sz5 rfl rfl rfl (by decide) ?_)
  refine rs_op rfl (ow_load1 Tryz.underlying5 rfl rfl ((HF.on E).here.2 1 _ rfl) ?_)
  refine rs_op rfl (ow_assign rfl ?_)
  refine rs_nil ?_
  refine ew_next ?_
  refine cw_seq ?_
  refine cw_region ?_
  refine rs_op rfl (ow_move rfl ?_)
  refine rs_op rfl (ow_sub (z := 0) rfl rfl (by kernel_rfl) ?_)
  refine rs_op rfl (ow_assign rfl ?_)
  refine rs_nil ?_
  refine ew_next ?_
  refine cw_seq ?_
  refine cw_seq ?_
  refine cw_region ?_
  refine rs_op rfl (ow_move rfl ?_)
  refine rs_op rfl (ow_gtr rfl rfl ?_)
  refine rs_nil ?_
  refine ew_next ?_
  refine cw_else rfl ?_
  refine cw_skip ?_
  refine ew_next ?_
  refine cw_region ?_
  refine rs_op rfl (ow_move rfl ?_)
  refine rs_op rfl (ow_mul (z := 0) rfl rfl (by kernel_rfl) ?_)
  refine rs_op rfl (ow_move rfl ?_)
  refine rs_op rfl (ow_conv (z := 0) Tryz.underlying3 Tryz.underlying5 rfl (by kernel_rfl) ?_)
  refine rs_op rfl (ow_add (z := 0) rfl rfl (by kernel_rfl) ?_)
  refine rs_op rfl (ow_assign rfl ?_)
  refine rs_nil ?_
  refine ew_block_normal ?_
  refine ew_next ?_
  refine cw_region ?_
  refine rs_op rfl (ow_add (z := 2) rfl rfl (by kernel_rfl) ?_)
  refine rs_op rfl (ow_move rfl ?_)
  refine rs_nil ?_
  refine ew_again ?_
  refine cw_seq ?_
  refine cw_region ?_
  refine rs_op rfl (ow_lss rfl rfl ?_)
  refine rs_nil ?_
  refine ew_next ?_
  refine cw_seq ?_
  refine cw_else rfl ?_
  refine cw_exit ?_
  refine ew_then_exit ?_
  refine ew_then_exit ?_
  refine ew_block_here ?_
  refine ew_next ?_
  refine cw_seq ?_
  refine cw_seq ?_
  refine cw_region ?_
  refine rs_op rfl (ow_move rfl ?_)
  refine rs_op rfl (ow_indexSL (j := 0) (b := 43) Tryz.underlying9 rfl rfl rfl (by kernel_rfl) ?_)
  refine rs_op rfl (ow_eql rfl rfl ?_)
  refine rs_nil ?_
  refine ew_next ?_
  refine cw_else rfl ?_
  refine cw_skip ?_
  refine ew_next ?_
  refine cw_seq ?_
  refine cw_region ?_
  refine rs_op rfl (ow_move rfl ?_)
  refine rs_op rfl (ow_assign rfl ?_)
  refine rs_op rfl (ow_assign rfl ?_)
  refine rs_nil ?_
  refine ew_next ?_
  refine cw_ret ?_
  refine ew_then_ret ?_
  refine ew_ret (rs := [.tmp 2, .tmp 3]) (vs := [.int .i64 0, .nilIface]) rfl ⟨rfl, rfl, trivial⟩ ?_
  exact ⟨rfl, (LW.step E XLW).toBelow⟩
theorem ct64_9 : Gives 64 #[.string ⟨#[43, 48, 48]⟩] (.tuple #[.int .i64 0, .nilIface]) := by
  intro w
  refine calls_cw Tryz.func64 rfl Tryz.ntmps64 rfl ?_
  have HF : Per (No) w (fun _ => True) := Per.true_
  have LW := Ext.refl (No) w
  have XLW : ∀ q9, (No) q9 → (No) q9 ∨ w.heap.size ≤ q9 := fun _ h => Or.inl h
  have E := Ext.refl (No) w
  refine cw_seq ?_
  refine cw_region ?_
  refine rs_op rfl (ow_assign rfl ?_)
  refine rs_op rfl (ow_assign rfl ?_)
  refine rs_nil ?_
  refine ew_next ?_
  refine cw_seq ?_
  refine cw_region ?_
  refine rs_op rfl (ow_move rfl ?_)
  refine rs_op rfl (ow_enter en100 rfl ((ct100_9 _).mono ?_))
  rintro e w1 ⟨rfl, hb⟩
  refine ⟨_, rfl, ?_⟩
  have Ec := Ext.of_below hb No
  replace E := E.trans Ec.no
  clear hb Ec
  refine rs_op rfl (ow_move rfl ?_)
  refine rs_op rfl (ow_extract rfl rfl ?_)
  refine rs_op rfl (ow_extract rfl rfl ?_)
  refine rs_op rfl (ow_assign rfl ?_)
  refine rs_op rfl (ow_assign rfl ?_)
  refine rs_nil ?_
  refine ew_next ?_
  refine cw_seq ?_
  refine cw_seq ?_
  refine cw_region ?_
  refine rs_op rfl (ow_move rfl ?_)
  refine rs_op rfl (ow_neqN Tryz.underlying60 rfl ?_)
  refine rs_nil ?_
  refine ew_next ?_
  refine cw_else rfl ?_
  refine cw_skip ?_
  refine ew_next ?_
  refine cw_seq ?_
  refine cw_region ?_
  refine rs_op rfl (ow_move rfl ?_)
  refine rs_op rfl (ow_assign rfl ?_)
  refine rs_op rfl (ow_assign rfl ?_)
  refine rs_nil ?_
  refine ew_next ?_
  refine cw_ret ?_
  refine ew_ret (rs := [.tmp 2, .tmp 3]) (vs := [.int .i64 0, .nilIface]) rfl ⟨rfl, rfl, trivial⟩ ?_
  exact ⟨rfl, (LW.step E XLW).toBelow⟩
theorem ct99_14 : Gives 99 #[.string ⟨#[45, 48]⟩, .int .u8 46] (.int .i64 (-1)) := by
  intro w
  refine calls_cw Tryz.func99 rfl Tryz.ntmps99 rfl ?_
  have HF : Per (No) w (fun _ => True) := Per.true_
  have LW := Ext.refl (No) w
  have XLW : ∀ q9, (No) q9 → (No) q9 ∨ w.heap.size ≤ q9 := fun _ h => Or.inl h
  have E := Ext.refl (No) w
  refine cw_seq ?_
  refine cw_region ?_
  refine rs_op rfl (ow_assign rfl ?_)
  refine rs_nil ?_
  refine ew_next ?_
  refine cw_seq ?_
  refine cw_region ?_
  refine rs_op rfl (ow_move rfl ?_)
  refine rs_op rfl (ow_move rfl ?_)
  refine rs_op rfl (ow_ext ex131 rfl (run_indexByte_string _ _ _) ?_)
  refine rs_set 7 (.int .i64 (-1)) rfl (by kernel_rfl : (.int .i64 (firstIdx ⟨#[45, 48]⟩ (46 : Int).toNat.toUInt8) : Value) = _) ?_
  refine rs_op rfl (ow_assign rfl ?_)
  refine rs_nil ?_
  refine ew_next ?_
  refine cw_ret ?_
  refine ew_ret (rs := [.tmp 4]) (vs := [.int .i64 (-1)]) rfl ⟨rfl, trivial⟩ ?_
  exact ⟨rfl, (LW.step E XLW).toBelow⟩
theorem ct133_14 : Gives 133 #[.string ⟨#[45, 48]⟩, .string ⟨#[46]⟩] (.int .i64 (-1)) := by
  intro w
  refine calls_cw Tryz.func133 rfl Tryz.ntmps133 rfl ?_
  have HF : Per (No) w (fun _ => True) := Per.true_
  have LW := Ext.refl (No) w
  have XLW : ∀ q9, (No) q9 → (No) q9 ∨ w.heap.size ≤ q9 := fun _ h => Or.inl h
  have E := Ext.refl (No) w
  refine cw_seq ?_
  refine cw_region ?_
  refine rs_op rfl (ow_assign rfl ?_)
  refine rs_nil ?_
  refine ew_next ?_
  refine cw_seq ?_
  refine cw_region ?_
  refine rs_op rfl (ow_move rfl ?_)
  refine rs_op rfl (ow_lenS Tryz.underlying9 rfl ?_)
  refine rs_op rfl (ow_assign rfl ?_)
  refine rs_nil ?_
  refine ew_next ?_
  refine cw_seq ?_
  refine cw_block ?_
  refine cw_seq ?_
  refine cw_region ?_
  refine rs_op rfl (ow_move rfl ?_)
  refine rs_op rfl (ow_eql rfl rfl ?_)
  refine rs_op rfl (ow_move rfl ?_)
  refine rs_op rfl (ow_on rfl (ow_move rfl ?_))
  refine rs_op rfl (ow_on rfl (ow_move rfl ?_))
  refine rs_op rfl (ow_on rfl (ow_eqlS rfl rfl ?_))
  refine rs_set 22 (.bool false) rfl (by simp only [bytes_list]; rfl : (.bool ((⟨#[46]⟩ : ByteArray).toList == (⟨#[45, 48]⟩ : ByteArray).toList) : Value) = _) ?_
  refine rs_op rfl (ow_pickF rfl rfl ?_)
  refine rs_op rfl (ow_assign rfl ?_)
  refine rs_nil ?_
  refine ew_next ?_
  refine cw_else rfl ?_
  refine cw_seq ?_
  refine cw_region ?_
  refine rs_op rfl (ow_move rfl ?_)
  refine rs_op rfl (ow_eql rfl rfl ?_)
  refine rs_op rfl (ow_assign rfl ?_)
  refine rs_nil ?_
  refine ew_next ?_
  refine cw_then rfl ?_
  refine cw_seq ?_
  refine cw_region ?_
  refine rs_op rfl (ow_move rfl ?_)
  refine rs_op rfl (ow_move rfl ?_)
  refine rs_op rfl (ow_indexSL (j := 0) (b := 46) Tryz.underlying9 rfl rfl rfl (by kernel_rfl) ?_)
  refine rs_op rfl (ow_enter en99 rfl ((ct99_14 _).mono ?_))
  rintro e w1 ⟨rfl, hb⟩
  refine ⟨_, rfl, ?_⟩
  have Ec := Ext.of_below hb No
  replace E := E.trans Ec.no
  clear hb Ec
  refine rs_op rfl (ow_assign rfl ?_)
  refine rs_nil ?_
  refine ew_next ?_
  refine cw_ret ?_
  refine ew_block_ret ?_
  refine ew_then_ret ?_
  refine ew_ret (rs := [.tmp 4]) (vs := [.int .i64 (-1)]) rfl ⟨rfl, trivial⟩ ?_
  exact ⟨rfl, (LW.step E XLW).toBelow⟩
theorem ct101_14 : Gives 101 #[.string ⟨#[45, 48]⟩, .string ⟨#[46]⟩] (.int .i64 (-1)) := by
  intro w
  refine calls_cw Tryz.func101 rfl Tryz.ntmps101 rfl ?_
  have HF : Per (No) w (fun _ => True) := Per.true_
  have LW := Ext.refl (No) w
  have XLW : ∀ q9, (No) q9 → (No) q9 ∨ w.heap.size ≤ q9 := fun _ h => Or.inl h
  have E := Ext.refl (No) w
  refine cw_seq ?_
  refine cw_region ?_
  refine rs_op rfl (ow_assign rfl ?_)
  refine rs_nil ?_
  refine ew_next ?_
  refine cw_seq ?_
  refine cw_region ?_
  refine rs_op rfl (ow_move rfl ?_)
  refine rs_op rfl (ow_move rfl ?_)
  refine rs_op rfl (ow_enter en133 rfl ((ct133_14 _).mono ?_))
  rintro e w1 ⟨rfl, hb⟩
  refine ⟨_, rfl, ?_⟩
  have Ec := Ext.of_below hb No
  replace E := E.trans Ec.no
  clear hb Ec
  refine rs_op rfl (ow_assign rfl ?_)
  refine rs_nil ?_
  refine ew_next ?_
  refine cw_ret ?_
  refine ew_ret (rs := [.tmp 4]) (vs := [.int .i64 (-1)]) rfl ⟨rfl, trivial⟩ ?_
  exact ⟨rfl, (LW.step E XLW).toBelow⟩
theorem ct65_14 : Gives 65 #[.string ⟨#[45, 48]⟩, .string ⟨#[46]⟩] (.bool false) := by
  intro w
  refine calls_cw Tryz.func65 rfl Tryz.ntmps65 rfl ?_
  have HF : Per (No) w (fun _ => True) := Per.true_
  have LW := Ext.refl (No) w
  have XLW : ∀ q9, (No) q9 → (No) q9 ∨ w.heap.size ≤ q9 := fun _ h => Or.inl h
  have E := Ext.refl (No) w
  refine cw_seq ?_
  refine cw_region ?_
  refine rs_op rfl (ow_assign rfl ?_)
  refine rs_nil ?_
  refine ew_next ?_
  refine cw_seq ?_
  refine cw_region ?_
  refine rs_op rfl (ow_move rfl ?_)
  refine rs_op rfl (ow_move rfl ?_)
  refine rs_op rfl (ow_enter en101 rfl ((ct101_14 _).mono ?_))
  rintro e w1 ⟨rfl, hb⟩
  refine ⟨_, rfl, ?_⟩
  have Ec := Ext.of_below hb No
  replace E := E.trans Ec.no
  clear hb Ec
  refine rs_op rfl (ow_geq rfl rfl ?_)
  refine rs_op rfl (ow_assign rfl ?_)
  refine rs_nil ?_
  refine ew_next ?_
  refine cw_ret ?_
  refine ew_ret (rs := [.tmp 4]) (vs := [.bool false]) rfl ⟨rfl, trivial⟩ ?_
  exact ⟨rfl, (LW.step E XLW).toBelow⟩
section
variable (w : World)
theorem format_ze : Calls Tryz.prog 98 #[.float .f64 9223372036854775808, .int .u8 101, .int .i64 (-1), .int .i64 64] w fun e w' => e = .returned (.string ⟨#[45, 48, 101, 43, 48, 48]⟩) ∧ Below w.heap.size w w' := by
  refine calls_cw Tryz.func98 rfl Tryz.ntmps98 rfl ?_
  have HF : Per (No) w (fun _ => True) := Per.true_
  have LW := Ext.refl (No) w
  have XLW : ∀ q9, (No) q9 → (No) q9 ∨ w.heap.size ≤ q9 := fun _ h => Or.inl h
  have E := Ext.refl (No) w
  refine cw_seq ?_
  refine cw_region ?_
  refine rs_op rfl (ow_assign rfl ?_)
  refine rs_nil ?_
  refine ew_next ?_
  refine cw_seq ?_
  refine cw_seq ?_
  refine cw_region ?_
  refine rs_op rfl (ow_move rfl ?_)
  refine rs_op rfl (ow_eql rfl rfl ?_)
  refine rs_nil ?_
  refine ew_next ?_
  refine cw_else rfl ?_
  refine cw_skip ?_
  refine ew_next ?_
  refine cw_seq ?_
  refine cw_seq ?_
  refine cw_region ?_
  refine rs_op rfl (ow_move rfl ?_)
  refine rs_op rfl (ow_eql rfl rfl ?_)
  refine rs_nil ?_
  refine ew_next ?_
  refine cw_then rfl ?_
  refine cw_seq ?_
  refine cw_region ?_
  refine rs_op rfl (ow_move rfl ?_)
  refine rs_op rfl (ow_add (z := 3) rfl rfl (by kernel_rfl) ?_)
  refine rs_op rfl (ow_max rfl rfl ?_)
  refine rs_set 25 (.int .i64 24) rfl (by kernel_rfl : (.int .i64 (if (24 : Int) > 3 then 24 else 3) : Value) = _) ?_
  have XC : ∀ q9, (No) q9 → q9 < w.heap.size := Mut.none_
  have SC := Nat.le_trans LW.size E.size
  have SE := E.size
  refine rs_op rfl (ow_make0 (n := 24) (base := w.heap.size) Tryz.underlying84 inf5 rfl rfl rfl rfl (by decide) (by decide) SC (by decide) ?_)
  intro gmk1 w2 Nmk1 Emk1 Gmk1
  replace E := E.trans Emk1.no
  clear Emk1
  have Omk1 : World.ownsRow w2 w.heap.size 5 1 (.slice (some ⟨gmk1, 0, none⟩) 0 24) 0 ([]) := Nmk1
  replace HF := HF.cons (fun k e => Nat.le_trans SE ((some_ge Gmk1) k e))
  replace E := E.cons ((Value.slice (some ⟨gmk1, 0, none⟩) 0 24).ownBlock)
  replace XLW := Mut.grow XLW (fun k e => Or.inr (Nat.le_trans LW.size ((fun k e => Nat.le_trans SE ((some_ge Gmk1) k e)) k e)))
  clear XC
  refine rs_op rfl (ow_move rfl ?_)
  refine rs_op rfl (ow_move rfl ?_)
  refine rs_op rfl (ow_move rfl ?_)
  refine rs_op rfl (ow_enter en130 rfl ((ftoa_ze _ w.heap.size (some ⟨gmk1, 0, none⟩) 24 (Nat.le_trans LW.size E.size) Omk1).mono ?_))
  rintro e w3 ⟨A1, c1, rfl, On, En, KN⟩
  refine ⟨_, rfl, ?_⟩
  replace KN : ∀ q9, ((Value.slice A1 6 c1).ownBlock) = some q9 → ((Value.slice (some ⟨gmk1, 0, none⟩) 0 24).ownBlock) = some q9 ∨ w2.heap.size ≤ q9 := KN
  have HY : ∀ q9, (Mut [((Value.slice A1 6 c1).ownBlock)]) q9 → (Mut [((Value.slice (some ⟨gmk1, 0, none⟩) 0 24).ownBlock)]) q9 ∨ w.heap.size ≤ q9 := (Mut.grow Mut.none_ (fun k e => (KN k e).elim (fun e => Or.inl (Mut.head k e)) (fun h => Or.inr (Nat.le_trans E.size h))))
  replace E := E.step1 En Mut.head
  replace HF := HF.turn E HY
  have XT := fun q9 (h : (Mut [((Value.slice A1 6 c1).ownBlock)]) q9) => (HY q9 h).elim (XLW q9) (fun h => Or.inr (Nat.le_trans LW.size h))
  replace LW := LW.step E XLW
  replace XLW := XT
  clear XT
  replace E := Ext.refl (Mut [((Value.slice A1 6 c1).ownBlock)]) w3
  clear HY
  replace Omk1 : World.ownsRow w3 w.heap.size 5 1 (.slice A1 6 c1) 6 ([.int .u8 45, .int .u8 48, .int .u8 101, .int .u8 43, .int .u8 48, .int .u8 48]) := On
  clear On KN En
  refine rs_op rfl (ow_bytesStr (l := [45, 48, 101, 43, 48, 48]) Tryz.underlying84 Tryz.underlying5 Tryz.underlying9 rfl (own_bytes Omk1 rfl) ?_)
  refine rs_op rfl (ow_assign rfl ?_)
  refine rs_nil ?_
  refine ew_next ?_
  refine cw_ret ?_
  refine ew_then_ret ?_
  refine ew_ret (rs := [.tmp 8]) (vs := [_]) rfl ⟨rfl, trivial⟩ ?_
  exact ⟨rfl, (LW.step E XLW).toBelow⟩
theorem format_ze' : Calls Tryz.prog 62 #[.float .f64 9223372036854775808, .int .u8 101, .int .i64 (-1), .int .i64 64] w fun e w' => e = .returned (.string ⟨#[45, 48, 101, 43, 48, 48]⟩) ∧ Below w.heap.size w w' := by
  refine calls_cw Tryz.func62 rfl Tryz.ntmps62 rfl ?_
  have HF : Per (No) w (fun _ => True) := Per.true_
  have LW := Ext.refl (No) w
  have XLW : ∀ q9, (No) q9 → (No) q9 ∨ w.heap.size ≤ q9 := fun _ h => Or.inl h
  have E := Ext.refl (No) w
  refine cw_seq ?_
  refine cw_region ?_
  refine rs_op rfl (ow_assign rfl ?_)
  refine rs_nil ?_
  refine ew_next ?_
  refine cw_seq ?_
  refine cw_region ?_
  refine rs_op rfl (ow_move rfl ?_)
  refine rs_op rfl (ow_move rfl ?_)
  refine rs_op rfl (ow_move rfl ?_)
  refine rs_op rfl (ow_move rfl ?_)
  refine rs_op rfl (ow_enter en98 rfl ((format_ze _).mono ?_))
  rintro e w1 ⟨rfl, hb⟩
  refine ⟨_, rfl, ?_⟩
  have Ec := Ext.of_below hb No
  replace E := E.trans Ec.no
  clear hb Ec
  refine rs_op rfl (ow_assign rfl ?_)
  refine rs_nil ?_
  refine ew_next ?_
  refine cw_ret ?_
  refine ew_ret (rs := [.tmp 8]) (vs := [_]) rfl ⟨rfl, trivial⟩ ?_
  exact ⟨rfl, (LW.step E XLW).toBelow⟩
theorem format_zf : Calls Tryz.prog 98 #[.float .f64 9223372036854775808, .int .u8 102, .int .i64 (-1), .int .i64 64] w fun e w' => e = .returned (.string ⟨#[45, 48]⟩) ∧ Below w.heap.size w w' := by
  refine calls_cw Tryz.func98 rfl Tryz.ntmps98 rfl ?_
  have HF : Per (No) w (fun _ => True) := Per.true_
  have LW := Ext.refl (No) w
  have XLW : ∀ q9, (No) q9 → (No) q9 ∨ w.heap.size ≤ q9 := fun _ h => Or.inl h
  have E := Ext.refl (No) w
  refine cw_seq ?_
  refine cw_region ?_
  refine rs_op rfl (ow_assign rfl ?_)
  refine rs_nil ?_
  refine ew_next ?_
  refine cw_seq ?_
  refine cw_seq ?_
  refine cw_region ?_
  refine rs_op rfl (ow_move rfl ?_)
  refine rs_op rfl (ow_eql rfl rfl ?_)
  refine rs_nil ?_
  refine ew_next ?_
  refine cw_else rfl ?_
  refine cw_skip ?_
  refine ew_next ?_
  refine cw_seq ?_
  refine cw_seq ?_
  refine cw_region ?_
  refine rs_op rfl (ow_move rfl ?_)
  refine rs_op rfl (ow_eql rfl rfl ?_)
  refine rs_nil ?_
  refine ew_next ?_
  refine cw_then rfl ?_
  refine cw_seq ?_
  refine cw_region ?_
  refine rs_op rfl (ow_move rfl ?_)
  refine rs_op rfl (ow_add (z := 3) rfl rfl (by kernel_rfl) ?_)
  refine rs_op rfl (ow_max rfl rfl ?_)
  refine rs_set 25 (.int .i64 24) rfl (by kernel_rfl : (.int .i64 (if (24 : Int) > 3 then 24 else 3) : Value) = _) ?_
  have XC : ∀ q9, (No) q9 → q9 < w.heap.size := Mut.none_
  have SC := Nat.le_trans LW.size E.size
  have SE := E.size
  refine rs_op rfl (ow_make0 (n := 24) (base := w.heap.size) Tryz.underlying84 inf5 rfl rfl rfl rfl (by decide) (by decide) SC (by decide) ?_)
  intro gmk1 w2 Nmk1 Emk1 Gmk1
  replace E := E.trans Emk1.no
  clear Emk1
  have Omk1 : World.ownsRow w2 w.heap.size 5 1 (.slice (some ⟨gmk1, 0, none⟩) 0 24) 0 ([]) := Nmk1
  replace HF := HF.cons (fun k e => Nat.le_trans SE ((some_ge Gmk1) k e))
  replace E := E.cons ((Value.slice (some ⟨gmk1, 0, none⟩) 0 24).ownBlock)
  replace XLW := Mut.grow XLW (fun k e => Or.inr (Nat.le_trans LW.size ((fun k e => Nat.le_trans SE ((some_ge Gmk1) k e)) k e)))
  clear XC
  refine rs_op rfl (ow_move rfl ?_)
  refine rs_op rfl (ow_move rfl ?_)
  refine rs_op rfl (ow_move rfl ?_)
  refine rs_op rfl (ow_enter en130 rfl ((ftoa_zf _ w.heap.size (some ⟨gmk1, 0, none⟩) 24 (Nat.le_trans LW.size E.size) Omk1).mono ?_))
  rintro e w3 ⟨A1, c1, rfl, On, En, KN⟩
  refine ⟨_, rfl, ?_⟩
  replace KN : ∀ q9, ((Value.slice A1 2 c1).ownBlock) = some q9 → ((Value.slice (some ⟨gmk1, 0, none⟩) 0 24).ownBlock) = some q9 ∨ w2.heap.size ≤ q9 := KN
  have HY : ∀ q9, (Mut [((Value.slice A1 2 c1).ownBlock)]) q9 → (Mut [((Value.slice (some ⟨gmk1, 0, none⟩) 0 24).ownBlock)]) q9 ∨ w.heap.size ≤ q9 := (Mut.grow Mut.none_ (fun k e => (KN k e).elim (fun e => Or.inl (Mut.head k e)) (fun h => Or.inr (Nat.le_trans E.size h))))
  replace E := E.step1 En Mut.head
  replace HF := HF.turn E HY
  have XT := fun q9 (h : (Mut [((Value.slice A1 2 c1).ownBlock)]) q9) => (HY q9 h).elim (XLW q9) (fun h => Or.inr (Nat.le_trans LW.size h))
  replace LW := LW.step E XLW
  replace XLW := XT
  clear XT
  replace E := Ext.refl (Mut [((Value.slice A1 2 c1).ownBlock)]) w3
  clear HY
  replace Omk1 : World.ownsRow w3 w.heap.size 5 1 (.slice A1 2 c1) 2 ([.int .u8 45, .int .u8 48]) := On
  clear On KN En
  refine rs_op rfl (ow_bytesStr (l := [45, 48]) Tryz.underlying84 Tryz.underlying5 Tryz.underlying9 rfl (own_bytes Omk1 rfl) ?_)
  refine rs_op rfl (ow_assign rfl ?_)
  refine rs_nil ?_
  refine ew_next ?_
  refine cw_ret ?_
  refine ew_then_ret ?_
  refine ew_ret (rs := [.tmp 8]) (vs := [_]) rfl ⟨rfl, trivial⟩ ?_
  exact ⟨rfl, (LW.step E XLW).toBelow⟩
theorem format_zf' : Calls Tryz.prog 62 #[.float .f64 9223372036854775808, .int .u8 102, .int .i64 (-1), .int .i64 64] w fun e w' => e = .returned (.string ⟨#[45, 48]⟩) ∧ Below w.heap.size w w' := by
  refine calls_cw Tryz.func62 rfl Tryz.ntmps62 rfl ?_
  have HF : Per (No) w (fun _ => True) := Per.true_
  have LW := Ext.refl (No) w
  have XLW : ∀ q9, (No) q9 → (No) q9 ∨ w.heap.size ≤ q9 := fun _ h => Or.inl h
  have E := Ext.refl (No) w
  refine cw_seq ?_
  refine cw_region ?_
  refine rs_op rfl (ow_assign rfl ?_)
  refine rs_nil ?_
  refine ew_next ?_
  refine cw_seq ?_
  refine cw_region ?_
  refine rs_op rfl (ow_move rfl ?_)
  refine rs_op rfl (ow_move rfl ?_)
  refine rs_op rfl (ow_move rfl ?_)
  refine rs_op rfl (ow_move rfl ?_)
  refine rs_op rfl (ow_enter en98 rfl ((format_zf _).mono ?_))
  rintro e w1 ⟨rfl, hb⟩
  refine ⟨_, rfl, ?_⟩
  have Ec := Ext.of_below hb No
  replace E := E.trans Ec.no
  clear hb Ec
  refine rs_op rfl (ow_assign rfl ?_)
  refine rs_nil ?_
  refine ew_next ?_
  refine cw_ret ?_
  refine ew_ret (rs := [.tmp 8]) (vs := [_]) rfl ⟨rfl, trivial⟩ ?_
  exact ⟨rfl, (LW.step E XLW).toBelow⟩
theorem text_z : Calls Tryz.prog 17 #[.int .u64 9223372036854775808] w fun e w' => e = .returned (.string ⟨#[45, 48, 46, 48]⟩) ∧ Below w.heap.size w w' := by
  refine calls_cw Tryz.func17 rfl Tryz.ntmps17 rfl ?_
  have HF : Per (No) w (fun _ => True) := Per.true_
  have LW := Ext.refl (No) w
  have XLW : ∀ q9, (No) q9 → (No) q9 ∨ w.heap.size ≤ q9 := fun _ h => Or.inl h
  have E := Ext.refl (No) w
  refine cw_seq ?_
  refine cw_region ?_
  refine rs_op rfl (ow_assign rfl ?_)
  refine rs_nil ?_
  refine ew_next ?_
  refine cw_seq ?_
  refine cw_region ?_
  refine rs_op rfl (ow_move rfl ?_)
  refine rs_op rfl (ow_frombits (b := 9223372036854775808) ex60 rfl ?_)
  refine rs_op rfl (ow_assign rfl ?_)
  refine rs_nil ?_
  refine ew_next ?_
  refine cw_seq ?_
  refine cw_block ?_
  refine cw_seq ?_
  refine cw_region ?_
  refine rs_op rfl (ow_move rfl ?_)
  refine rs_op rfl (ow_move rfl ?_)
  refine rs_op rfl (ow_fneq rfl rfl ?_)
  refine rs_set 13 (.bool false) rfl (by kernel_rfl : (.bool (ford 9223372036854775808 9223372036854775808 != some .eq) : Value) = _) ?_
  refine rs_op rfl (ow_assign rfl ?_)
  refine rs_nil ?_
  refine ew_next ?_
  refine cw_else rfl ?_
  refine cw_seq ?_
  refine cw_region ?_
  refine rs_op rfl (ow_move rfl ?_)
  refine rs_op rfl (ow_enter en61 rfl ((ct61_4 _).mono ?_))
  rintro e w1 ⟨rfl, hb⟩
  refine ⟨_, rfl, ?_⟩
  have Ec := Ext.of_below hb No
  replace E := E.trans Ec.no
  clear hb Ec
  refine rs_op rfl (ow_assign rfl ?_)
  refine rs_nil ?_
  refine ew_next ?_
  refine cw_else rfl ?_
  refine cw_skip ?_
  refine ew_block_normal ?_
  refine ew_next ?_
  refine cw_seq ?_
  refine cw_region ?_
  refine rs_op rfl (ow_move rfl ?_)
  refine rs_op rfl (ow_enter en62 rfl ((format_ze' _).mono ?_))
  rintro e w2 ⟨rfl, hb⟩
  refine ⟨_, rfl, ?_⟩
  have Ec := Ext.of_below hb No
  replace E := E.trans Ec.no
  clear hb Ec
  refine rs_op rfl (ow_assign rfl ?_)
  refine rs_nil ?_
  refine ew_next ?_
  refine cw_seq ?_
  refine cw_region ?_
  refine rs_op rfl (ow_move rfl ?_)
  refine rs_op rfl (ow_enter en63 rfl ((ct63_7 _).mono ?_))
  rintro e w3 ⟨rfl, hb⟩
  refine ⟨_, rfl, ?_⟩
  have Ec := Ext.of_below hb No
  replace E := E.trans Ec.no
  clear hb Ec
  refine rs_op rfl (ow_assign rfl ?_)
  refine rs_nil ?_
  refine ew_next ?_
  refine cw_seq ?_
  refine cw_region ?_
  refine rs_op rfl (ow_move rfl ?_)
  refine rs_op rfl (ow_move rfl ?_)
  refine rs_op rfl (ow_add (z := 3) rfl rfl (by kernel_rfl) ?_)
  refine rs_op rfl (ow_sliceS (l := 3) (h := 6) Tryz.underlying9 rfl ⟨_, rfl⟩ rfl (by decide) (by decide) ?_)
  refine rs_set 27 (.string ⟨#[43, 48, 48]⟩) rfl (by kernel_rfl : (.string ((⟨#[45, 48, 101, 43, 48, 48]⟩ : ByteArray).extract 3 6) : Value) = _) ?_
  refine rs_op rfl (ow_enter en64 rfl ((ct64_9 _).mono ?_))
  rintro e w4 ⟨rfl, hb⟩
  refine ⟨_, rfl, ?_⟩
  have Ec := Ext.of_below hb No
  replace E := E.trans Ec.no
  clear hb Ec
  refine rs_op rfl (ow_move rfl ?_)
  refine rs_op rfl (ow_extract rfl rfl ?_)
  refine rs_op rfl (ow_extract rfl rfl ?_)
  refine rs_op rfl (ow_assign rfl ?_)
  refine rs_op rfl (ow_assign rfl ?_)
  refine rs_nil ?_
  refine ew_next ?_
  refine cw_seq ?_
  refine cw_seq ?_
  refine cw_region ?_
  refine rs_op rfl (ow_move rfl ?_)
  refine rs_op rfl (ow_lss rfl rfl ?_)
  refine rs_op rfl (ow_move rfl ?_)
  refine rs_op rfl (ow_on rfl (ow_move rfl ?_))
  refine rs_op rfl (ow_on rfl (ow_gtr rfl rfl ?_))
  refine rs_op rfl (ow_pickF rfl rfl ?_)
  refine rs_nil ?_
  refine ew_next ?_
  refine cw_else rfl ?_
  refine cw_skip ?_
  refine ew_next ?_
  refine cw_seq ?_
  refine cw_region ?_
  refine rs_op rfl (ow_move rfl ?_)
  refine rs_op rfl (ow_enter en62 rfl ((format_zf' _).mono ?_))
  rintro e w5 ⟨rfl, hb⟩
  refine ⟨_, rfl, ?_⟩
  have Ec := Ext.of_below hb No
  replace E := E.trans Ec.no
  clear hb Ec
  refine rs_op rfl (ow_assign rfl ?_)
  refine rs_nil ?_
  refine ew_next ?_
  refine cw_seq ?_
  refine cw_seq ?_
  refine cw_region ?_
  refine rs_op rfl (ow_move rfl ?_)
  refine rs_op rfl (ow_enter en65 rfl ((ct65_14 _).mono ?_))
  rintro e w6 ⟨rfl, hb⟩
  refine ⟨_, rfl, ?_⟩
  have Ec := Ext.of_below hb No
  replace E := E.trans Ec.no
  clear hb Ec
  refine rs_op rfl (ow_not rfl ?_)
  refine rs_nil ?_
  refine ew_next ?_
  refine cw_then rfl ?_
  refine cw_region ?_
  refine rs_op rfl (ow_move rfl ?_)
  refine rs_op rfl (ow_addS rfl rfl (by decide) ?_)
  refine rs_set 44 (.string ⟨#[45, 48, 46, 48]⟩) rfl (by kernel_rfl : (.string ((⟨#[45, 48]⟩ : ByteArray) ++ (⟨#[46, 48]⟩ : ByteArray)) : Value) = _) ?_
  refine rs_op rfl (ow_assign rfl ?_)
  refine rs_nil ?_
  refine ew_next ?_
  refine cw_seq ?_
  refine cw_region ?_
  refine rs_op rfl (ow_move rfl ?_)
  refine rs_op rfl (ow_assign rfl ?_)
  refine rs_nil ?_
  refine ew_next ?_
  refine cw_ret ?_
  refine ew_ret (rs := [.tmp 2]) (vs := [_]) rfl ⟨rfl, trivial⟩ ?_
  exact ⟨rfl, (LW.step E XLW).toBelow⟩
end
end Go.Proofs.YtljndllhmdpjlaaGreatDoor

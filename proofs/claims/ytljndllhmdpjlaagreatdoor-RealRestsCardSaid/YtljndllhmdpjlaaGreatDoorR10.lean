/- Rules for walks: a loop's rounds one by one; floating-point numbers; functions that the model gives itself; strings that are written out. Rules for walks: a region that draws its order, cut where everything that follows waits for everything before. The functions that the model gives itself. Closed facts. Layer 3's small functions and the document's: sums, products, quotients, the sign, the order. The walks of package math: Abs, IsInf, IsNaN, Copysign, normalize, Frexp. The walks of math.normalize and math.Frexp. The walk of math.Ldexp, where the answer needs no rounding. Rules for walks: from numbers to floating-point numbers and back; a NaN made whole. Plain mathematics of floating-point numbers: whole numbers as floats and back, rests of a division. No condition. Plain mathematics of floating-point numbers: what a sum is rounded to lies between the same numbers as the sum. No condition. Plain mathematics of floating-point numbers: sums rounded; numbers that are whole. No condition. Plain mathematics of floating-point numbers: quotient rounded down and rest, as the program and the document reckon them. No condition. The walks of math.NaN, math.Frexp, math.Ldexp, math.Mod. The walks of the document's parts and rest. The walks of the quotient rounded down and the rest: package real's and the document's. Plain mathematics of floating-point numbers: where the rest lies; the quotient rounded down is whole. No condition. The walks of the functions that the laws of layer 3 call on fixed numbers. -/
import Derived.Test.YtljndllhmdpjlaaGreatDoorR9
import Derived.Test.YtljndllhmdpjlaaGreatDoorProg
import Derived.Lib.ConvBytes
import Derived.Lib.SmallJoins
namespace Go.Proofs.YtljndllhmdpjlaaGreatDoor
open Go.RowKit
set_option maxRecDepth 100000
/-- From a loop's next round on. -/
def LoopW (P : Program) (c : Code) (Q : Exit → Act → World → Prop) (a : Act) (w : World) : Prop := ∀ b k cs, ∃ e a' w', Q e a' w' ∧ Arrives P (lone (b.at a (.inLoop c :: k)) cs w) b k cs e a' w'
theorem loopW_of {P : Program} {c : Code} {Q : Exit → Act → World → Prop} {a : Act} {w : World} (h : c.wp P (Exit.then (LoopW P c Q) Q) a w) (b : Frame) (k : List Item) (cs : List Frame) :
    ∃ e a' w', Q e a' w' ∧ Arrives P (lone (b.at a (.code c :: .inLoop c :: k)) cs w) b k cs e a' w' := by
  obtain ⟨e, a₁, w₁, hq, harr⟩ := h b (.inLoop c :: k) cs
  cases e with
  | normal =>
    obtain ⟨e₂, a₂, w₂, hq₂, harr₂⟩ := hq b k cs
    exact ⟨e₂, a₂, w₂, hq₂, .of_steps harr harr₂⟩
  | exit id => exact ⟨_, a₁, w₁, hq, .pass (x := .inLoop c) rfl (fun _ _ => .inl (by simp)) harr⟩
  | goto l => exact ⟨_, a₁, w₁, hq, .pass (x := .inLoop c) rfl (fun _ _ => .inl (by simp)) harr⟩
  | ret => exact ⟨_, a₁, w₁, hq, .pass (x := .inLoop c) rfl (fun _ _ => .inl (by simp)) harr⟩
  | panic ch => exact ⟨_, a₁, w₁, hq, .pass (x := .inLoop c) rfl (fun _ _ => .inl (by simp)) harr⟩
  | outgrown => exact ⟨_, a₁, w₁, hq, .pass (x := .inLoop c) rfl (fun _ _ => .inl (by simp)) harr⟩
section
variable {P : Program} {N : Nat} {ops : Array Oper} {Q : Exit → Act → World → Prop} {σ : Env} {w : World} {ty : TypeId} {pos : String} {af : Array Edge} {dst : Option Nat} {Post : Value → World → Prop}
theorem cw_unroll {c : Code} (h : CW P N c (Exit.then (LoopW P c Q) Q) σ w) : CW P N (.loop c) Q σ w := fun a ha b k cs => by
  obtain ⟨e, a', w', hq, harr⟩ := loopW_of (h a ha) b k cs
  exact ⟨e, a', w', hq, .of_steps (.one step_loop) harr⟩
theorem ew_again {c : Code} (h : CW P N c (Exit.then (LoopW P c Q) Q) σ w) : EW N (Exit.then (LoopW P c Q) Q) .normal σ w := fun a ha b k cs => by
  obtain ⟨e, a', w', hq, harr⟩ := loopW_of (h a ha) b k cs
  exact ⟨e, a', w', hq, .of_steps (.one step_inLoop) harr⟩
/-! ### floating-point numbers -/
theorem ow_fgeq {T U : TypeId} {x y : Operand} {m n : Nat} (hx : ev σ x = some (.float .f64 m)) (hy : ev σ y = some (.float .f64 n)) (k : Post (.bool (ford m n == some .gt || ford m n == some .eq)) w) : OW P N ops Q ⟨dst, .binOp .geq T x y U, ty, pos, af, none⟩ σ w Post :=
  ow_val (fun ρ ha => by simp [execOp, ha hx, ha hy, binOp, eqGuard, Op.floatCmp, FloatKind.format, ford, go_sem]) k
/-- An operation whose result is known. -/
theorem ow_fV {op : BinOp} {T U : TypeId} {x y : Operand} {m n z : Nat} (ho : op = .add ∨ op = .sub ∨ op = .mul ∨ op = .quo) (hx : ev σ x = some (.float .f64 m)) (hy : ev σ y = some (.float .f64 n)) (hz : fop op m n = some z)
    (k : Post (.float .f64 z) w) : OW P N ops Q ⟨dst, .binOp op T x y U, ty, pos, af, none⟩ σ w Post :=
  ow_float ho hx hy (fun r w' h => by
    rcases h with ⟨h1, rfl⟩ | ⟨h1, _⟩
    · rw [hz] at h1; cases h1; exact k
    · rw [hz] at h1; cases h1)
/-! ### functions that the model gives itself -/
theorem run_f64bits (b : Nat) (w : World) : (Extern.MathFloatBits.float64bits #[.float .f64 b]).run P w = .ok (.int .u64 ((b : Nat) : Int)) w := rfl
theorem run_frombits (b : Nat) (w : World) : (Extern.MathFloatBits.float64frombits #[.int .u64 ((b : Nat) : Int)]).run P w = .ok (.float .f64 b) w := rfl
theorem ow_bits {f : FuncId} {ts : Array TypeId} {x : Operand} {b : Nat} (hf : Ext_ P f Extern.MathFloatBits.float64bits) (hx : ev σ x = some (.float .f64 b)) (k : Post (.int .u64 ((b : Nat) : Int)) w) : OW P N ops Q ⟨dst, .call ⟨.value (.func f), #[x], ts⟩, ty, pos, af, none⟩ σ w Post :=
  ow_ext (xs := [x]) (args := [.float .f64 b]) hf (by simp [evs, hx]) (run_f64bits b w) k
theorem ow_frombits {f : FuncId} {ts : Array TypeId} {x : Operand} {b : Nat} (hf : Ext_ P f Extern.MathFloatBits.float64frombits) (hx : ev σ x = some (.int .u64 ((b : Nat) : Int))) (k : Post (.float .f64 b) w) : OW P N ops Q ⟨dst, .call ⟨.value (.func f), #[x], ts⟩, ty, pos, af, none⟩ σ w Post :=
  ow_ext (xs := [x]) (args := [.int .u64 ((b : Nat) : Int)]) hf (by simp [evs, hx]) (run_frombits b w) k
/-- Rounded to a whole number. -/
def fround (way : Ieee.Toward) (b : Nat) : Nat := FloatKind.f64.encode ((FloatKind.f64.decode b).integral way)
theorem ow_round {f : FuncId} {ts : Array TypeId} {x : Operand} {b : Nat} {name : String} {way : Ieee.Toward} (hf : Ext_ P f (Extern.MathFloor.toIntegral name way)) (hx : ev σ x = some (.float .f64 b)) (hn : (FloatKind.f64.decode b).isNaN = false) (k : Post (.float .f64 (fround way b)) w) : OW P N ops Q ⟨dst, .call ⟨.value (.func f), #[x], ts⟩, ty, pos, af, none⟩ σ w Post :=
  ow_ext (xs := [x]) (args := [.float .f64 b]) (v := .float .f64 (fround way b)) (w' := w) hf (by simp [evs, hx]) (by
    have e : Extern.MathFloor.toIntegral name way #[.float .f64 b] = (match FloatKind.f64.decode b with
      | .nan s t => if FloatKind.f64.format.quiet t = t then pure (.float .f64 b) else do
        let kept ← choose (.extern "math.Floor,Ceil,Trunc,RoundToEven.signallingNaN kept" 2)
        pure (.float .f64 (if kept == 1 then b else FloatKind.f64.encode (.nan s (FloatKind.f64.format.quiet t))))
      | d => pure (.float .f64 (FloatKind.f64.encode (d.integral way)))) := rfl
    rw [e]
    unfold fround
    cases h : FloatKind.f64.decode b with
    | nan s t => rw [h] at hn; cases hn
    | infinity s => rfl
    | number s m e => rfl) k
/-! ### strings that are written out -/
theorem bytes_list (a : Array UInt8) : (⟨a⟩ : ByteArray).toList = a.toList := by rw [ByteArray.toList_eq]
/-- The lesser of two numbers. -/
theorem ow_min {x y : Operand} {t1 t2 : TypeId} {q q2 : IntKind} {m n : Int} (hx : ev σ x = some (.int q m)) (hy : ev σ y = some (.int q2 n))
    (k : Post (.int q (if n < m then n else m)) w) : OW P N ops Q ⟨dst, .call ⟨.builtin .min, #[x, y], #[t1, t2]⟩, ty, pos, af, none⟩ σ w Post :=
  ow_val (fun ρ ha => by simp [execOp, resolve, invoke, builtin, Builtin.min_, Builtin.min2, ha hx, ha hy, go_sem]) k
/-- The byte of a string that is written out. -/
theorem ow_indexSL {x i : Operand} {T : TypeId} {s : ByteArray} {q : IntKind} {m : Int} {j : Nat} {b : Nat} (hd : P.underlying T = some .string) (hx : ev σ x = some (.string s)) (hi : ev σ i = some (.int q m)) (hm : m = (j : Int)) (hb : (s.data[j]?).map (·.toNat) = some b)
    (k : Post (.int .u8 (b : Int)) w) : OW P N ops Q ⟨dst, .index T x i, ty, pos, af, none⟩ σ w Post := by
  obtain ⟨c, h1, rfl⟩ := Option.map_eq_some_iff.1 hb
  exact ow_indexS hd hx hi hm (show s[j]? = some c by
    have h2 : s[j]? = s.data[j]? := rfl
    rw [h2, h1]) k
/-- The address of an array's cell. -/
theorem ow_indexAddrG {x i : Operand} {T e : TypeId} {g o n s : Nat} {q : IntKind} {m : Int} {j : Nat} (hd : P.underlying T = some (.array n e)) (hs : SizeIs P e s) (hx : ev σ x = some (.pointer (some ⟨g, o, none⟩))) (hi : ev σ i = some (.int q m)) (hm : m = (j : Int)) (hj : j < n)
    (k : Post (.pointer (some ⟨g, o + j * s, none⟩)) w) : OW P N ops Q ⟨dst, .indexAddr T x i, ty, pos, af, none⟩ σ w Post :=
  ow_val (fun ρ ha => by
    subst hm
    have h1 : ¬ n ≤ j := by omega
    simp [execOp, ha hx, ha hi, Instr.indexAt, Instr.sureAddr, asIntOf, run_underlying hd, run_size hs, h1, hj, Addr.add_eq, go_sem]) k
/-! ### an error that is none -/
theorem run_equalN {T : TypeId} {ms : Array (String × TypeId)} (hd : P.underlying T = some (.interface ms)) : (Op.equal T .nilIface .nilIface).run P w = .ok true w := by
  have e : Op.maxDepth = 9999 + 1 := rfl
  have key : ∀ d : Nat, (Op.equalIn (d + 1) T .nilIface .nilIface).run P w = .ok true w := by
    intro d
    rw [Op.equalIn]
    simp only [Sem.run_bind, run_underlying hd, Result.andThen_ok]
    rfl
  unfold Op.equal
  rw [e]
  exact key 9999
theorem ow_neqN {T U : TypeId} {x : Operand} {ms : Array (String × TypeId)} (hd : P.underlying T = some (.interface ms)) (hx : ev σ x = some .nilIface) (k : Post (.bool false) w) : OW P N ops Q ⟨dst, .binOp .neq T x (.const .nilIface) U, ty, pos, af, none⟩ σ w Post :=
  ow_val (fun ρ ha => by
    have e := run_equalN (P := P) (w := w) hd
    have hc : ρ (.const .nilIface) = .nilIface := ha rfl
    simp only [execOp, ha hx, hc, eqGuard, binOp]
    simp [e, go_sem]) k
/-- Cells that hold a list. -/
def RowL (w : World) (g : Nat) (xs : List Value) : Prop := ∀ j v, xs[j]? = some v → w.cell? ⟨g, j, none⟩ = some v
theorem Per.rowL {w : World} {g : Nat} {xs : List Value} (h : RowL w g xs) : Per No w (fun b => RowL b g xs) := fun b hb j v hj => by
  have h1 := h j v hj
  rw [hb.cell (p := ⟨g, j, none⟩) (World.block_lt_of_cell? w _ h1) (fun e => e.elim)]; exact h1
/-- A string as bytes in a new row. -/
theorem ow_strBytes {S D e : TypeId} {x : Operand} {s : ByteArray} {n : Nat} {xs : List Value} (hS : P.underlying S = some .string) (hD : P.underlying D = some (.slice e)) (he : P.underlying e = some (.int .u8)) (hx : ev σ x = some (.string s)) (hn : s.size = n) (hl : s.data.toList.map (fun b => Value.int .u8 (b.toNat : Int)) = xs)
    (k : ∀ g c w', RowL w' g xs → Ext No w w' → w.heap.size ≤ g → Post (.slice (some ⟨g, 0, none⟩) n c) w') : OW P N ops Q ⟨dst, .convert S D x, ty, pos, af, none⟩ σ w Post :=
  ow_val (v := .slice (some ⟨w.heap.size, 0, none⟩) s.size (grownCap w s.size 0 e)) (w' := Lib.bytesWorld w e s) (fun ρ ha => by
    simp only [execOp, ha hx, Sem.run_bind, Lib.run_convert_string_bytes w S D e s hS hD he, Result.andThen_ok, Sem.run_pure]) (by
    subst hn
    refine k _ _ _ (fun j v hj => ?_) (Ext.of_below (Joins.below_bytesWorld _ _ _ _ (Nat.le_refl _)) No) (Nat.le_refl _)
    rw [← hl, List.getElem?_map] at hj
    obtain ⟨b, hb, rfl⟩ := Option.map_eq_some_iff.1 hj
    have hlt : j < s.size := by
      have h1 := (List.getElem?_eq_some_iff.1 hb).1
      have h2 : s.data.toList.length = s.size := Array.length_toList
      omega
    rw [Lib.bytesWorld_cell w e s j hlt, List.getD_eq_getElem?_getD, hb]; rfl)
end
/-- A call that leaves memory as it was, but for new blocks, and answers a value. -/
abbrev Gives (f : FuncId) (args : Array Value) (v : Value) : Prop := ∀ w, Calls Tryz.prog f args w fun e w' => e = .returned v ∧ Below w.heap.size w w'
end Go.Proofs.YtljndllhmdpjlaaGreatDoor
namespace Go.Proofs.YtljndllhmdpjlaaGreatDoor
open Go.RowKit
set_option maxRecDepth 100000
section
variable {P : Program} {N : Nat} {Q : Exit → Act → World → Prop} {σ : Env} {w : World} {l : List Oper}
/-- The first k operations are done. -/
def trL (k n : Nat) : Array Bool := (List.replicate k true ++ List.replicate (n - k) false).toArray
/-- A drawn region from where its first k operations are done. -/
def AK (P : Program) (N k : Nat) (l : List Oper) (Q : Exit → Act → World → Prop) (σ : Env) (w : World) : Prop := ∀ a, At N σ a → wpAny P .any l.toArray Q (l.length - k) (trL k l.length) a w
theorem cw_any {id : Nat} (hm : P.follows .mixedOrders = true) (h : AK P N 0 l Q σ w.drew) : CW P N (.region id l.toArray true) Q σ w := fun a ha => by
  refine wp_region_any hm ?_
  have := h a ha
  unfold trL at this
  simpa using this
theorem trL_get {k n j : Nat} {d : Bool} (hj : j < n) (hk : k ≤ n) : (trL k n).getD j d = decide (j < k) := by
  unfold trL
  by_cases h : j < k
  · simp [Array.getD_eq_getD_getElem?, List.getElem?_append, h]
  · have h2 : j - k < n - k := by omega
    simp [Array.getD_eq_getD_getElem?, List.getElem?_append, h, List.getElem?_replicate, h2]
theorem trL_set {k n : Nat} (h : k < n) : (trL k n).setIfInBounds k true = trL (k + 1) n := by
  unfold trL
  apply Array.toList_inj.1
  rw [Array.toList_setIfInBounds]
  have e : n - k = (n - (k + 1)) + 1 := by omega
  rw [e, List.replicate_succ, List.replicate_succ', List.append_assoc]
  simp
/-- Operations that do nothing but hand on a value. -/
def quiet (o : Oper) : Bool := match o.guard with
  | some _ => false
  | none => match o.op with
    | .move _ => true
    | .assign _ => true
    | .extract _ _ => true
    | _ => false
theorem quiet_yields {ops : Array Oper} {o : Oper} {a : Act} {w : World} {K : Act → World → Prop} (hq : quiet o = true) (h : o.wp P a w K Q ∨ (o.asks P a w ∧ LetsOut Q)) : ∃ v, Yields P ops o v a ∧ K (a.put o.dst v) w := by
  obtain ⟨dst, op, type, pos, after, guard⟩ := o
  cases guard with
  | some g => simp [quiet] at hq
  | none =>
    cases op <;> first | (simp [quiet] at hq; done) | skip
    case move x =>
      refine ⟨a.eval x, .inl ⟨by simp [Region.wanted], fun w => by simp [execOp, go_sem]⟩, ?_⟩
      rcases h with h | ⟨h, _⟩
      · simpa [Oper.wp, execOp, go_sem, Oper.upon] using h
      · exact absurd h (by simp [Oper.asks, execOp, Sem.runT, Sem.events, pure, bind])
    case assign x =>
      refine ⟨a.eval x, .inl ⟨by simp [Region.wanted], fun w => by simp [execOp, go_sem]⟩, ?_⟩
      rcases h with h | ⟨h, _⟩
      · simpa [Oper.wp, execOp, go_sem, Oper.upon] using h
      · exact absurd h (by simp [Oper.asks, execOp, Sem.runT, Sem.events, pure, bind])
    case extract x i =>
      rcases h with h | ⟨h, _⟩
      · unfold Oper.wp at h
        simp only [execOp, Instr.extract] at h
        split at h
        · rename_i vs hx
          split at h
          · rename_i v hv
            refine ⟨v, .inl ⟨by simp [Region.wanted], fun w => by simp only [execOp, hx, Instr.extract, hv]; rfl⟩, ?_⟩
            simpa [go_sem, Oper.upon] using h
          · simp [go_sem, Oper.upon, stuck] at h
        · simp [go_sem, Oper.upon, stuck] at h
      · exfalso
        unfold Oper.asks at h
        simp only [execOp, Instr.extract] at h
        split at h
        · split at h
          · simp [Sem.runT, Sem.events, Sem.bind, pure, bind] at h
          · simp [Sem.runT, Sem.events, Sem.bind, pure, bind, stuck] at h
        · simp [Sem.runT, Sem.events, Sem.bind, pure, bind, stuck] at h
/-- From operation k on: each is the only one that may come next, or merely hands on a value that nobody looks at beforehand. -/
def seqFrom (l : List Oper) : Nat → Nat → Bool
  | _, 0 => true
  | k, m + 1 => (match Region.ready .any l.toArray (trL k l.length) with
    | [] => false
    | [j] => Nat.beq j k
    | r => memN k r && (match l.toArray[k]? with
      | some o => quiet o
      | none => false) && Region.free .any l.toArray (trL k l.length) k) && seqFrom l (k + 1) m
theorem any_of_list (hn : Region.noSelect l.toArray = true) (hQ : ∀ c (a : Act) d v w, Q (.panic c) (a.put d v) w → Q (.panic c) a w) :
    ∀ (m k : Nat), k + m = l.length → seqFrom l k m = true → ∀ a w, wpList P l.toArray Q (l.drop k) a w → wpAny P .any l.toArray Q m (trL k l.length) a w := by
  intro m
  induction m with
  | zero =>
    intro k hk _ a w h
    have hk : k = l.length := by omega
    subst hk
    rw [List.drop_length] at h
    refine ⟨List.eq_nil_iff_forall_not_mem.2 fun j hj => ?_, h⟩
    obtain ⟨h0, o, ho, _⟩ := mem_ready.1 hj
    have hlt : j < l.length := by simpa using (Array.getElem?_eq_some_iff.1 ho).1
    rw [trL_get hlt (Nat.le_refl _)] at h0
    simp [hlt] at h0
  | succ m ih =>
    intro k hk hs a w h
    have hkl : k < l.length := by omega
    simp only [seqFrom, Bool.and_eq_true] at hs
    rw [List.drop_eq_getElem_cons hkl] at h
    have hok : l.toArray[k]? = some l[k] := by simp [hkl]
    have hnext := fun a w h => ih (k + 1) (by omega) hs.2 a w h
    rw [← trL_set hkl] at hnext
    have hone : wpOp P l.toArray Q k (wpAny P .any l.toArray Q m ((trL k l.length).setIfInBounds k true)) a w := by
      unfold wpOp
      rw [hok]
      simp only []
      unfold wpList at h
      split
      · rename_i hw
        rw [if_pos hw] at h
        exact h.imp (Oper.wp_mono hnext) id
      · rename_i hw
        rw [if_neg hw] at h
        exact hnext _ _ h
    have h1 := hs.1
    split at h1
    · cases h1
    · rename_i j hr
      have hj : j = k := Nat.eq_of_beq_eq_true h1
      subst hj
      exact wpAny_all hr (by simp) fun i hi => by rw [List.mem_singleton.1 hi]; exact hone
    · rename_i hr hr1
      rw [hok] at h1
      simp only [Bool.and_eq_true] at h1
      have hq := h1.1.2
      unfold wpList at h
      have hg : Region.wanted l[k] (yielded l.toArray a.tmps) = true := by
        unfold quiet at hq
        split at hq
        · cases hq
        · rename_i hg; simp [Region.wanted, hg]
      rw [if_pos hg] at h
      obtain ⟨v, hy, hv⟩ := quiet_yields (ops := l.toArray) hq h
      exact wpAny_take hok hn h1.2 (by simpa using memN_true.1 h1.1.1) (fun c a w h => hQ c a _ _ w h) hy (hnext _ _ hv)
theorem ak_of_rs {k : Nat} (hs : (seqFrom l k (l.length - k) && Region.noSelect l.toArray && Nat.ble k l.length) = true) (hQ : ∀ c (a : Act) d v w, Q (.panic c) (a.put d v) w → Q (.panic c) a w)
    (h : RS P N l.toArray Q (l.drop k) σ w) : AK P N k l Q σ w := fun a ha => by
  simp only [Bool.and_eq_true] at hs
  have := Nat.le_of_ble_eq_true hs.2
  exact any_of_list hs.1.2 hQ _ k (by omega) hs.1.1 a w (h a ha)
/-- Everything below j is among S, or waited for by what is. -/
def covers (ops : Array Oper) : Nat → List Nat → Bool
  | 0, _ => true
  | j + 1, S => memN j S && covers ops j (S ++ opDeps ops j)
/-- All that stands behind the first m operations waits for all of these, and they look at nothing behind them. -/
def gateOK (l : List Oper) (m : Nat) : Bool := Nat.ble m l.length && inRow 0 (l.take m) [] && ((l.take m).all fun o => match o.guard with
  | some (g, _) => Nat.blt g m
  | none => true) && (List.range (l.length - m)).all fun t => (opDeps l.toArray (m + t)).any (fun d => Nat.ble m d) || covers l.toArray m (opDeps l.toArray (m + t))
theorem covers_all {ops : Array Oper} {L : Nat → Prop} (hd : ∀ i, L i → ∀ j ∈ opDeps ops i, L j) : ∀ (m : Nat) (S : List Nat), covers ops m S = true → (∀ j ∈ S, L j) → ∀ j, j < m → L j := by
  intro m
  induction m with
  | zero => intro S _ _ j hj; omega
  | succ m ih =>
    intro S hc hS j hj
    simp only [covers, Bool.and_eq_true] at hc
    have hm := hS m (memN_true.1 hc.1)
    rcases Nat.lt_or_ge j m with h | h
    · refine ih _ hc.2 (fun j hj => ?_) j h
      rcases List.mem_append.1 hj with h | h
      · exact hS j h
      · exact hd m hm j h
    · have : j = m := by omega
      subst this; exact hm
theorem upon_then {o : Oper} {a : Act} {K K' Z : Act → World → Prop} (h : ∀ a w, K a w → K' a w) : ∀ {r : Result Next}, o.upon P a K (Exit.then Z Q) r → o.upon P a K' Q r := by
  intro r hh
  cases r with
  | ok n w' =>
    cases n <;> simp only [Oper.upon] at hh ⊢ <;>
      first
        | exact h _ _ hh
        | exact Calls.mono hh (fun e w'' he => by cases e <;> first | exact h _ _ he | exact he)
        | exact Rows.mono hh (fun _ _ he => h _ _ he)
        | exact hh
  | halt x w' => cases x <;> simp only [Oper.upon] at hh ⊢ <;> exact hh
end
section
variable {P : Program} {N : Nat} {Q : Exit → Act → World → Prop} {σ : Env} {l : List Oper}
theorem aw_drawn {w : World} (Y : Nat → Prop) (hY : ∀ k, Y k → k < w.heap.size) (bs : List Bx) (os : List Ox) (F : Nat → Fx) (hok : (inRow 0 l [] && bxOK bs && bxWF l bs bs && dstOK N l && oxOK bs os) = true) (hos : OutsAre Y w os) (hin : ∀ o ∈ os, l[o.st]? ≠ none)
    (hsteps : StepsOK P N l.toArray Q σ bs os F w 0 l)
    (hend : ∀ vs w', Ext (Mut (outM os)) w w' → AllOut σ l.toArray vs w' os → AllLeft Y bs F vs w' 0 l → AllFilled P σ l.toArray vs w w' bs → AllApart vs bs → EW N Q .normal (envEnd σ l vs) w') : AK P N 0 l Q σ w := by
  simp only [Bool.and_eq_true] at hok
  obtain ⟨⟨⟨⟨hrow, hbx⟩, hwf⟩, hdl⟩, hox⟩ := hok
  have hoat : ∀ {r : List Ox}, OutsAre Y w r → ∀ o ∈ r, Y o.g ∧ Blk w o.g o.T o.cs := by
    intro r
    induction r with
    | nil => intro _ o ho; cases ho
    | cons x r ih =>
      intro h o ho
      rcases List.mem_cons.1 ho with rfl | ho
      · exact ⟨h.1.1, h.1.2.1⟩
      · exact ih h.2 o ho
  have hopw : ∀ {r : List Ox}, OutsAre Y w r → oxOK bs r = true → ∀ a ∈ r, ∀ b ∈ r, a ≠ b → a.g ≠ b.g ∧ a.st ≠ b.st := by
    intro r
    induction r with
    | nil => intro _ _ a ha; cases ha
    | cons x r ih =>
      intro h hk a ha b hb hab
      simp only [oxOK, Bool.and_eq_true, List.all_eq_true, Bool.not_eq_true'] at hk
      rcases List.mem_cons.1 ha with rfl | ha'
      · rcases List.mem_cons.1 hb with rfl | hb'
        · exact absurd rfl hab
        · exact ⟨h.1.2.2 b hb', fun e => by have := hk.1.2 b hb'; rw [e] at this; simp at this⟩
      · rcases List.mem_cons.1 hb with rfl | hb'
        · exact ⟨fun e => h.1.2.2 a ha' e.symm, fun e => by have := hk.1.2 a ha'; rw [e] at this; simp at this⟩
        · exact ih h.2 hk.2 a ha' b hb' hab
  have hos1 : ∀ {r : List Ox}, oxOK bs r = true → ∀ o ∈ r, boxOf bs o.st = none ∧ fillOf bs o.st = none := by
    intro r
    induction r with
    | nil => intro _ o ho; cases ho
    | cons x r ih =>
      intro hk o ho
      simp only [oxOK, Bool.and_eq_true] at hk
      rcases List.mem_cons.1 ho with rfl | ho
      · exact ⟨by simpa using hk.1.1.1, by simpa using hk.1.1.2⟩
      · exact ih hk.2 o ho
  intro a ha
  rw [show trL 0 l.length = Array.replicate l.toArray.size false by simp [trL]]
  have m0 : Mid P N Y l σ w bs os F (Array.replicate l.toArray.size false) a w (fun _ => undef) Y := by
    have hno : ∀ i, ¬ Ran (Array.replicate l.toArray.size false) i := fun i h => by
      unfold Ran at h
      by_cases hi : i < l.length <;> simp [hi] at h
    exact ⟨by simp, ha.defers, ha.size, fun t v h => ha.get t v (lk_cutE h).1, fun i d h => absurd h (hno i), fun i d v _ _ h => ha.get d v h, fun i h => absurd h (hno i), Ext.refl _ _, hY, fun _ h => h, hY,
      fun i h => absurd h (hno i), fun b _ h => absurd h (hno _), fun o ho => ⟨fun _ => (hoat hos o ho).2, fun h => absurd h (hno _)⟩, fun o ho => (hoat hos o ho).1, fun b _ c _ h => absurd h (hno _)⟩
  refine wpAny_mid (l := l) hrow hbx hwf (dstOK_at hdl) (fun o ho h => by rw [(hos1 hox o ho).1] at h; cases h) (fun o ho h => by rw [(hos1 hox o ho).2] at h; cases h) (hopw hos hox) hsteps ?_ _ _ _ _ _ _ ?_ m0
  · intro listed a w' vs X hall m
    have hlen : ∀ i (o : Oper), l[i]? = some o → Ran listed i := fun i o h => hall i (List.getElem?_eq_some_iff.1 h).1
    refine hend vs w' m.ext ?_ ?_ ?_ ?_ a ?_
    · have hst : ∀ o ∈ os, l[o.st]? ≠ none → Ran listed o.st := fun o _ h => hall _ (by
        rcases Nat.lt_or_ge o.st l.length with h1 | h1
        · exact h1
        · exact absurd (List.getElem?_eq_none h1) h)
      have key : ∀ r : List Ox, (∀ b ∈ r, b ∈ os) → AllOut σ l.toArray vs w' r := by
        intro r
        induction r with
        | nil => intro _; trivial
        | cons b r ih =>
          intro hr
          refine ⟨?_, ih fun c hc => hr c (List.mem_cons.2 (Or.inr hc))⟩
          have hb := hr b (List.mem_cons.2 (Or.inl rfl))
          exact (m.outs b hb).2 (hst b hb (hin b hb))
      exact key os (fun _ h => h)
    · have key : ∀ (r : List Oper) (k : Nat), (∀ (i : Nat) (o : Oper), r[i]? = some o → l[k + i]? = some o) → AllLeft Y bs F vs w' k r := by
        intro r
        induction r with
        | nil => intro k _; trivial
        | cons o r ih =>
          intro k hk
          refine ⟨?_, ih (k + 1) (fun i o' h => by have := hk (i + 1) o' (by simpa using h); rwa [show k + (i + 1) = k + 1 + i by omega] at this)⟩
          split
          · rename_i hb hf
            exact (m.facts k (hlen k o (by simpa using hk 0 o rfl)) hb hf).less m.outer
          · trivial
      exact key l 0 (fun i o h => by simpa using h)
    · have key : ∀ r : List Bx, (∀ b ∈ r, b ∈ bs) → AllFilled P σ l.toArray vs w w' r := by
        intro r
        induction r with
        | nil => intro _; trivial
        | cons b r ih =>
          intro hr
          refine ⟨?_, ih fun c hc => hr c (List.mem_cons.2 (Or.inr hc))⟩
          have hb := hr b (List.mem_cons.2 (Or.inl rfl))
          obtain ⟨w1, w2⟩ := bxWF_at hwf hb
          have hst : Ran listed b.st := by
            unfold opDeps at w1
            split at w1
            · rename_i o ho; exact hlen b.st o (by simpa using ho)
            · cases w1
          obtain ⟨g, cs, h1, h2, h20, h3, _, h5⟩ := m.boxes b hb (m.down _ hst _ w1)
          obtain ⟨v, y, rfl, h6, h7⟩ := h5 hst
          exact ⟨g, v, y, h1, h20, h3, h6, h7⟩
      exact key bs (fun _ h => h)
    · have key : ∀ r : List Bx, (∀ b ∈ r, b ∈ bs) → bxOK r = true → AllApart vs r := by
        intro r
        induction r with
        | nil => intro _ _; trivial
        | cons b r ih =>
          intro hr hok
          have hok' := hok
          simp only [bxOK, Bool.and_eq_true, List.all_eq_true, Bool.not_eq_true'] at hok
          refine ⟨fun c hc => ?_, ih (fun c hc => hr c (List.mem_cons.2 (Or.inr hc))) hok.2⟩
          have hb := hr b (List.mem_cons.2 (Or.inl rfl))
          have hc' := hr c (List.mem_cons.2 (Or.inr hc))
          have hran : ∀ b ∈ bs, Ran listed b.at_ := by
            intro b hb
            obtain ⟨w1, w2⟩ := bxWF_at hwf hb
            have hst : Ran listed b.st := by
              unfold opDeps at w1
              split at w1
              · rename_i o ho; exact hlen b.st o (by simpa using ho)
              · cases w1
            exact m.down _ hst _ w1
          refine m.apart b hb c hc' (hran b hb) (hran c hc') (fun e => ?_)
          have := (hok.1 c hc).1
          rw [e] at this
          simp at this
      exact key bs (fun _ h => h) hbx
    · refine ⟨m.defers, m.tmps, fun t v h => ?_⟩
      rcases lk_append h with h | h
      · obtain ⟨j, _, hjd, rfl⟩ := lk_rowE h
        obtain ⟨o, ho, _⟩ := opDst_op hjd
        exact m.ran j t (hlen j o ho) hjd
      · exact m.kept t v h
  · simp
end
section
variable {P : Program} {N : Nat} {Q : Exit → Act → World → Prop} {σ : Env} {w : World} {l : List Oper}
/-- The first m operations by themselves; then the rest. -/
theorem any_prefix {m : Nat} (hg : gateOK l m = true) : ∀ (f : Nat) (ls : List Bool) (a : Act) (w : World), ls.length = m → ls.count false = f →
    (∀ i, Ran ls.toArray i → ∀ j ∈ opDeps l.toArray i, Ran ls.toArray j) →
    wpAny P .any (l.take m).toArray (Exit.then (fun a w => wpAny P .any l.toArray Q (l.length - m) (trL m l.length) a w) Q) f ls.toArray a w →
    wpAny P .any l.toArray Q (f + (l.length - m)) (ls ++ List.replicate (l.length - m) false).toArray a w := by
  unfold gateOK at hg
  simp only [Bool.and_eq_true] at hg
  obtain ⟨⟨⟨hml, hrow⟩, hgd⟩, hcov⟩ := hg
  have hml := Nat.le_of_ble_eq_true hml
  have htk : ∀ i, i < m → (l.take m).toArray[i]? = l.toArray[i]? := fun i hi => by simp [List.getElem?_take, hi]
  have hget : ∀ (ls : List Bool) (i : Nat) (d : Bool), ls.length = m → i < m → (ls ++ List.replicate (l.length - m) false).toArray.getD i d = ls.toArray.getD i d := by
    intro ls i d hl hi
    simp [Array.getD_eq_getD_getElem?, List.getElem?_append, hl, hi]
  have hget2 : ∀ (ls : List Bool) (i : Nat), ls.length = m → m ≤ i → (ls ++ List.replicate (l.length - m) false).toArray.getD i false = false := by
    intro ls i hl hi
    have hni : ¬ i < m := by omega
    simp only [Array.getD_eq_getD_getElem?, List.getElem?_toArray, List.getElem?_append, hl, hni, if_false, List.getElem?_replicate]
    split <;> rfl
  have hfull : ∀ ls : List Bool, ls.length = m → (∀ i, i < m → Ran ls.toArray i) → ls.count false = 0 := by
    intro ls hl h
    refine List.count_eq_zero.2 fun hf => ?_
    obtain ⟨i, hi, he⟩ := List.getElem_of_mem hf
    have := h i (by omega)
    unfold Ran at this
    simp [hi, he] at this
  intro f
  induction f with
  | zero =>
    intro ls a w hl hc hd h
    have hall : ls = List.replicate m true := by
      refine List.eq_replicate_iff.2 ⟨hl, fun b hb => ?_⟩
      cases b with
      | true => rfl
      | false => exact absurd hb (List.count_eq_zero.1 hc)
    have h2 := h.2
    rw [Nat.zero_add, hall]
    exact h2
  | succ f ih =>
    intro ls a w hl hc hd h
    rw [Nat.succ_add]
    refine ⟨fun hr => ?_, fun i hi => ?_⟩
    · exfalso
      have hall : ∀ i, i < m → Ran ls.toArray i := by
        intro i
        induction i using Nat.strongRecOn with
        | _ i ihi =>
          intro him
          rcases Classical.em (Ran ls.toArray i) with h' | h'
          · exact h'
          · exfalso
            have : i ∈ Region.ready .any l.toArray (ls ++ List.replicate (l.length - m) false).toArray := by
              have hil : i < l.length := by omega
              refine mem_ready.2 ⟨?_, l[i], by simp [hil], fun e he hb => ?_⟩
              · rw [hget ls i true hl him]
                unfold Ran at h'
                have : i < ls.length := by omega
                simp [this] at h' ⊢
                exact h'
              · have hlt := (inRow_at hrow (i := i) (o := l[i]) (by simp [List.getElem?_take, him, hil])).1 e.on (mem_depsL (by simpa using he) hb)
                have hei : e.on < i := by omega
                rw [hget ls e.on false hl (by omega)]
                exact ihi e.on hei (by omega)
            rw [hr] at this
            cases this
      have := hfull ls hl hall
      omega
    · obtain ⟨h0, o, ho, hdep⟩ := mem_ready.1 hi
      rcases Nat.lt_or_ge i m with him | him
      · have hdl : ∀ j ∈ opDeps l.toArray i, Ran ls.toArray j := by
          intro j hj
          have ho' : l[i]? = some o := by simpa using ho
          unfold opDeps at hj
          rw [ho] at hj
          obtain ⟨e, he, hb, rfl⟩ := of_mem_depsL hj
          have hlt := (inRow_at hrow (i := i) (o := o) (by simp [List.getElem?_take, him, ho'])).1 e.on (mem_depsL he hb)
          have := hdep e (by simpa using he) hb
          rwa [hget ls e.on false hl (by omega)] at this
        rw [hget ls i true hl him] at h0
        have hi1 : i ∈ Region.ready .any (l.take m).toArray ls.toArray := by
          refine mem_ready.2 ⟨h0, o, by rw [htk i him]; exact ho, fun e he hb => ?_⟩
          refine hdl e.on ?_
          unfold opDeps
          rw [ho]
          exact mem_depsL (by simpa using he) hb
        have h1 := h.2 i hi1
        have hset : ((ls ++ List.replicate (l.length - m) false).toArray.setIfInBounds i true) = (ls.set i true ++ List.replicate (l.length - m) false).toArray := by
          apply Array.toList_inj.1
          rw [Array.toList_setIfInBounds]
          simp [List.set_append, hl, him]
        have hset1 : ls.toArray.setIfInBounds i true = (ls.set i true).toArray := by
          apply Array.toList_inj.1
          rw [Array.toList_setIfInBounds]
        rw [hset1] at h1
        rw [hset]
        have hlsi : ls[i]? = some false := by
          have hil : i < ls.length := by omega
          have e : ls[i] = false := by simpa [hil] using h0
          simp [hil, e]
        have hK : ∀ a w, wpAny P .any (l.take m).toArray (Exit.then (fun a w => wpAny P .any l.toArray Q (l.length - m) (trL m l.length) a w) Q) f (ls.set i true).toArray a w →
            wpAny P .any l.toArray Q (f + (l.length - m)) (ls.set i true ++ List.replicate (l.length - m) false).toArray a w := by
          intro a w h
          refine ih (ls.set i true) a w (by simpa using hl) (by have := count_set ls i hlsi; omega) ?_ h
          have hup : ∀ j, Ran ls.toArray j → Ran (ls.set i true).toArray j := by
            intro j hj
            unfold Ran at hj ⊢
            rw [← hset1]
            exact getD_set_true hj
          intro j hj k hk
          rcases Classical.em (j = i) with rfl | hji
          · exact hup k (hdl k hk)
          · refine hup k (hd j ?_ k hk)
            unfold Ran at hj ⊢
            rw [← hset1, getD_set_ne false (Ne.symm hji)] at hj
            exact hj
        unfold wpOp at h1 ⊢
        rw [htk i him, ho] at h1
        rw [ho]
        simp only [] at h1 ⊢
        have hy : Region.wanted o (yielded (l.take m).toArray a.tmps) = Region.wanted o (yielded l.toArray a.tmps) := by
          unfold Region.wanted
          cases hgo : o.guard with
          | none => rfl
          | some gw =>
            obtain ⟨g, want⟩ := gw
            have hmem : o ∈ l.take m := by
              have ho' : l[i]? = some o := by simpa using ho
              exact List.mem_of_getElem? (i := i) (by simp [List.getElem?_take, him, ho'])
            have := (List.all_eq_true.1 hgd) o hmem
            rw [hgo] at this
            have hgm : g < m := Nat.le_of_ble_eq_true this
            simp only [yielded, htk g hgm]
        rw [← hy]
        split
        · rename_i hw
          rw [if_pos hw] at h1
          rcases h1 with h1 | ⟨h1, h2⟩
          · exact .inl (upon_then hK h1)
          · exact .inr ⟨h1, h2⟩
        · rename_i hw
          rw [if_neg hw] at h1
          exact hK _ _ h1
      · exfalso
        have hil : i < l.length := by simpa using (Array.getElem?_eq_some_iff.1 ho).1
        have hdl : ∀ j ∈ opDeps l.toArray i, (ls ++ List.replicate (l.length - m) false).toArray.getD j false = true := by
          intro j hj
          unfold opDeps at hj
          rw [ho] at hj
          obtain ⟨e, he, hb, rfl⟩ := of_mem_depsL hj
          exact hdep e (by simpa using he) hb
        have hc2 := (List.all_eq_true.1 hcov) (i - m) (List.mem_range.2 (by omega))
        rw [show m + (i - m) = i by omega, Bool.or_eq_true] at hc2
        rcases hc2 with hc2 | hc2
        · obtain ⟨j, hj, hmj⟩ := List.any_eq_true.1 hc2
          have := hdl j hj
          rw [hget2 ls j hl (Nat.le_of_ble_eq_true hmj)] at this
          cases this
        · have hall := covers_all (L := fun j => (Ran ls.toArray j)) hd m _ hc2 (fun j hj => by
            have := hdl j hj
            rcases Nat.lt_or_ge j m with h' | h'
            · rwa [hget ls j false hl h'] at this
            · rw [hget2 ls j hl h'] at this; cases this)
          have := hfull ls hl hall
          omega
theorem ak_cut (m : Nat) (hg : gateOK l m = true) (h : AK P N 0 (l.take m) (Exit.then (fun a w => wpAny P .any l.toArray Q (l.length - m) (trL m l.length) a w) Q) σ w) : AK P N 0 l Q σ w := fun a ha => by
  have hml : m ≤ l.length := by
    unfold gateOK at hg
    simp only [Bool.and_eq_true] at hg
    exact Nat.le_of_ble_eq_true hg.1.1.1
  have hlen : (l.take m).length = m := by simp [hml]
  have h1 := h a ha
  have := any_prefix hg m (List.replicate m false) a w (by simp) (by simp) (fun i hi => by
    unfold Ran at hi
    by_cases h' : i < m <;> simp [h'] at hi) (by
      unfold trL at h1
      rw [hlen] at h1
      simpa [trL] using h1)
  rw [List.replicate_append_replicate] at this
  have e : m + (l.length - m) = l.length := by omega
  rw [e] at this
  unfold trL
  simpa using this
theorem ew_ak {m : Nat} (h : AK P N m l Q σ w) : EW N (Exit.then (fun a w => wpAny P .any l.toArray Q (l.length - m) (trL m l.length) a w) Q) .normal σ w := fun a ha => h a ha
end
section
variable {P : Program} {N : Nat} {ops : Array Oper} {Q : Exit → Act → World → Prop} {σ : Env} {w : World} {ty : TypeId} {pos : String} {af : Array Edge} {dst : Option Nat} {Post : Value → World → Prop}
/-- An array as a slice. -/
theorem ow_sliceAll {T e : TypeId} {x : Operand} {g n s : Nat} (hd : P.underlying T = some (.array n e)) (hs : SizeIs P e s) (hx : ev σ x = some (.pointer (some ⟨g, 0, none⟩)))
    (k : Post (.slice (some ⟨g, 0, none⟩) n n) w) : OW P N ops Q ⟨dst, .slice T x none none none, ty, pos, af, none⟩ σ w Post :=
  ow_val (fun ρ ha => by
    simp only [execOp, Instr.sliceAt, Option.map_none, ha hx, Sem.run_bind, run_underlying hd, Result.andThen_ok, Instr.sureAddr, Instr.sliceBounds, Sem.run_pure, run_size hs, Option.isSome_none, Bool.false_eq_true, if_false]
    simp [Addr.add]) k
/-- A slice cut at its end. -/
theorem ow_sliceH {T e : TypeId} {x y : Operand} {g n c s h : Nat} {q : IntKind} {m : Int} (hd : P.underlying T = some (.slice e)) (hs : SizeIs P e s) (hx : ev σ x = some (.slice (some ⟨g, 0, none⟩) n c)) (hy : ev σ y = some (.int q m)) (hm : m = (h : Int)) (hc : h ≤ c)
    (k : Post (.slice (some ⟨g, 0, none⟩) h c) w) : OW P N ops Q ⟨dst, .slice T x none (some y) none, ty, pos, af, none⟩ σ w Post :=
  ow_slice (l := 0) (h := h) hd hs hx rfl ⟨q, by rw [hy, hm]⟩ (Nat.zero_le _) hc (by
    rw [Nat.sub_zero, Nat.sub_zero, Nat.zero_mul]
    split
    · exact k
    · exact k)
end
end Go.Proofs.YtljndllhmdpjlaaGreatDoor
namespace Go.Proofs.YtljndllhmdpjlaaGreatDoor
theorem ex59 : Ext_ Tryz.prog 59 Extern.MathFloatBits.float64bits := ⟨_, Tryz.func59, by kernel_rfl, by kernel_rfl, by kernel_rfl, by kernel_rfl⟩
theorem ex60 : Ext_ Tryz.prog 60 Extern.MathFloatBits.float64frombits := ⟨_, Tryz.func60, by kernel_rfl, by kernel_rfl, by kernel_rfl, by kernel_rfl⟩
theorem ex112 : Ext_ Tryz.prog 112 (Extern.MathFloor.toIntegral "math.archTrunc" .zero) := ⟨_, Tryz.func112, by kernel_rfl, by kernel_rfl, by kernel_rfl, by kernel_rfl⟩
theorem ex131 : Ext_ Tryz.prog 131 Extern.BytealgIndexByte.indexByte := ⟨_, Tryz.func131, by kernel_rfl, by kernel_rfl, by kernel_rfl, by kernel_rfl⟩
theorem ex136 : Ext_ Tryz.prog 136 (Extern.MathFloor.toIntegral "math.archFloor" .down) := ⟨_, Tryz.func136, by kernel_rfl, by kernel_rfl, by kernel_rfl, by kernel_rfl⟩
theorem ex155 : Ext_ Tryz.prog 155 Extern.MathFloatBits.float64bits := ⟨_, Tryz.func155, by kernel_rfl, by kernel_rfl, by kernel_rfl, by kernel_rfl⟩
end Go.Proofs.YtljndllhmdpjlaaGreatDoor
namespace Go.Proofs.YtljndllhmdpjlaaGreatDoor
open Go.RowKit
set_option maxRecDepth 100000
/-- The one NaN in place of each. -/
def bareN (m : Nat) : Nat := if isN m then 9221120237041090560 else m
def ansF (z : Option Nat) : Nat := z.getD 9221120237041090560
theorem FRes.bare {op : BinOp} {a b r : Nat} {w w' : World} (h : FRes (fop op a b) r w w') : bareN r = ansF (fop op a b) := by
  rcases h with ⟨hz, _⟩ | ⟨hz, hn, _⟩
  · rw [hz]; unfold bareN ansF; rw [(fop_num hz).1]; rfl
  · rw [hz]; unfold bareN ansF; rw [nan_isN hn]; rfl
theorem FRes.lt64 {op : BinOp} {a b r : Nat} {w w' : World} (h : FRes (fop op a b) r w w') : r < 18446744073709551616 := by
  rcases h with ⟨hz, _⟩ | ⟨_, hn, _⟩
  · exact (fop_num hz).2
  · exact hn.lt
theorem ford_self (m : Nat) : (ford m m != some .eq) = isN m := by
  cases h : isN m with
  | true => rw [ford_nan (.inl h)]; rfl
  | false => rw [ford_val h h, cmp3_self]; rfl
theorem ofInt_nat (m : Nat) (h : m < 18446744073709551616) : (BitVec.ofInt 64 (m : Int)).toNat = m := by
  rw [BitVec.toNat_ofInt]
  omega
theorem wrap_nat {m : Nat} (h : m < 18446744073709551616) : IntKind.u64.wrap (m : Int) = (m : Int) := wrap_u64 (by omega)
theorem and_bits {m n : Nat} (hm : m < 18446744073709551616) (hn : n < 18446744073709551616) : IntKind.u64.wrap (BitVec.ofInt IntKind.u64.bits (m : Int) &&& BitVec.ofInt IntKind.u64.bits (n : Int)).toNat = ((m &&& n : Nat) : Int) := by
  have h1 := ofInt_nat m hm
  have h2 := ofInt_nat n hn
  show IntKind.u64.wrap (((BitVec.ofInt 64 (m : Int) &&& BitVec.ofInt 64 (n : Int)).toNat : Nat) : Int) = _
  rw [BitVec.toNat_and, h1, h2]
  exact wrap_nat (Nat.lt_of_le_of_lt Nat.and_le_left hm)
theorem and_low {m : Nat} (hm : m < 18446744073709551616) : IntKind.u64.wrap (BitVec.ofInt IntKind.u64.bits (m : Int) &&& BitVec.ofInt IntKind.u64.bits 9223372036854775807).toNat = ((rg m : Nat) : Int) := by
  have := and_bits (n := 9223372036854775807) hm (by decide)
  rw [show m &&& 9223372036854775807 = rg m from Nat.and_two_pow_sub_one_eq_mod m 63] at this
  exact this
def isZ (b : Nat) : Bool := decide (rg b = 0)
theorem ford_zero (b : Nat) : (ford b 0 == some .eq) = isZ b := by
  cases h : isN b with
  | true =>
    rw [ford_nan (.inl h)]
    have : isZ b = false := by unfold isN at h; unfold isZ; simp at h ⊢; omega
    rw [this]; rfl
  | false =>
    rw [ford_val h (by decide)]
    have h0 : pc 0 = 0 := by decide
    rw [h0, cmp3, isZ]
    by_cases hz : rg b = 0
    · have : pc b = 0 := by unfold pc; split <;> omega
      rw [this]; simp [hz]
    · have : pc b ≠ 0 := by unfold pc; split <;> omega
      rw [if_neg this]; split <;> simp [hz] <;> decide
def divV (a b : Nat) : Nat := if isZ b then 0 else ansF (fop .quo a b)
def divE (b : Nat) : Int := if isZ b then 6 else 0
def ordI (x y : Int) : Int := if x < y then -1 else if x > y then 1 else 0
def ordered (a b : Nat) : Bool := !(isN a) && !(isN b)
def cmpF (a b : Nat) : Int := if ordered a b then ordI (pc a) (pc b) else 0
theorem ordered_some {a b : Nat} {o : Ordering} (h : (ford a b == some o) = true) : ordered a b = true := by
  unfold ordered
  cases ha : isN a with
  | true => rw [ford_nan (.inl ha)] at h; cases h
  | false =>
    cases hb : isN b with
    | true => rw [ford_nan (.inr hb)] at h; cases h
    | false => rfl
theorem ordered_val {a b : Nat} (h : ordered a b = true) : ford a b = some (cmp3 (pc a) (pc b)) := by
  unfold ordered at h
  simp at h
  exact ford_val h.1 h.2
theorem cmpF_lt {a b : Nat} (h : (ford a b == some .lt) = true) : cmpF a b = -1 := by
  have ho := ordered_some h
  rw [ordered_val ho] at h
  rw [cmpF, if_pos ho, ordI]
  unfold cmp3 at h
  split at h
  · rename_i h1; rw [if_pos h1]
  · split at h <;> cases h
theorem cmpF_gt {a b : Nat} (h : (ford a b == some .gt) = true) : cmpF a b = 1 := by
  have ho := ordered_some h
  rw [ordered_val ho] at h
  rw [cmpF, if_pos ho, ordI]
  unfold cmp3 at h
  split at h
  · cases h
  · split at h
    · cases h
    · rename_i h1 h2; rw [if_neg h1, if_pos (by omega)]
theorem cmpF_no {a b : Nat} (h : (ford a b == some .lt) = false) (h2 : (ford a b == some .gt) = false) : cmpF a b = 0 ∧ ordered a b = (ford a b == some .eq) := by
  cases ho : ordered a b with
  | true =>
    rw [ordered_val ho] at h h2 ⊢
    rw [cmpF, if_pos ho, ordI]
    rcases Int.lt_trichotomy (pc a) (pc b) with h1 | h1 | h1
    · rw [cmp3_lt h1] at h; cases h
    · rw [h1, cmp3_self]; exact ⟨by rw [if_neg (by omega), if_neg (by omega)], rfl⟩
    · rw [cmp3_gt h1] at h2; cases h2
  | false =>
    refine ⟨by rw [cmpF, if_neg (by rw [ho]; decide)], ?_⟩
    unfold ordered at ho
    cases ha : isN a with
    | true => rw [ford_nan (.inl ha)]; rfl
    | false =>
      cases hb : isN b with
      | true => rw [ford_nan (.inr hb)]; rfl
      | false => rw [ha, hb] at ho; cases ho
theorem eqI_nat {m n : Nat} : decide (m = n) = (((m : Nat) : Int) == ((n : Nat) : Int)) := by
  by_cases h : m = n
  · subst h; simp
  · have : ((m : Nat) : Int) ≠ ((n : Nat) : Int) := by omega
    simp [h, this]
section
variable (w : World)
/-! ### package real -/
theorem bare_any (m : Nat) : Calls Tryz.prog 57 #[.float .f64 m] w fun e w' => e = .returned (.int .u64 ((bareN m : Nat) : Int)) ∧ Below w.heap.size w w' := by
  refine calls_cw Tryz.func57 rfl Tryz.ntmps57 rfl ?_
  have HF : Per (No) w (fun _ => True) := Per.true_
  have LW := Ext.refl (No) w
  have XLW : ∀ q9, (No) q9 → (No) q9 ∨ w.heap.size ≤ q9 := fun _ h => Or.inl h
  have E := Ext.refl (No) w
  refine cw_seq ?_
  refine cw_region ?_
  refine rs_op rfl (ow_assign rfl ?_)
  refine rs_nil ?_
  refine ew_next ?_
  refine cw_seq ?_
  refine cw_seq ?_
  refine cw_region ?_
  refine rs_op rfl (ow_move rfl ?_)
  refine rs_op rfl (ow_move rfl ?_)
  refine rs_op rfl (ow_fneq rfl rfl ?_)
  refine rs_nil ?_
  refine ew_next ?_
  refine cw_set 5 (.bool (isN m)) rfl ((by rw [ford_self] : (.bool (ford m m != some .eq) : Value) = _)) ?_
  refine cw_cond rfl (fun h => ?_) (fun h => ?_)
  · have _way := True.intro
    refine cw_seq ?_
    refine cw_region ?_
    refine rs_op rfl (ow_assign rfl ?_)
    refine rs_nil ?_
    refine ew_next ?_
    refine cw_ret ?_
    refine ew_then_ret ?_
    refine ew_ret (rs := [.tmp 2]) (vs := [_]) rfl ⟨rfl, trivial⟩ ?_
    exact ⟨by rw [bareN, if_pos h]; rfl, (LW.step E XLW).toBelow⟩
  · have _way := True.intro
    refine cw_skip ?_
    refine ew_next ?_
    refine cw_seq ?_
    refine cw_region ?_
    refine rs_op rfl (ow_move rfl ?_)
    refine rs_op rfl (ow_bits ex59 rfl ?_)
    refine rs_op rfl (ow_assign rfl ?_)
    refine rs_nil ?_
    refine ew_next ?_
    refine cw_ret ?_
    refine ew_ret (rs := [.tmp 2]) (vs := [_]) rfl ⟨rfl, trivial⟩ ?_
    exact ⟨by rw [bareN, if_neg (by rw [h]; decide)]; rfl, (LW.step E XLW).toBelow⟩
section
variable (a b : Nat)
theorem cmp_any_r : Calls Tryz.prog 33 #[.int .u64 ((a : Nat) : Int), .int .u64 ((b : Nat) : Int)] w fun e w' => e = .returned (.tuple #[.int .i64 (cmpF a b), .bool (ordered a b)]) ∧ Below w.heap.size w w' := by
  refine calls_cw Tryz.func33 rfl Tryz.ntmps33 rfl ?_
  have HF : Per (No) w (fun _ => True) := Per.true_
  have LW := Ext.refl (No) w
  have XLW : ∀ q9, (No) q9 → (No) q9 ∨ w.heap.size ≤ q9 := fun _ h => Or.inl h
  have E := Ext.refl (No) w
  refine cw_seq ?_
  refine cw_region ?_
  refine rs_op rfl (ow_assign rfl ?_)
  refine rs_op rfl (ow_assign rfl ?_)
  refine rs_nil ?_
  refine ew_next ?_
  refine cw_seq ?_
  refine cw_region ?_
  refine rs_op rfl (ow_move rfl ?_)
  refine rs_op rfl (ow_frombits (b := a) ex60 rfl ?_)
  refine rs_op rfl (ow_move rfl ?_)
  refine rs_op rfl (ow_frombits (b := b) ex60 rfl ?_)
  refine rs_op rfl (ow_assign rfl ?_)
  refine rs_op rfl (ow_assign rfl ?_)
  refine rs_nil ?_
  refine ew_next ?_
  refine cw_seq ?_
  refine cw_block ?_
  refine cw_seq ?_
  refine cw_region ?_
  refine rs_op rfl (ow_move rfl ?_)
  refine rs_op rfl (ow_move rfl ?_)
  refine rs_op rfl (ow_flss rfl rfl ?_)
  refine rs_op rfl (ow_assign rfl ?_)
  refine rs_nil ?_
  refine ew_next ?_
  refine cw_cond rfl (fun h => ?_) (fun h => ?_)
  · have _way := True.intro
    refine cw_seq ?_
    refine cw_region ?_
    refine rs_op rfl (ow_assign rfl ?_)
    refine rs_op rfl (ow_assign rfl ?_)
    refine rs_nil ?_
    refine ew_next ?_
    refine cw_ret ?_
    refine ew_block_ret ?_
    refine ew_then_ret ?_
    refine ew_ret (rs := [.tmp 4, .tmp 5]) (vs := [_, _]) rfl ⟨rfl, rfl, trivial⟩ ?_
    exact ⟨by rw [cmpF_lt h, ordered_some h]; rfl, (LW.step E XLW).toBelow⟩
  · have _way := True.intro
    refine cw_seq ?_
    refine cw_region ?_
    refine rs_op rfl (ow_move rfl ?_)
    refine rs_op rfl (ow_move rfl ?_)
    refine rs_op rfl (ow_fgtr rfl rfl ?_)
    refine rs_op rfl (ow_assign rfl ?_)
    refine rs_nil ?_
    refine ew_next ?_
    refine cw_cond rfl (fun h2 => ?_) (fun h2 => ?_)
    · have _way := True.intro
      refine cw_seq ?_
      refine cw_region ?_
      refine rs_op rfl (ow_assign rfl ?_)
      refine rs_op rfl (ow_assign rfl ?_)
      refine rs_nil ?_
      refine ew_next ?_
      refine cw_ret ?_
      refine ew_block_ret ?_
      refine ew_then_ret ?_
      refine ew_ret (rs := [.tmp 4, .tmp 5]) (vs := [_, _]) rfl ⟨rfl, rfl, trivial⟩ ?_
      exact ⟨by rw [cmpF_gt h2, ordered_some h2]; rfl, (LW.step E XLW).toBelow⟩
    · have _way := True.intro
      refine cw_skip ?_
      refine ew_block_normal ?_
      refine ew_next ?_
      refine cw_seq ?_
      refine cw_region ?_
      refine rs_op rfl (ow_move rfl ?_)
      refine rs_op rfl (ow_move rfl ?_)
      refine rs_op rfl (ow_feql rfl rfl ?_)
      refine rs_op rfl (ow_assign rfl ?_)
      refine rs_op rfl (ow_assign rfl ?_)
      refine rs_nil ?_
      refine ew_next ?_
      refine cw_ret ?_
      refine ew_ret (rs := [.tmp 4, .tmp 5]) (vs := [_, _]) rfl ⟨rfl, rfl, trivial⟩ ?_
      exact ⟨by rw [(cmpF_no h h2).1, (cmpF_no h h2).2]; rfl, (LW.step E XLW).toBelow⟩
end
end
/-! ### the document's -/
section
variable (w : World)
section
variable (a : Nat) (ha : a < 18446744073709551616)
include ha
theorem isnan_any : Calls Tryz.prog 18 #[.int .u64 ((a : Nat) : Int)] w fun e w' => e = .returned (.bool (isN a)) ∧ Below w.heap.size w w' := by
  refine calls_cw Tryz.func18 rfl Tryz.ntmps18 rfl ?_
  have HF : Per (No) w (fun _ => True) := Per.true_
  have LW := Ext.refl (No) w
  have XLW : ∀ q9, (No) q9 → (No) q9 ∨ w.heap.size ≤ q9 := fun _ h => Or.inl h
  have E := Ext.refl (No) w
  refine cw_seq ?_
  refine cw_region ?_
  refine rs_op rfl (ow_assign rfl ?_)
  refine rs_nil ?_
  refine ew_next ?_
  refine cw_seq ?_
  refine cw_region ?_
  refine rs_op rfl (ow_move rfl ?_)
  refine rs_op rfl (ow_and rfl rfl (and_low ha) ?_)
  refine rs_op rfl (ow_gtr rfl rfl ?_)
  refine rs_op rfl (ow_assign rfl ?_)
  refine rs_nil ?_
  refine ew_next ?_
  refine cw_ret ?_
  refine ew_ret (rs := [.tmp 2]) (vs := [_]) rfl ⟨rfl, trivial⟩ ?_
  exact ⟨by rw [show isN a = decide (((rg a : Nat) : Int) > 9218868437227405312) from by unfold isN; congr 1; apply propext; omega]; rfl, (LW.step E XLW).toBelow⟩
theorem isinf_any : Calls Tryz.prog 34 #[.int .u64 ((a : Nat) : Int)] w fun e w' => e = .returned (.bool (decide (rg a = 9218868437227405312))) ∧ Below w.heap.size w w' := by
  refine calls_cw Tryz.func34 rfl Tryz.ntmps34 rfl ?_
  have HF : Per (No) w (fun _ => True) := Per.true_
  have LW := Ext.refl (No) w
  have XLW : ∀ q9, (No) q9 → (No) q9 ∨ w.heap.size ≤ q9 := fun _ h => Or.inl h
  have E := Ext.refl (No) w
  refine cw_seq ?_
  refine cw_region ?_
  refine rs_op rfl (ow_assign rfl ?_)
  refine rs_nil ?_
  refine ew_next ?_
  refine cw_seq ?_
  refine cw_region ?_
  refine rs_op rfl (ow_move rfl ?_)
  refine rs_op rfl (ow_and rfl rfl (and_low ha) ?_)
  refine rs_op rfl (ow_eql rfl rfl ?_)
  refine rs_op rfl (ow_assign rfl ?_)
  refine rs_nil ?_
  refine ew_next ?_
  refine cw_ret ?_
  refine ew_ret (rs := [.tmp 2]) (vs := [_]) rfl ⟨rfl, trivial⟩ ?_
  exact ⟨by rw [eqI_nat (n := 9218868437227405312)]; rfl, (LW.step E XLW).toBelow⟩
theorem iszero_any : Calls Tryz.prog 35 #[.int .u64 ((a : Nat) : Int)] w fun e w' => e = .returned (.bool (isZ a)) ∧ Below w.heap.size w w' := by
  refine calls_cw Tryz.func35 rfl Tryz.ntmps35 rfl ?_
  have HF : Per (No) w (fun _ => True) := Per.true_
  have LW := Ext.refl (No) w
  have XLW : ∀ q9, (No) q9 → (No) q9 ∨ w.heap.size ≤ q9 := fun _ h => Or.inl h
  have E := Ext.refl (No) w
  refine cw_seq ?_
  refine cw_region ?_
  refine rs_op rfl (ow_assign rfl ?_)
  refine rs_nil ?_
  refine ew_next ?_
  refine cw_seq ?_
  refine cw_region ?_
  refine rs_op rfl (ow_move rfl ?_)
  refine rs_op rfl (ow_and rfl rfl (and_low ha) ?_)
  refine rs_op rfl (ow_eql rfl rfl ?_)
  refine rs_op rfl (ow_assign rfl ?_)
  refine rs_nil ?_
  refine ew_next ?_
  refine cw_ret ?_
  refine ew_ret (rs := [.tmp 2]) (vs := [_]) rfl ⟨rfl, trivial⟩ ?_
  exact ⟨by rw [isZ, eqI_nat (n := 0)]; rfl, (LW.step E XLW).toBelow⟩
theorem below_any_r : Calls Tryz.prog 48 #[.int .u64 ((a : Nat) : Int)] w fun e w' => e = .returned (.bool (ng a)) ∧ Below w.heap.size w w' := by
  refine calls_cw Tryz.func48 rfl Tryz.ntmps48 rfl ?_
  have HF : Per (No) w (fun _ => True) := Per.true_
  have LW := Ext.refl (No) w
  have XLW : ∀ q9, (No) q9 → (No) q9 ∨ w.heap.size ≤ q9 := fun _ h => Or.inl h
  have E := Ext.refl (No) w
  refine cw_seq ?_
  refine cw_region ?_
  refine rs_op rfl (ow_assign rfl ?_)
  refine rs_nil ?_
  refine ew_next ?_
  refine cw_seq ?_
  refine cw_region ?_
  refine rs_op rfl (ow_move rfl ?_)
  refine rs_op rfl (ow_geq rfl rfl ?_)
  refine rs_op rfl (ow_assign rfl ?_)
  refine rs_nil ?_
  refine ew_next ?_
  refine cw_ret ?_
  refine ew_ret (rs := [.tmp 2]) (vs := [_]) rfl ⟨rfl, trivial⟩ ?_
  exact ⟨by rw [ng_of ha, show decide (9223372036854775808 ≤ a) = decide (((a : Nat) : Int) ≥ 9223372036854775808) from by congr 1; apply propext; omega]; rfl, (LW.step E XLW).toBelow⟩
end
section
variable (a b : Nat) (ha : a < 18446744073709551616) (hb : b < 18446744073709551616)
include ha hb
end
end
end Go.Proofs.YtljndllhmdpjlaaGreatDoor
namespace Go.Proofs.YtljndllhmdpjlaaGreatDoor
open Go.RowKit
set_option maxRecDepth 100000
theorem ofInt_cast (m : Nat) : BitVec.ofInt 64 ((m : Nat) : Int) = BitVec.ofNat 64 m := BitVec.ofInt_natCast 64 m
theorem andNot_sign {a : Nat} (ha : a < 18446744073709551616) : IntKind.u64.wrap (BitVec.ofInt IntKind.u64.bits ((a : Nat) : Int) &&& ~~~BitVec.ofInt IntKind.u64.bits 9223372036854775808).toNat = ((rg a : Nat) : Int) := by
  have h := andNot_sign_nat ha
  show IntKind.u64.wrap (((BitVec.ofInt 64 ((a : Nat) : Int) &&& ~~~BitVec.ofInt 64 ((9223372036854775808 : Nat) : Int)).toNat : Nat) : Int) = _
  rw [ofInt_cast, ofInt_cast, h]
  exact wrap_nat (Nat.lt_trans (rg_lt a) (by decide))
theorem andNot_exp {a : Nat} (ha : a < 18446744073709551616) : IntKind.u64.wrap (BitVec.ofInt IntKind.u64.bits ((a : Nat) : Int) &&& ~~~BitVec.ofInt IntKind.u64.bits 9218868437227405312).toNat = ((a / 9223372036854775808 * 9223372036854775808 + a % 4503599627370496 : Nat) : Int) := by
  have h := andNot_exp_nat ha
  show IntKind.u64.wrap (((BitVec.ofInt 64 ((a : Nat) : Int) &&& ~~~BitVec.ofInt 64 ((9218868437227405312 : Nat) : Int)).toNat : Nat) : Int) = _
  rw [ofInt_cast, ofInt_cast, h]
  exact wrap_nat (by omega)
theorem or_bits {m n : Nat} (hm : m < 18446744073709551616) (hn : n < 18446744073709551616) : IntKind.u64.wrap (BitVec.ofInt IntKind.u64.bits (m : Int) ||| BitVec.ofInt IntKind.u64.bits (n : Int)).toNat = ((m ||| n : Nat) : Int) := by
  have h1 := ofInt_nat m hm
  have h2 := ofInt_nat n hn
  show IntKind.u64.wrap (((BitVec.ofInt 64 (m : Int) ||| BitVec.ofInt 64 (n : Int)).toNat : Nat) : Int) = _
  rw [BitVec.toNat_or, h1, h2]
  exact wrap_nat (Nat.or_lt_two_pow (n := 64) (by omega) (by omega))
theorem and_sign {a : Nat} (ha : a < 18446744073709551616) : IntKind.u64.wrap (BitVec.ofInt IntKind.u64.bits ((a : Nat) : Int) &&& BitVec.ofInt IntKind.u64.bits 9223372036854775808).toNat = ((if ng a then 9223372036854775808 else 0 : Nat) : Int) := by
  have := and_bits (n := 9223372036854775808) ha (by decide)
  rw [and_sign_nat a ha] at this
  exact this
theorem isN_rg (a : Nat) : isN (rg a) = isN a := by unfold isN rg; rw [Nat.mod_mod]
theorem rg_rg (a : Nat) : rg (rg a) = rg a := Nat.mod_mod _ _
theorem ng_rg (a : Nat) : ng (rg a) = false := by
  have := rg_lt a
  unfold ng
  rw [Nat.div_eq_of_lt this]
  rfl
theorem pc_rg (a : Nat) : pc (rg a) = ((rg a : Nat) : Int) := by rw [pc, ng_rg, rg_rg]; rfl
theorem ford_rg {a c : Nat} (ha : isN a = false) (hc : isN c = false) : ford (rg a) (rg c) = some (cmp3 ((rg a : Nat) : Int) ((rg c : Nat) : Int)) := by
  rw [ford_val (by rw [isN_rg]; exact ha) (by rw [isN_rg]; exact hc), pc_rg, pc_rg]
theorem isinf_cond (a : Nat) : (ford (rg a) 9218868437227405311 == some .gt) = decide (rg a = 9218868437227405312) := by
  cases h : isN a with
  | true =>
    rw [ford_nan (.inl (by rw [isN_rg]; exact h))]
    have : ¬ rg a = 9218868437227405312 := by have := of_decide_eq_true h; omega
    rw [decide_eq_false this]; rfl
  | false =>
    have h2 := ford_rg (c := 9218868437227405311) h (by decide)
    rw [show rg 9218868437227405311 = 9218868437227405311 from by decide] at h2
    have h3 : ¬ 9218868437227405312 < rg a := of_decide_eq_false h
    rw [h2]
    by_cases h4 : rg a = 9218868437227405312
    · rw [h4]; decide
    · rw [decide_eq_false h4, cmp3]
      split
      · rfl
      · split
        · rfl
        · omega
theorem sub_cond {a : Nat} (h : isN a = false) : (ford (rg a) 4503599627370496 == some .lt) = decide (rg a < 4503599627370496) := by
  have h2 := ford_rg (c := 4503599627370496) h (by decide)
  rw [show rg 4503599627370496 = 4503599627370496 from by decide] at h2
  rw [h2]
  by_cases h4 : rg a < 4503599627370496
  · rw [decide_eq_true h4, cmp3_lt (by omega)]; rfl
  · rw [decide_eq_false h4, cmp3, if_neg (by omega)]
    split <;> rfl
section
variable (w : World) (a : Nat) (ha : a < 18446744073709551616)
include ha
theorem abs_any : Calls Tryz.prog 71 #[.float .f64 a] w fun e w' => e = .returned (.float .f64 (rg a)) ∧ Below w.heap.size w w' := by
  refine calls_cw Tryz.func71 rfl Tryz.ntmps71 rfl ?_
  have HF : Per (No) w (fun _ => True) := Per.true_
  have LW := Ext.refl (No) w
  have XLW : ∀ q9, (No) q9 → (No) q9 ∨ w.heap.size ≤ q9 := fun _ h => Or.inl h
  have E := Ext.refl (No) w
  refine cw_seq ?_
  refine cw_region ?_
  refine rs_op rfl (ow_assign rfl ?_)
  refine rs_nil ?_
  refine ew_next ?_
  refine cw_seq ?_
  refine cw_region ?_
  refine rs_op rfl (ow_move rfl ?_)
  refine rs_op rfl (ow_bits ex59 rfl ?_)
  refine rs_op rfl (ow_andNot rfl rfl (andNot_sign ha) ?_)
  refine rs_op rfl (ow_frombits (b := rg a) ex60 rfl ?_)
  refine rs_op rfl (ow_assign rfl ?_)
  refine rs_nil ?_
  refine ew_next ?_
  refine cw_ret ?_
  refine ew_ret (rs := [.tmp 2]) (vs := [_]) rfl ⟨rfl, trivial⟩ ?_
  exact ⟨rfl, (LW.step E XLW).toBelow⟩
theorem misinf_any : Calls Tryz.prog 61 #[.float .f64 a, .int .i64 0] w fun e w' => e = .returned (.bool (decide (rg a = 9218868437227405312))) ∧ Below w.heap.size w w' := by
  refine calls_cw Tryz.func61 rfl Tryz.ntmps61 rfl ?_
  have HF : Per (No) w (fun _ => True) := Per.true_
  have LW := Ext.refl (No) w
  have XLW : ∀ q9, (No) q9 → (No) q9 ∨ w.heap.size ≤ q9 := fun _ h => Or.inl h
  have E := Ext.refl (No) w
  refine cw_seq ?_
  refine cw_region ?_
  refine rs_op rfl (ow_assign rfl ?_)
  refine rs_nil ?_
  refine ew_next ?_
  refine cw_seq ?_
  refine cw_seq ?_
  refine cw_region ?_
  refine rs_op rfl (ow_move rfl ?_)
  refine rs_op rfl (ow_eql rfl rfl ?_)
  refine rs_nil ?_
  refine ew_next ?_
  refine cw_then rfl ?_
  refine cw_region ?_
  refine rs_op rfl (ow_move rfl ?_)
  refine rs_op rfl (ow_enter en71 rfl ((abs_any _ a ha).mono ?_))
  rintro e w1 ⟨rfl, hb⟩
  refine ⟨_, rfl, ?_⟩
  have Ec := Ext.of_below hb No
  replace E := E.trans Ec.no
  clear hb Ec
  refine rs_op rfl (ow_assign rfl ?_)
  refine rs_nil ?_
  refine ew_next ?_
  refine cw_seq ?_
  refine cw_region ?_
  refine rs_op rfl (ow_move rfl ?_)
  refine rs_op rfl (ow_fgtr rfl rfl ?_)
  refine rs_op rfl (ow_assign rfl ?_)
  refine rs_nil ?_
  refine ew_next ?_
  refine cw_ret ?_
  refine ew_ret (rs := [.tmp 4]) (vs := [_]) rfl ⟨rfl, trivial⟩ ?_
  exact ⟨by rw [← isinf_cond]; rfl, (LW.step E XLW).toBelow⟩
omit ha in
theorem misnan_any : Calls Tryz.prog 138 #[.float .f64 a] w fun e w' => e = .returned (.bool (isN a)) ∧ Below w.heap.size w w' := by
  refine calls_cw Tryz.func138 rfl Tryz.ntmps138 rfl ?_
  have HF : Per (No) w (fun _ => True) := Per.true_
  have LW := Ext.refl (No) w
  have XLW : ∀ q9, (No) q9 → (No) q9 ∨ w.heap.size ≤ q9 := fun _ h => Or.inl h
  have E := Ext.refl (No) w
  refine cw_seq ?_
  refine cw_region ?_
  refine rs_op rfl (ow_assign rfl ?_)
  refine rs_nil ?_
  refine ew_next ?_
  refine cw_seq ?_
  refine cw_region ?_
  refine rs_op rfl (ow_move rfl ?_)
  refine rs_op rfl (ow_move rfl ?_)
  refine rs_op rfl (ow_fneq rfl rfl ?_)
  refine rs_op rfl (ow_assign rfl ?_)
  refine rs_nil ?_
  refine ew_next ?_
  refine cw_ret ?_
  refine ew_ret (rs := [.tmp 2]) (vs := [_]) rfl ⟨rfl, trivial⟩ ?_
  exact ⟨by rw [← ford_self]; rfl, (LW.step E XLW).toBelow⟩
theorem copysign_any (b : Nat) (hb : b < 18446744073709551616) : Calls Tryz.prog 56 #[.float .f64 a, .float .f64 b] w fun e w' => e = .returned (.float .f64 (Ieee.double.word (ng b) (rg a))) ∧ Below w.heap.size w w' := by
  have hr := rg_lt a
  have ho : (rg a ||| (if ng b then 9223372036854775808 else 0 : Nat)) = Ieee.double.word (ng b) (rg a) := by
    unfold Ieee.Format.word
    rw [c1]
    split
    · rw [Nat.or_comm]; exact or_add 63 hr rfl
    · exact Nat.or_zero _
  have hs : (if ng b then 9223372036854775808 else 0 : Nat) < 18446744073709551616 := by split <;> decide
  refine calls_cw Tryz.func56 rfl Tryz.ntmps56 rfl ?_
  have HF : Per (No) w (fun _ => True) := Per.true_
  have LW := Ext.refl (No) w
  have XLW : ∀ q9, (No) q9 → (No) q9 ∨ w.heap.size ≤ q9 := fun _ h => Or.inl h
  have E := Ext.refl (No) w
  refine cw_seq ?_
  refine cw_region ?_
  refine rs_op rfl (ow_assign rfl ?_)
  refine rs_nil ?_
  refine ew_next ?_
  refine cw_seq ?_
  refine cw_region ?_
  refine rs_op rfl (ow_move rfl ?_)
  refine rs_op rfl (ow_bits ex59 rfl ?_)
  refine rs_op rfl (ow_andNot rfl rfl (andNot_sign ha) ?_)
  refine rs_op rfl (ow_move rfl ?_)
  refine rs_op rfl (ow_bits ex59 rfl ?_)
  refine rs_op rfl (ow_and rfl rfl (and_sign hb) ?_)
  refine rs_op rfl (ow_or rfl rfl (or_bits (Nat.lt_trans hr (by decide)) hs) ?_)
  refine rs_op rfl (ow_frombits (b := rg a ||| (if ng b then 9223372036854775808 else 0 : Nat)) ex60 rfl ?_)
  refine rs_op rfl (ow_assign rfl ?_)
  refine rs_nil ?_
  refine ew_next ?_
  refine cw_ret ?_
  refine ew_ret (rs := [.tmp 4]) (vs := [_]) rfl ⟨rfl, trivial⟩ ?_
  exact ⟨by rw [← ho]; rfl, (LW.step E XLW).toBelow⟩
end
end Go.Proofs.YtljndllhmdpjlaaGreatDoor
namespace Go.Proofs.YtljndllhmdpjlaaGreatDoor
open Go.RowKit
set_option maxRecDepth 100000
theorem word_self {a : Nat} (ha : a < 18446744073709551616) : Ieee.double.word (ng a) (rg a) = a := by
  obtain ⟨h1, h2, h3⟩ := word_rg (ng a) (rg a) (rg_lt a)
  exact rg_ng_inj h3 ha h1 h2
def nzB (a : Nat) : Nat := Ieee.double.word (ng a) (nr (rg a))
def nzE (a : Nat) : Int := if rg a < 4503599627370496 then -52 else 0
theorem nzB_big {a : Nat} (ha : a < 18446744073709551616) (h : ¬ rg a < 4503599627370496) : nzB a = a := by
  rw [nzB, nr, if_neg h]; exact word_self ha
theorem nzB_lt {a : Nat} (h0 : rg a ≠ 0) (hf : rg a < 9218868437227405312) : nzB a < 18446744073709551616 := (word_rg (ng a) (nr (rg a)) (Nat.lt_trans (nr_high h0 hf) (by decide))).2.2
theorem FRes.some {z : Option Nat} {r q : Nat} {w w' : World} (h : FRes z r w w') (hz : z = some q) : r = q := by
  rcases h with ⟨h1, _⟩ | ⟨h1, _⟩
  · rw [hz] at h1; exact (Option.some.inj h1).symm
  · rw [hz] at h1; cases h1
theorem isN_fin {a : Nat} (hf : rg a < 9218868437227405312) : isN a = false := decide_eq_false (by omega)
theorem shr52 (m : Nat) : ((m : Nat) : Int).fdiv (2 ^ (min (52 : Int).toNat IntKind.u64.bits)) = ((m / 4503599627370496 : Nat) : Int) := by
  show ((m : Nat) : Int).fdiv (2 ^ 52) = _
  rw [show (2 : Int) ^ 52 = ((4503599627370496 : Nat) : Int) from rfl, Int.fdiv_eq_ediv_of_nonneg _ (by omega)]
  rfl
theorem and_2047 {m : Nat} (hm : m < 18446744073709551616) : IntKind.u64.wrap (BitVec.ofInt IntKind.u64.bits ((m : Nat) : Int) &&& BitVec.ofInt IntKind.u64.bits 2047).toNat = ((m % 2048 : Nat) : Int) := by
  have := and_bits (n := 2047) hm (by decide)
  rw [show m &&& 2047 = m % 2048 from Nat.and_two_pow_sub_one_eq_mod m 11] at this
  exact this
theorem word_parts (s : Bool) {r : Nat} (hr : r < 9218868437227405312) : Ieee.double.word s r / 4503599627370496 % 2048 = r / 4503599627370496 ∧ Ieee.double.word s r / 9223372036854775808 * 9223372036854775808 + Ieee.double.word s r % 4503599627370496 = Ieee.double.word s (r % 4503599627370496) := by
  unfold Ieee.Format.word
  rw [c1]
  cases s
  · simp only [Bool.false_eq_true, if_false]; omega
  · simp only [if_true]; omega
theorem frac_or {f x : Nat} (hf : f < 4503599627370496) (hx : x % 4503599627370496 = 0) : f ||| x = x + f := by
  rw [Nat.or_comm]; exact or_add 52 hf hx
theorem frac_word (s : Bool) {f x : Nat} (hf : f < 4503599627370496) (hx : x % 4503599627370496 = 0) (hl : x + f < 9223372036854775808) : Ieee.double.word s f ||| x = Ieee.double.word s (x + f) := by
  have h1 := frac_or hf hx
  unfold Ieee.Format.word
  rw [c1]
  cases s
  · exact h1
  · show (9223372036854775808 + f) ||| x = 9223372036854775808 + (x + f)
    rw [← or_add 63 (a := 9223372036854775808) (b := f) (Nat.lt_trans hf (by decide)) rfl, Nat.or_assoc, h1]
    exact or_add 63 hl rfl
section
variable (w : World) (a : Nat) (ha : a < 18446744073709551616) (h0 : rg a ≠ 0) (hf : rg a < 9218868437227405312)
include ha h0 hf
theorem normalize_any : Calls Tryz.prog 139 #[.float .f64 a] w fun e w' => e = .returned (.tuple #[.float .f64 (nzB a), .int .i64 (nzE a)]) ∧ Below w.heap.size w w' := by
  refine calls_cw Tryz.func139 rfl Tryz.ntmps139 rfl ?_
  have HF : Per (No) w (fun _ => True) := Per.true_
  have LW := Ext.refl (No) w
  have XLW : ∀ q9, (No) q9 → (No) q9 ∨ w.heap.size ≤ q9 := fun _ h => Or.inl h
  have E := Ext.refl (No) w
  refine cw_seq ?_
  refine cw_region ?_
  refine rs_op rfl (ow_assign rfl ?_)
  refine rs_op rfl (ow_assign rfl ?_)
  refine rs_nil ?_
  refine ew_next ?_
  refine cw_seq ?_
  refine cw_seq ?_
  refine cw_region ?_
  refine rs_op rfl (ow_move rfl ?_)
  refine rs_op rfl (ow_enter en71 rfl ((abs_any _ a ha).mono ?_))
  rintro e w1 ⟨rfl, hb⟩
  refine ⟨_, rfl, ?_⟩
  have Ec := Ext.of_below hb No
  replace E := E.trans Ec.no
  clear hb Ec
  refine rs_op rfl (ow_flss rfl rfl ?_)
  refine rs_nil ?_
  refine ew_next ?_
  refine cw_set 6 (.bool (decide (rg a < 4503599627370496))) rfl ((by rw [sub_cond (isN_fin hf)] : (.bool (ford (rg a) 4503599627370496 == some .lt) : Value) = _)) ?_
  refine cw_cond rfl (fun h => ?_) (fun h => ?_)
  · have _way := True.intro
    refine cw_seq ?_
    refine cw_region ?_
    refine rs_op rfl (ow_move rfl ?_)
    refine rs_op rfl (ow_float (m := a) (n := 4841369599423283200) (.inr (.inr (.inl rfl))) rfl rfl ?_)
    intro r w2 hr
    have Ec := hr.ext
    replace E := E.trans Ec.no
    clear Ec
    refine rs_op rfl (ow_assign rfl ?_)
    refine rs_op rfl (ow_assign rfl ?_)
    refine rs_nil ?_
    refine ew_next ?_
    refine cw_ret ?_
    refine ew_then_ret ?_
    refine ew_ret (rs := [.tmp 2, .tmp 3]) (vs := [_, _]) rfl ⟨rfl, rfl, trivial⟩ ?_
    exact ⟨by rw [hr.some (normalize_mul h0 (of_decide_eq_true h)), nzE, if_pos (of_decide_eq_true h)]; rfl, (LW.step E XLW).toBelow⟩
  · have _way := True.intro
    refine cw_skip ?_
    refine ew_next ?_
    refine cw_seq ?_
    refine cw_region ?_
    refine rs_op rfl (ow_move rfl ?_)
    refine rs_op rfl (ow_assign rfl ?_)
    refine rs_op rfl (ow_assign rfl ?_)
    refine rs_nil ?_
    refine ew_next ?_
    refine cw_ret ?_
    refine ew_ret (rs := [.tmp 2, .tmp 3]) (vs := [_, _]) rfl ⟨rfl, rfl, trivial⟩ ?_
    exact ⟨by rw [nzB_big ha (of_decide_eq_false h), nzE, if_neg (of_decide_eq_false h)]; rfl, (LW.step E XLW).toBelow⟩
theorem frexp_num : Calls Tryz.prog 106 #[.float .f64 a] w fun e w' => e = .returned (.tuple #[.float .f64 (frF a), .int .i64 (frE a)]) ∧ Below w.heap.size w w' := by
  have hz : isZ a = false := decide_eq_false h0
  have hinf : decide (rg a = 9218868437227405312) = false := decide_eq_false (by omega)
  have hn := isN_fin hf
  have hlt := nzB_lt h0 hf
  have hlow := nr_low h0
  have hhigh := nr_high h0 hf
  obtain ⟨hp1, hp2⟩ := word_parts (ng a) hhigh
  have hex : nr (rg a) / 4503599627370496 = ex (nr (rg a)) + 1 := by unfold ex; rw [if_neg (by omega)]; omega
  have hmg : mg (nr (rg a)) = 4503599627370496 + nr (rg a) % 4503599627370496 := by unfold mg; rw [if_neg (by omega)]
  have hexb : ex (nr (rg a)) ≤ 2045 := by omega
  have hfl : nr (rg a) % 4503599627370496 < 4503599627370496 := Nat.mod_lt _ (by decide)
  have hnze : nzE a = 0 ∨ nzE a = -52 := by unfold nzE; split <;> simp
  have hfw : Ieee.double.word (ng a) (nr (rg a) % 4503599627370496) < 18446744073709551616 := (word_rg _ _ (by omega)).2.2
  have hor := frac_word (ng a) (x := 4602678819172646912) hfl (by decide) (by omega)
  have hfrF : Ieee.double.word (ng a) (4602678819172646912 + nr (rg a) % 4503599627370496) = frF a := by rw [frF, hmg, Nat.add_sub_cancel_left]
  have hfrE : nzE a + (((ex (nr (rg a)) + 1 : Nat) : Int) - 1023 + 1) = frE a := by
    unfold nzE frE
    split <;> omega
  refine calls_cw Tryz.func106 rfl Tryz.ntmps106 rfl ?_
  have HF : Per (No) w (fun _ => True) := Per.true_
  have LW := Ext.refl (No) w
  have XLW : ∀ q9, (No) q9 → (No) q9 ∨ w.heap.size ≤ q9 := fun _ h => Or.inl h
  have E := Ext.refl (No) w
  refine cw_seq ?_
  refine cw_region ?_
  refine rs_op rfl (ow_assign rfl ?_)
  refine rs_op rfl (ow_assign rfl ?_)
  refine rs_nil ?_
  refine ew_next ?_
  refine cw_seq ?_
  refine cw_block ?_
  refine cw_seq ?_
  refine cw_region ?_
  refine rs_op rfl (ow_move rfl ?_)
  refine rs_op rfl (ow_feql rfl rfl ?_)
  refine rs_op rfl (ow_assign rfl ?_)
  refine rs_nil ?_
  refine ew_next ?_
  refine cw_set 5 (.bool false) rfl ((by rw [ford_zero, hz] : (.bool (ford a 0 == some .eq) : Value) = _)) ?_
  refine cw_else rfl ?_
  refine cw_seq ?_
  refine cw_region ?_
  refine rs_op rfl (ow_move rfl ?_)
  refine rs_op rfl (ow_enter en61 rfl ((misinf_any _ a ha).mono ?_))
  rintro e w1 ⟨rfl, hb⟩
  refine ⟨_, rfl, ?_⟩
  have Ec := Ext.of_below hb No
  replace E := E.trans Ec.no
  clear hb Ec
  refine rs_set 11 (.bool false) rfl ((by rw [hinf] : (.bool (decide (rg a = 9218868437227405312)) : Value) = _)) ?_
  refine rs_op rfl (ow_move rfl ?_)
  refine rs_op rfl (ow_on rfl (ow_move rfl ?_))
  refine rs_op rfl (ow_on rfl (ow_enter en138 rfl ((misnan_any _ a).mono ?_)))
  rintro e w2 ⟨rfl, hb⟩
  refine ⟨_, rfl, ?_⟩
  have Ec := Ext.of_below hb No
  replace E := E.trans Ec.no
  clear hb Ec
  refine rs_set 14 (.bool false) rfl ((by rw [hn] : (.bool (isN a) : Value) = _)) ?_
  refine rs_op rfl (ow_pickF rfl rfl ?_)
  refine rs_op rfl (ow_assign rfl ?_)
  refine rs_nil ?_
  refine ew_next ?_
  refine cw_else rfl ?_
  refine cw_skip ?_
  refine ew_block_normal ?_
  refine ew_next ?_
  refine cw_seq ?_
  refine cw_region ?_
  refine rs_op rfl (ow_move rfl ?_)
  refine rs_op rfl (ow_enter en139 rfl ((normalize_any _ a ha h0 hf).mono ?_))
  rintro e w3 ⟨rfl, hb⟩
  refine ⟨_, rfl, ?_⟩
  have Ec := Ext.of_below hb No
  replace E := E.trans Ec.no
  clear hb Ec
  refine rs_op rfl (ow_move rfl ?_)
  refine rs_op rfl (ow_extract rfl rfl ?_)
  refine rs_op rfl (ow_extract rfl rfl ?_)
  refine rs_op rfl (ow_assign rfl ?_)
  refine rs_op rfl (ow_assign rfl ?_)
  refine rs_nil ?_
  refine ew_next ?_
  refine cw_seq ?_
  refine cw_region ?_
  refine rs_op rfl (ow_move rfl ?_)
  refine rs_op rfl (ow_bits ex59 rfl ?_)
  refine rs_op rfl (ow_assign rfl ?_)
  refine rs_nil ?_
  refine ew_next ?_
  refine cw_seq ?_
  refine cw_region ?_
  refine rs_op rfl (ow_move rfl ?_)
  refine rs_op rfl (ow_move rfl ?_)
  refine rs_op rfl (ow_shr rfl rfl (by decide) (shr52 (nzB a)) ?_)
  refine rs_op rfl (ow_and rfl rfl (and_2047 (by omega)) ?_)
  refine rs_set 27 (.int .u64 ((ex (nr (rg a)) + 1 : Nat) : Int)) rfl ((by rw [show nzB a / 4503599627370496 % 2048 = _ from hp1, hex] : (.int .u64 ((nzB a / 4503599627370496 % 2048 : Nat) : Int) : Value) = _)) ?_
  refine rs_op rfl (ow_conv Tryz.underlying3 Tryz.underlying22 rfl (wrap_i64 (by omega)) ?_)
  refine rs_op rfl (ow_sub rfl rfl (wrap_i64 (by omega)) ?_)
  refine rs_op rfl (ow_add rfl rfl (wrap_i64 (by omega)) ?_)
  refine rs_op rfl (ow_add rfl rfl (wrap_i64 (by omega)) ?_)
  refine rs_op rfl (ow_assign rfl ?_)
  refine rs_nil ?_
  refine ew_next ?_
  refine cw_seq ?_
  refine cw_region ?_
  refine rs_op rfl (ow_move rfl ?_)
  refine rs_op rfl (ow_andNot rfl rfl (andNot_exp hlt) ?_)
  refine rs_set 33 (.int .u64 ((Ieee.double.word (ng a) (nr (rg a) % 4503599627370496) : Nat) : Int)) rfl ((by rw [show nzB a / 9223372036854775808 * 9223372036854775808 + nzB a % 4503599627370496 = _ from hp2] : (.int .u64 ((nzB a / 9223372036854775808 * 9223372036854775808 + nzB a % 4503599627370496 : Nat) : Int) : Value) = _)) ?_
  refine rs_op rfl (ow_assign rfl ?_)
  refine rs_nil ?_
  refine ew_next ?_
  refine cw_seq ?_
  refine cw_region ?_
  refine rs_op rfl (ow_move rfl ?_)
  refine rs_op rfl (ow_or rfl rfl (or_bits (n := 4602678819172646912) hfw (by decide)) ?_)
  refine rs_set 35 (.int .u64 ((frF a : Nat) : Int)) rfl ((by rw [show Ieee.double.word (ng a) (nr (rg a) % 4503599627370496) ||| 4602678819172646912 = frF a from hor.trans hfrF] : (.int .u64 ((Ieee.double.word (ng a) (nr (rg a) % 4503599627370496) ||| 4602678819172646912 : Nat) : Int) : Value) = _)) ?_
  refine rs_op rfl (ow_assign rfl ?_)
  refine rs_nil ?_
  refine ew_next ?_
  refine cw_seq ?_
  refine cw_region ?_
  refine rs_op rfl (ow_move rfl ?_)
  refine rs_op rfl (ow_frombits (b := frF a) ex60 rfl ?_)
  refine rs_op rfl (ow_assign rfl ?_)
  refine rs_nil ?_
  refine ew_next ?_
  refine cw_ret ?_
  refine ew_ret (rs := [.tmp 2, .tmp 3]) (vs := [_, _]) rfl ⟨rfl, rfl, trivial⟩ ?_
  exact ⟨by rw [← hfrE]; rfl, (LW.step E XLW).toBelow⟩
end
end Go.Proofs.YtljndllhmdpjlaaGreatDoor
namespace Go.Proofs.YtljndllhmdpjlaaGreatDoor
open Go.RowKit
set_option maxRecDepth 100000
theorem and_2047i {m : Nat} (hm : m < 18446744073709551616) : IntKind.i64.wrap (BitVec.ofInt IntKind.i64.bits ((m : Nat) : Int) &&& BitVec.ofInt IntKind.i64.bits 2047).toNat = ((m % 2048 : Nat) : Int) := by
  have h1 := ofInt_nat m hm
  have h2 := ofInt_nat 2047 (by decide)
  show IntKind.i64.wrap (((BitVec.ofInt 64 (m : Int) &&& BitVec.ofInt 64 ((2047 : Nat) : Int)).toNat : Nat) : Int) = _
  rw [BitVec.toNat_and, h1, h2, show m &&& 2047 = m % 2048 from Nat.and_two_pow_sub_one_eq_mod m 11]
  exact wrap_i64 (by omega)
theorem sum_rung {x m f q : Nat} (h1 : x * 4503599627370496 + m = q) (h2 : m = 4503599627370496 + f) : (x + 1) * 4503599627370496 + f = q := by rw [← h1, h2, Nat.add_mul, Nat.one_mul, Nat.add_assoc]
theorem nzE_nd (a : Nat) : nzE a = -((nd (rg a) : Nat) : Int) := by unfold nzE nd; split <;> rfl
theorem one_mul_f {s : Bool} {q : Nat} (hq : q < 9218868437227405312) : fop .mul 4607182418800017408 (Ieee.double.word s q) = some (Ieee.double.word s q) := by
  obtain ⟨h1, h2, _⟩ := word_rg s q (Nat.lt_trans hq (by decide))
  have hc : rg 4607182418800017408 = 4607182418800017408 ∧ ng 4607182418800017408 = false ∧ vl 4607182418800017408 = 2 ^ 1074 := by decide +kernel
  have := mul_exact' (a := 4607182418800017408) (b := Ieee.double.word s q) (r := q) (by rw [hc.1]; decide) (by rw [h1]; exact hq) hq (fun P hP => by rewrite [hc.1, hc.2.2, ← hP, h1]; exact Nat.mul_comm P (vl q))
  rw [this, hc.2.1, h2, Bool.false_xor]
theorem p_split {P i j n : Nat} (h : P = 2 ^ n) (hn : n = i + j) : P = 2 ^ i * 2 ^ j := by rw [h, hn, Nat.pow_add]
theorem m53_aux {A B P q v1 v2 : Nat} (h1 : v1 = A) (h2 : v2 = q * B) (h3 : P = A * B) : v1 * v2 = q * P := by rw [h1, h2, h3, Nat.mul_left_comm]
theorem m53_mul {s : Bool} {q : Nat} (h0 : q ≠ 0) (hq : q < 4503599627370496) : fop .mul 4368491638549381120 (Ieee.double.word s ((ex (nr q) + 1) * 4503599627370496 + mg (nr q))) = some (Ieee.double.word s q) := by
  obtain ⟨hm1, hm2⟩ := mg_nr h0
  have he : ex (nr q) ≤ 51 := by rw [(nr_sub h0 hq).1]; exact (sub_parts h0 hq).1
  obtain ⟨Q, hQ⟩ : ∃ Q, Q = (ex (nr q) + 1) * 4503599627370496 + mg (nr q) := ⟨_, rfl⟩
  obtain ⟨p1, p2⟩ := rung_parts (e := ex (nr q) + 1) hm1 hm2
  rw [← hQ] at p1 p2 ⊢
  have hQl : Q < 9218868437227405312 := by omega
  obtain ⟨h1, h2, _⟩ := word_rg s Q (Nat.lt_trans hQl (by decide))
  have hc : rg 4368491638549381120 = 4368491638549381120 ∧ ng 4368491638549381120 = false ∧ vl 4368491638549381120 = 2 ^ 1021 := by decide +kernel
  have hvQ : vl Q = q * 2 ^ 53 := by
    rw [vl, p1, p2, Nat.pow_succ, ← Nat.mul_assoc]
    have := vl_nr h0 hq
    unfold vl at this
    rw [this, Nat.mul_assoc]
  have := mul_exact' (a := 4368491638549381120) (b := Ieee.double.word s Q) (r := q) (by rw [hc.1]; decide) (by rw [h1]; exact hQl) (by omega) (fun P hP => by
    rewrite [hc.1, h1, vl_sub hq]
    exact m53_aux hc.2.2 hvQ (p_split (i := 1021) (j := 53) (n := 1074) hP (by decide)))
  rw [this, hc.2.1, h2, Bool.false_xor]
section
variable (w : World) (a k q : Nat) (ha : a < 18446744073709551616) (h0 : rg a ≠ 0) (hf : rg a < 9218868437227405312) (hk : k < 4096) (hq : q < 9218868437227405312) (hv : vl q = vl (rg a) * 2 ^ k)
include ha h0 hf hk hq hv
theorem ldexp_norm (hn : 4503599627370496 ≤ q) : Calls Tryz.prog 108 #[.float .f64 a, .int .i64 ((k : Nat) : Int)] w fun e w' => e = .returned (.float .f64 (Ieee.double.word (ng a) q)) ∧ Below w.heap.size w w' := by
  have hz : isZ a = false := decide_eq_false h0
  have hinf : decide (rg a = 9218868437227405312) = false := decide_eq_false (by omega)
  have hnn := isN_fin hf
  have hlt := nzB_lt h0 hf
  have hlow := nr_low h0
  have hhigh := nr_high h0 hf
  obtain ⟨hp1, hp2⟩ := word_parts (ng a) hhigh
  have hex : nr (rg a) / 4503599627370496 = ex (nr (rg a)) + 1 := by unfold ex; rw [if_neg (by omega)]; omega
  have hmg : mg (nr (rg a)) = 4503599627370496 + nr (rg a) % 4503599627370496 := by unfold mg; rw [if_neg (by omega)]
  have hexb : ex (nr (rg a)) ≤ 2045 := by omega
  have hfl : nr (rg a) % 4503599627370496 < 4503599627370496 := Nat.mod_lt _ (by decide)
  have hnze := nzE_nd a
  have hndb : nd (rg a) ≤ 52 := by unfold nd; split <;> omega
  have hfw : Ieee.double.word (ng a) (nr (rg a) % 4503599627370496) < 18446744073709551616 := (word_rg _ _ (by omega)).2.2
  obtain ⟨hM, hE⟩ := scale_parts h0 (q := q) (by omega) hv
  have hnq : nr q = q := by rw [nr, if_neg (by omega)]
  have hndq : nd q = 0 := by unfold nd; rw [if_neg (by omega)]
  rw [hnq] at hM hE
  rw [hndq] at hE
  have hrq := rung_of (r := q)
  have heq : ex q ≤ 2045 := by unfold ex; rw [if_neg (by omega)]; omega
  have hB : ((k : Nat) : Int) + nzE a + (((ex (nr (rg a)) + 1 : Nat) : Int) - 1023) = ((ex q : Nat) : Int) - 1022 := by omega
  have hor := frac_word (ng a) (x := (ex q + 1) * 4503599627370496) hfl (Nat.mul_mod_left _ _) (by omega)
  have hsum := sum_rung hrq (hM.trans hmg)
  have hword := congrArg (Ieee.double.word (ng a)) hsum
  refine calls_cw Tryz.func108 rfl Tryz.ntmps108 rfl ?_
  have HF : Per (No) w (fun _ => True) := Per.true_
  have LW := Ext.refl (No) w
  have XLW : ∀ q9, (No) q9 → (No) q9 ∨ w.heap.size ≤ q9 := fun _ h => Or.inl h
  have E := Ext.refl (No) w
  refine cw_seq ?_
  refine cw_region ?_
  refine rs_op rfl (ow_assign rfl ?_)
  refine rs_nil ?_
  refine ew_next ?_
  refine cw_seq ?_
  refine cw_block ?_
  refine cw_seq ?_
  refine cw_region ?_
  refine rs_op rfl (ow_move rfl ?_)
  refine rs_op rfl (ow_feql rfl rfl ?_)
  refine rs_op rfl (ow_assign rfl ?_)
  refine rs_nil ?_
  refine ew_next ?_
  refine cw_set 8 (.bool false) rfl ((by rw [ford_zero, hz] : (.bool (ford a 0 == some .eq) : Value) = _)) ?_
  refine cw_else rfl ?_
  refine cw_seq ?_
  refine cw_region ?_
  refine rs_op rfl (ow_move rfl ?_)
  refine rs_op rfl (ow_enter en61 rfl ((misinf_any _ a ha).mono ?_))
  rintro e w1 ⟨rfl, hb⟩
  refine ⟨_, rfl, ?_⟩
  have Ec := Ext.of_below hb No
  replace E := E.trans Ec.no
  clear hb Ec
  refine rs_set 14 (.bool false) rfl ((by rw [hinf] : (.bool (decide (rg a = 9218868437227405312)) : Value) = _)) ?_
  refine rs_op rfl (ow_move rfl ?_)
  refine rs_op rfl (ow_on rfl (ow_move rfl ?_))
  refine rs_op rfl (ow_on rfl (ow_enter en138 rfl ((misnan_any _ a).mono ?_)))
  rintro e w2 ⟨rfl, hb⟩
  refine ⟨_, rfl, ?_⟩
  have Ec := Ext.of_below hb No
  replace E := E.trans Ec.no
  clear hb Ec
  refine rs_set 17 (.bool false) rfl ((by rw [hnn] : (.bool (isN a) : Value) = _)) ?_
  refine rs_op rfl (ow_pickF rfl rfl ?_)
  refine rs_op rfl (ow_assign rfl ?_)
  refine rs_nil ?_
  refine ew_next ?_
  refine cw_else rfl ?_
  refine cw_skip ?_
  refine ew_block_normal ?_
  refine ew_next ?_
  refine cw_seq ?_
  refine cw_region ?_
  refine rs_op rfl (ow_move rfl ?_)
  refine rs_op rfl (ow_enter en139 rfl ((normalize_any _ a ha h0 hf).mono ?_))
  rintro e w3 ⟨rfl, hb⟩
  refine ⟨_, rfl, ?_⟩
  have Ec := Ext.of_below hb No
  replace E := E.trans Ec.no
  clear hb Ec
  refine rs_op rfl (ow_move rfl ?_)
  refine rs_op rfl (ow_extract rfl rfl ?_)
  refine rs_op rfl (ow_extract rfl rfl ?_)
  refine rs_op rfl (ow_assign rfl ?_)
  refine rs_op rfl (ow_assign rfl ?_)
  refine rs_nil ?_
  refine ew_next ?_
  refine cw_seq ?_
  refine cw_region ?_
  refine rs_op rfl (ow_move rfl ?_)
  refine rs_op rfl (ow_move rfl ?_)
  refine rs_op rfl (ow_add rfl rfl (wrap_i64 (by omega)) ?_)
  refine rs_op rfl (ow_assign rfl ?_)
  refine rs_nil ?_
  refine ew_next ?_
  refine cw_seq ?_
  refine cw_region ?_
  refine rs_op rfl (ow_move rfl ?_)
  refine rs_op rfl (ow_bits ex59 rfl ?_)
  refine rs_op rfl (ow_assign rfl ?_)
  refine rs_nil ?_
  refine ew_next ?_
  refine cw_seq ?_
  refine cw_region ?_
  refine rs_op rfl (ow_move rfl ?_)
  refine rs_op rfl (ow_move rfl ?_)
  refine rs_op rfl (ow_shr rfl rfl (by decide) (shr52 (nzB a)) ?_)
  refine rs_op rfl (ow_conv Tryz.underlying3 Tryz.underlying22 rfl (wrap_i64 (by omega)) ?_)
  refine rs_op rfl (ow_and rfl rfl (and_2047i (by omega)) ?_)
  refine rs_set 34 (.int .i64 ((ex (nr (rg a)) + 1 : Nat) : Int)) rfl ((by rw [show nzB a / 4503599627370496 % 2048 = _ from hp1, hex] : (.int .i64 ((nzB a / 4503599627370496 % 2048 : Nat) : Int) : Value) = _)) ?_
  refine rs_op rfl (ow_sub rfl rfl (wrap_i64 (by omega)) ?_)
  refine rs_op rfl (ow_add rfl rfl (wrap_i64 (by omega)) ?_)
  refine rs_op rfl (ow_assign rfl ?_)
  refine rs_nil ?_
  refine ew_next ?_
  refine cw_seq ?_
  refine cw_seq ?_
  refine cw_region ?_
  refine rs_op rfl (ow_move rfl ?_)
  refine rs_op rfl (ow_lss rfl rfl ?_)
  refine rs_nil ?_
  refine ew_next ?_
  refine cw_set 38 (.bool false) rfl ((by rw [hB, decide_eq_false (by omega)] : (.bool (decide (((((k : Nat) : Int) + (nzE a)) + (((ex (nr (rg a)) + 1 : Nat) : Int) - 1023)) < (-1075))) : Value) = _)) ?_
  refine cw_set 1 (.int .i64 (((ex q : Nat) : Int) - 1022)) rfl ((by rw [hB] : (.int .i64 ((((k : Nat) : Int) + (nzE a)) + (((ex (nr (rg a)) + 1 : Nat) : Int) - 1023)) : Value) = _)) ?_
  refine cw_else rfl ?_
  refine cw_skip ?_
  refine ew_next ?_
  refine cw_seq ?_
  refine cw_seq ?_
  refine cw_region ?_
  refine rs_op rfl (ow_move rfl ?_)
  refine rs_op rfl (ow_gtr rfl rfl ?_)
  refine rs_nil ?_
  refine ew_next ?_
  refine cw_set 42 (.bool false) rfl ((by rw [decide_eq_false (by omega)] : (.bool (decide (1023 < (((ex q : Nat) : Int) - 1022))) : Value) = _)) ?_
  refine cw_else rfl ?_
  refine cw_skip ?_
  refine ew_next ?_
  refine cw_seq ?_
  refine cw_region ?_
  refine rs_op rfl (ow_assign rfl ?_)
  refine rs_nil ?_
  refine ew_next ?_
  refine cw_seq ?_
  refine cw_seq ?_
  refine cw_region ?_
  refine rs_op rfl (ow_move rfl ?_)
  refine rs_op rfl (ow_lss rfl rfl ?_)
  refine rs_nil ?_
  refine ew_next ?_
  refine cw_set 48 (.bool false) rfl ((by rw [decide_eq_false (by omega)] : (.bool (decide ((((ex q : Nat) : Int) - 1022) < (-1022))) : Value) = _)) ?_
  refine cw_else rfl ?_
  refine cw_skip ?_
  refine ew_next ?_
  refine cw_seq ?_
  refine cw_region ?_
  refine rs_op rfl (ow_move rfl ?_)
  refine rs_op rfl (ow_andNot rfl rfl (andNot_exp hlt) ?_)
  refine rs_set 52 (.int .u64 ((Ieee.double.word (ng a) (nr (rg a) % 4503599627370496) : Nat) : Int)) rfl ((by rw [show nzB a / 9223372036854775808 * 9223372036854775808 + nzB a % 4503599627370496 = _ from hp2] : (.int .u64 ((nzB a / 9223372036854775808 * 9223372036854775808 + nzB a % 4503599627370496 : Nat) : Int) : Value) = _)) ?_
  refine rs_op rfl (ow_assign rfl ?_)
  refine rs_nil ?_
  refine ew_next ?_
  refine cw_seq ?_
  refine cw_region ?_
  refine rs_op rfl (ow_move rfl ?_)
  refine rs_op rfl (ow_move rfl ?_)
  refine rs_op rfl (ow_add rfl rfl (wrap_i64 (by omega)) ?_)
  refine rs_op rfl (ow_conv Tryz.underlying22 Tryz.underlying3 rfl (wrap_u64 (by omega)) ?_)
  refine rs_op rfl (ow_shl (z := (((ex q + 1) * 4503599627370496 : Nat) : Int)) rfl rfl (by decide) (by show IntKind.u64.wrap ((((ex q : Nat) : Int) - 1022 + 1023) * 4503599627370496) = _; rw [wrap_u64 (by omega)]; omega) ?_)
  refine rs_op rfl (ow_or rfl rfl (or_bits hfw (by omega)) ?_)
  refine rs_set 58 (.int .u64 ((Ieee.double.word (ng a) q : Nat) : Int)) rfl ((by rw [hor.trans hword] : (.int .u64 ((Ieee.double.word (ng a) (nr (rg a) % 4503599627370496) ||| (ex q + 1) * 4503599627370496 : Nat) : Int) : Value) = _)) ?_
  refine rs_op rfl (ow_assign rfl ?_)
  refine rs_nil ?_
  refine ew_next ?_
  refine cw_seq ?_
  refine cw_region ?_
  refine rs_op rfl (ow_move rfl ?_)
  refine rs_op rfl (ow_move rfl ?_)
  refine rs_op rfl (ow_frombits (b := Ieee.double.word (ng a) q) ex60 rfl ?_)
  refine rs_op rfl (ow_float (m := 4607182418800017408) (n := Ieee.double.word (ng a) q) (.inr (.inr (.inl rfl))) rfl rfl ?_)
  intro r w4 hr
  have Ec := hr.ext
  replace E := E.trans Ec.no
  clear Ec
  refine rs_op rfl (ow_assign rfl ?_)
  refine rs_nil ?_
  refine ew_next ?_
  refine cw_ret ?_
  refine ew_ret (rs := [.tmp 4]) (vs := [_]) rfl ⟨rfl, trivial⟩ ?_
  exact ⟨by rw [hr.some (one_mul_f hq)]; rfl, (LW.step E XLW).toBelow⟩
theorem ldexp_sub (hn : q < 4503599627370496) (hq0 : q ≠ 0) : Calls Tryz.prog 108 #[.float .f64 a, .int .i64 ((k : Nat) : Int)] w fun e w' => e = .returned (.float .f64 (Ieee.double.word (ng a) q)) ∧ Below w.heap.size w w' := by
  have _ := hq
  have hz : isZ a = false := decide_eq_false h0
  have hinf : decide (rg a = 9218868437227405312) = false := decide_eq_false (by omega)
  have hnn := isN_fin hf
  have hlt := nzB_lt h0 hf
  have hlow := nr_low h0
  have hhigh := nr_high h0 hf
  obtain ⟨hp1, hp2⟩ := word_parts (ng a) hhigh
  have hex : nr (rg a) / 4503599627370496 = ex (nr (rg a)) + 1 := by unfold ex; rw [if_neg (by omega)]; omega
  have hmg : mg (nr (rg a)) = 4503599627370496 + nr (rg a) % 4503599627370496 := by unfold mg; rw [if_neg (by omega)]
  have hexb : ex (nr (rg a)) ≤ 2045 := by omega
  have hfl : nr (rg a) % 4503599627370496 < 4503599627370496 := Nat.mod_lt _ (by decide)
  have hnze := nzE_nd a
  have hndb : nd (rg a) ≤ 52 := by unfold nd; split <;> omega
  have hfw : Ieee.double.word (ng a) (nr (rg a) % 4503599627370496) < 18446744073709551616 := (word_rg _ _ (by omega)).2.2
  obtain ⟨hM, hE⟩ := scale_parts h0 (q := q) hq0 hv
  have hndq : nd q = 52 := by unfold nd; rw [if_pos hn]
  rw [hndq] at hE
  have heq : ex (nr q) ≤ 51 := by rw [(nr_sub hq0 hn).1]; exact (sub_parts hq0 hn).1
  have hB : ((k : Nat) : Int) + nzE a + (((ex (nr (rg a)) + 1 : Nat) : Int) - 1023) = ((ex (nr q) : Nat) : Int) - 1074 := by omega
  have hor := frac_word (ng a) (x := (ex (nr q) + 2) * 4503599627370496) hfl (Nat.mul_mod_left _ _) (by omega)
  have hsum := sum_rung (x := ex (nr q) + 1) (m := mg (nr q)) rfl (hM.trans hmg)
  have hword := congrArg (Ieee.double.word (ng a)) hsum
  refine calls_cw Tryz.func108 rfl Tryz.ntmps108 rfl ?_
  have HF : Per (No) w (fun _ => True) := Per.true_
  have LW := Ext.refl (No) w
  have XLW : ∀ q9, (No) q9 → (No) q9 ∨ w.heap.size ≤ q9 := fun _ h => Or.inl h
  have E := Ext.refl (No) w
  refine cw_seq ?_
  refine cw_region ?_
  refine rs_op rfl (ow_assign rfl ?_)
  refine rs_nil ?_
  refine ew_next ?_
  refine cw_seq ?_
  refine cw_block ?_
  refine cw_seq ?_
  refine cw_region ?_
  refine rs_op rfl (ow_move rfl ?_)
  refine rs_op rfl (ow_feql rfl rfl ?_)
  refine rs_op rfl (ow_assign rfl ?_)
  refine rs_nil ?_
  refine ew_next ?_
  refine cw_set 8 (.bool false) rfl ((by rw [ford_zero, hz] : (.bool (ford a 0 == some .eq) : Value) = _)) ?_
  refine cw_else rfl ?_
  refine cw_seq ?_
  refine cw_region ?_
  refine rs_op rfl (ow_move rfl ?_)
  refine rs_op rfl (ow_enter en61 rfl ((misinf_any _ a ha).mono ?_))
  rintro e w1 ⟨rfl, hb⟩
  refine ⟨_, rfl, ?_⟩
  have Ec := Ext.of_below hb No
  replace E := E.trans Ec.no
  clear hb Ec
  refine rs_set 14 (.bool false) rfl ((by rw [hinf] : (.bool (decide (rg a = 9218868437227405312)) : Value) = _)) ?_
  refine rs_op rfl (ow_move rfl ?_)
  refine rs_op rfl (ow_on rfl (ow_move rfl ?_))
  refine rs_op rfl (ow_on rfl (ow_enter en138 rfl ((misnan_any _ a).mono ?_)))
  rintro e w2 ⟨rfl, hb⟩
  refine ⟨_, rfl, ?_⟩
  have Ec := Ext.of_below hb No
  replace E := E.trans Ec.no
  clear hb Ec
  refine rs_set 17 (.bool false) rfl ((by rw [hnn] : (.bool (isN a) : Value) = _)) ?_
  refine rs_op rfl (ow_pickF rfl rfl ?_)
  refine rs_op rfl (ow_assign rfl ?_)
  refine rs_nil ?_
  refine ew_next ?_
  refine cw_else rfl ?_
  refine cw_skip ?_
  refine ew_block_normal ?_
  refine ew_next ?_
  refine cw_seq ?_
  refine cw_region ?_
  refine rs_op rfl (ow_move rfl ?_)
  refine rs_op rfl (ow_enter en139 rfl ((normalize_any _ a ha h0 hf).mono ?_))
  rintro e w3 ⟨rfl, hb⟩
  refine ⟨_, rfl, ?_⟩
  have Ec := Ext.of_below hb No
  replace E := E.trans Ec.no
  clear hb Ec
  refine rs_op rfl (ow_move rfl ?_)
  refine rs_op rfl (ow_extract rfl rfl ?_)
  refine rs_op rfl (ow_extract rfl rfl ?_)
  refine rs_op rfl (ow_assign rfl ?_)
  refine rs_op rfl (ow_assign rfl ?_)
  refine rs_nil ?_
  refine ew_next ?_
  refine cw_seq ?_
  refine cw_region ?_
  refine rs_op rfl (ow_move rfl ?_)
  refine rs_op rfl (ow_move rfl ?_)
  refine rs_op rfl (ow_add rfl rfl (wrap_i64 (by omega)) ?_)
  refine rs_op rfl (ow_assign rfl ?_)
  refine rs_nil ?_
  refine ew_next ?_
  refine cw_seq ?_
  refine cw_region ?_
  refine rs_op rfl (ow_move rfl ?_)
  refine rs_op rfl (ow_bits ex59 rfl ?_)
  refine rs_op rfl (ow_assign rfl ?_)
  refine rs_nil ?_
  refine ew_next ?_
  refine cw_seq ?_
  refine cw_region ?_
  refine rs_op rfl (ow_move rfl ?_)
  refine rs_op rfl (ow_move rfl ?_)
  refine rs_op rfl (ow_shr rfl rfl (by decide) (shr52 (nzB a)) ?_)
  refine rs_op rfl (ow_conv Tryz.underlying3 Tryz.underlying22 rfl (wrap_i64 (by omega)) ?_)
  refine rs_op rfl (ow_and rfl rfl (and_2047i (by omega)) ?_)
  refine rs_set 34 (.int .i64 ((ex (nr (rg a)) + 1 : Nat) : Int)) rfl ((by rw [show nzB a / 4503599627370496 % 2048 = _ from hp1, hex] : (.int .i64 ((nzB a / 4503599627370496 % 2048 : Nat) : Int) : Value) = _)) ?_
  refine rs_op rfl (ow_sub rfl rfl (wrap_i64 (by omega)) ?_)
  refine rs_op rfl (ow_add rfl rfl (wrap_i64 (by omega)) ?_)
  refine rs_op rfl (ow_assign rfl ?_)
  refine rs_nil ?_
  refine ew_next ?_
  refine cw_seq ?_
  refine cw_seq ?_
  refine cw_region ?_
  refine rs_op rfl (ow_move rfl ?_)
  refine rs_op rfl (ow_lss rfl rfl ?_)
  refine rs_nil ?_
  refine ew_next ?_
  refine cw_set 38 (.bool false) rfl ((by rw [hB, decide_eq_false (by omega)] : (.bool (decide (((((k : Nat) : Int) + (nzE a)) + (((ex (nr (rg a)) + 1 : Nat) : Int) - 1023)) < (-1075))) : Value) = _)) ?_
  refine cw_set 1 (.int .i64 (((ex (nr q) : Nat) : Int) - 1074)) rfl ((by rw [hB] : (.int .i64 ((((k : Nat) : Int) + (nzE a)) + (((ex (nr (rg a)) + 1 : Nat) : Int) - 1023)) : Value) = _)) ?_
  refine cw_else rfl ?_
  refine cw_skip ?_
  refine ew_next ?_
  refine cw_seq ?_
  refine cw_seq ?_
  refine cw_region ?_
  refine rs_op rfl (ow_move rfl ?_)
  refine rs_op rfl (ow_gtr rfl rfl ?_)
  refine rs_nil ?_
  refine ew_next ?_
  refine cw_set 42 (.bool false) rfl ((by rw [decide_eq_false (by omega)] : (.bool (decide (1023 < (((ex (nr q) : Nat) : Int) - 1074))) : Value) = _)) ?_
  refine cw_else rfl ?_
  refine cw_skip ?_
  refine ew_next ?_
  refine cw_seq ?_
  refine cw_region ?_
  refine rs_op rfl (ow_assign rfl ?_)
  refine rs_nil ?_
  refine ew_next ?_
  refine cw_seq ?_
  refine cw_seq ?_
  refine cw_region ?_
  refine rs_op rfl (ow_move rfl ?_)
  refine rs_op rfl (ow_lss rfl rfl ?_)
  refine rs_nil ?_
  refine ew_next ?_
  refine cw_set 48 (.bool true) rfl ((by rw [decide_eq_true (by omega)] : (.bool (decide ((((ex (nr q) : Nat) : Int) - 1074) < (-1022))) : Value) = _)) ?_
  refine cw_then rfl ?_
  refine cw_seq ?_
  refine cw_region ?_
  refine rs_op rfl (ow_move rfl ?_)
  refine rs_op rfl (ow_add rfl rfl (wrap_i64 (by omega)) ?_)
  refine rs_op rfl (ow_assign rfl ?_)
  refine rs_nil ?_
  refine ew_next ?_
  refine cw_region ?_
  refine rs_op rfl (ow_assign rfl ?_)
  refine rs_nil ?_
  refine ew_next ?_
  refine cw_seq ?_
  refine cw_region ?_
  refine rs_op rfl (ow_move rfl ?_)
  refine rs_op rfl (ow_andNot rfl rfl (andNot_exp hlt) ?_)
  refine rs_set 52 (.int .u64 ((Ieee.double.word (ng a) (nr (rg a) % 4503599627370496) : Nat) : Int)) rfl ((by rw [show nzB a / 9223372036854775808 * 9223372036854775808 + nzB a % 4503599627370496 = _ from hp2] : (.int .u64 ((nzB a / 9223372036854775808 * 9223372036854775808 + nzB a % 4503599627370496 : Nat) : Int) : Value) = _)) ?_
  refine rs_op rfl (ow_assign rfl ?_)
  refine rs_nil ?_
  refine ew_next ?_
  refine cw_seq ?_
  refine cw_region ?_
  refine rs_op rfl (ow_move rfl ?_)
  refine rs_op rfl (ow_move rfl ?_)
  refine rs_op rfl (ow_add rfl rfl (wrap_i64 (by omega)) ?_)
  refine rs_op rfl (ow_conv Tryz.underlying22 Tryz.underlying3 rfl (wrap_u64 (by omega)) ?_)
  refine rs_op rfl (ow_shl (z := (((ex (nr q) + 2) * 4503599627370496 : Nat) : Int)) rfl rfl (by decide) (by show IntKind.u64.wrap ((((ex (nr q) : Nat) : Int) - 1074 + 53 + 1023) * 4503599627370496) = _; rw [wrap_u64 (by omega)]; omega) ?_)
  refine rs_op rfl (ow_or rfl rfl (or_bits hfw (by omega)) ?_)
  refine rs_set 58 (.int .u64 ((Ieee.double.word (ng a) ((ex (nr q) + 1) * 4503599627370496 + mg (nr q)) : Nat) : Int)) rfl ((by rw [hor.trans hword] : (.int .u64 ((Ieee.double.word (ng a) (nr (rg a) % 4503599627370496) ||| (ex (nr q) + 2) * 4503599627370496 : Nat) : Int) : Value) = _)) ?_
  refine rs_op rfl (ow_assign rfl ?_)
  refine rs_nil ?_
  refine ew_next ?_
  refine cw_seq ?_
  refine cw_region ?_
  refine rs_op rfl (ow_move rfl ?_)
  refine rs_op rfl (ow_move rfl ?_)
  refine rs_op rfl (ow_frombits (b := Ieee.double.word (ng a) ((ex (nr q) + 1) * 4503599627370496 + mg (nr q))) ex60 rfl ?_)
  refine rs_op rfl (ow_float (m := 4368491638549381120) (n := Ieee.double.word (ng a) ((ex (nr q) + 1) * 4503599627370496 + mg (nr q))) (.inr (.inr (.inl rfl))) rfl rfl ?_)
  intro r w4 hr
  have Ec := hr.ext
  replace E := E.trans Ec.no
  clear Ec
  refine rs_op rfl (ow_assign rfl ?_)
  refine rs_nil ?_
  refine ew_next ?_
  refine cw_ret ?_
  refine ew_ret (rs := [.tmp 4]) (vs := [_]) rfl ⟨rfl, trivial⟩ ?_
  exact ⟨by rw [hr.some (m53_mul hq0 hn)]; rfl, (LW.step E XLW).toBelow⟩
end
end Go.Proofs.YtljndllhmdpjlaaGreatDoor
namespace Go.Proofs.YtljndllhmdpjlaaGreatDoor
open Go.RowKit
set_option maxRecDepth 100000
section
variable {P : Program} {N : Nat} {ops : Array Oper} {Q : Exit → Act → World → Prop} {σ : Env} {w : World} {ty : TypeId} {pos : String} {af : Array Edge} {dst : Option Nat} {Post : Value → World → Prop}
theorem ow_f2i {T U : TypeId} {x : Operand} {b : Nat} {q : IntKind} {z : Int} (hd : P.underlying U = some (.int q)) (hs : (P.underlying T).isSome = true) (hx : ev σ x = some (.float .f64 b)) (hz : floatToIntVal .f64 b q = some z) (k : Post (.int q z) w) : OW P N ops Q ⟨dst, .convert T U x, ty, pos, af, none⟩ σ w Post :=
  ow_val (fun ρ ha => by
    have h := run_convert_float_int (P := P) w T U .f64 q b z hs hd hz
    simp only [execOp, ha hx, Sem.run_bind, h, Result.andThen_ok, Sem.run_pure]) k
theorem quiet_pos (t : Nat) (ht : t < 4503599627370496) : (t ||| 2251799813685248) % 4503599627370496 ≠ 0 := by
  have h1 : t ||| 2251799813685248 < 2 ^ 52 := Nat.or_lt_two_pow (n := 52) ht (by decide)
  rw [Nat.mod_eq_of_lt h1]
  have h2 := @Nat.right_le_or t 2251799813685248
  omega
theorem isN_read (b : Nat) : (FloatKind.f64.decode b).isNaN = isN b := by
  show (Ieee.double.read b).isNaN = isN b
  rcases Nat.lt_trichotomy (rg b) 9218868437227405312 with h | h | h
  · rw [read_num h, isN, decide_eq_false (by omega)]; rfl
  · rw [read_inf h, isN, decide_eq_false (by omega)]; rfl
  · rw [read_nan h, isN, decide_eq_true h]; rfl
structure NRes (r : Nat) (w w' : World) : Prop where
  isn : isN r = true
  ext : Ext No w w'
  lt : r < 18446744073709551616
theorem ow_roundN {f : FuncId} {ts : Array TypeId} {x : Operand} {b : Nat} {name : String} {way : Ieee.Toward} (hf : Ext_ P f (Extern.MathFloor.toIntegral name way)) (hx : ev σ x = some (.float .f64 b)) (hn : isN b = true) (hb : b < 18446744073709551616) (k : ∀ r w', NRes r w w' → Post (.float .f64 r) w') : OW P N ops Q ⟨dst, .call ⟨.value (.func f), #[x], ts⟩, ty, pos, af, none⟩ σ w Post := by
  have key : ∃ r w', isN r = true ∧ Ext No w w' ∧ r < 18446744073709551616 ∧ (Extern.MathFloor.toIntegral name way #[.float .f64 b]).run P w = .ok (.float .f64 r) w' := by
    have e : Extern.MathFloor.toIntegral name way #[.float .f64 b] = (match FloatKind.f64.decode b with
      | .nan s t => if FloatKind.f64.format.quiet t = t then pure (.float .f64 b) else do
        let kept ← choose (.extern "math.Floor,Ceil,Trunc,RoundToEven.signallingNaN kept" 2)
        pure (.float .f64 (if kept == 1 then b else FloatKind.f64.encode (.nan s (FloatKind.f64.format.quiet t))))
      | d => pure (.float .f64 (FloatKind.f64.encode (d.integral way)))) := rfl
    have hlt : 9218868437227405312 < rg b := of_decide_eq_true hn
    have hd : FloatKind.f64.decode b = .nan (ng b) (rg b - 9218868437227405312) := read_nan hlt
    rw [e, hd]
    simp only []
    by_cases hq : FloatKind.f64.format.quiet (rg b - 9218868437227405312) = rg b - 9218868437227405312
    · rw [if_pos hq]
      exact ⟨b, w, hn, Ext.refl _ _, hb, rfl⟩
    · rw [if_neg hq]
      have hr := rg_lt b
      have hN : isN (FloatKind.f64.encode (.nan (ng b) (FloatKind.f64.format.quiet (rg b - 9218868437227405312)))) = true ∧ FloatKind.f64.encode (.nan (ng b) (FloatKind.f64.format.quiet (rg b - 9218868437227405312))) < 18446744073709551616 := by
        have h1 := quiet_pos (rg b - 9218868437227405312) (by omega)
        have h2 : FloatKind.f64.encode (.nan (ng b) (FloatKind.f64.format.quiet (rg b - 9218868437227405312))) = Ieee.double.word (ng b) (9218868437227405312 + ((rg b - 9218868437227405312) ||| 2251799813685248) % 4503599627370496) := by
          show Ieee.double.word _ (Ieee.double.infRung + _ % Ieee.double.binade) = _
          rw [c3, c2]; rfl
        have h3 := Nat.mod_lt ((rg b - 9218868437227405312) ||| 2251799813685248) (show 4503599627370496 > 0 by decide)
        rw [h2]
        obtain ⟨w1, _, w3⟩ := word_rg (ng b) (9218868437227405312 + ((rg b - 9218868437227405312) ||| 2251799813685248) % 4503599627370496) (by omega)
        exact ⟨decide_eq_true (by rw [w1]; omega), w3⟩
      obtain ⟨c, hc⟩ : ∃ c, (choose (.extern "math.Floor,Ceil,Trunc,RoundToEven.signallingNaN kept" 2)).run P w = .ok c w.drew := ⟨_, rfl⟩
      refine ⟨if c == 1 then b else FloatKind.f64.encode (.nan (ng b) (FloatKind.f64.format.quiet (rg b - 9218868437227405312))), w.drew, ?_, ⟨rfl, rfl, rfl, Nat.le_refl _, fun _ _ _ => rfl⟩, ?_, ?_⟩
      · split
        · exact hn
        · exact hN.1
      · split
        · exact hb
        · exact hN.2
      · simp only [Sem.run_bind, hc, Result.andThen_ok, Sem.run_pure]
  obtain ⟨r, w', h1, h2, h4, h3⟩ := key
  exact ow_ext (xs := [x]) (args := [.float .f64 b]) hf (by simp [evs, hx]) h3 (k r w' ⟨h1, h2, h4⟩)
end
end Go.Proofs.YtljndllhmdpjlaaGreatDoor
namespace Go.Proofs.YtljndllhmdpjlaaGreatDoor
open Ieee
set_option maxRecDepth 100000
theorem two_split {p q s P : Nat} (hP : P = 2 ^ p) (h : p = q + s) : P = 2 ^ q * 2 ^ s := by rw [hP, h, Nat.pow_add]
theorem two_mono {k K P : Nat} (h : k ≤ K) (hP : P = 2 ^ K) : 2 ^ k ≤ P := by rw [hP]; exact Nat.pow_le_pow_right (by decide) h
theorem two_pos (n : Nat) : 0 < 2 ^ n := Nat.pow_pos (by decide)
theorem div_mul_p {x P w : Nat} (h : w = x / P) : w * P ≤ x := by rw [h]; exact Nat.div_mul_le_self _ _
/-- Cut towards nought. -/
theorem cut_zero (s : Bool) (n t : Nat) : Toward.zero.cut s n t = n / 2 ^ t := by
  have e : Toward.zero.cut s n t = n / (1 <<< min t (n.log2 + 2)) := by
    unfold Toward.cut
    simp only [Bool.toNat_false, Nat.add_zero]
  rw [e, Nat.shiftLeft_eq, Nat.one_mul]
  rcases Nat.le_total t (n.log2 + 2) with h | h
  · rw [Nat.min_eq_left h]
  · rw [Nat.min_eq_right h]
    have h1 := @Nat.lt_log2_self n
    have h2 : (2 : Nat) ^ (n.log2 + 1) ≤ 2 ^ (n.log2 + 2) := Nat.pow_le_pow_right (by decide) (by omega)
    have h3 : (2 : Nat) ^ (n.log2 + 2) ≤ 2 ^ t := Nat.pow_le_pow_right (by decide) h
    rw [Nat.div_eq_of_lt (by omega), Nat.div_eq_of_lt (by omega)]
theorem shl_div (m i j : Nat) : m * 2 ^ (i - j) / 2 ^ (j - i) = m * 2 ^ i / 2 ^ j := by
  rcases Nat.le_total j i with h | h
  · rw [show j - i = 0 by omega, Nat.pow_zero, Nat.div_one, pow_min h, Nat.mul_div_cancel _ (Nat.pow_pos (by decide))]
  · rw [show i - j = 0 by omega, Nat.pow_zero, Nat.mul_one]
    rw [show (2 : Nat) ^ j = 2 ^ (j - i) * 2 ^ i by rw [← Nat.pow_add]; congr 1; omega, Nat.mul_div_mul_right _ _ (Nat.pow_pos (by decide))]
/-- What is left of a number when it is cut to a whole one. -/
def wholeN (a : Nat) : Nat := vl (rg a) / 2 ^ 1074
theorem integral_zero {a : Nat} (ha : rg a < 9218868437227405312) : (double.read a).integral .zero = .number (ng a) (wholeN a) 0 := by
  rw [read_num ha, Datum.integral, cut_zero, Nat.shiftLeft_eq]
  have e1 : (-1074 + (ex (rg a) : Int)).toNat = ex (rg a) - 1074 := by omega
  have e2 : (-(-1074 + (ex (rg a) : Int))).toNat = 1074 - ex (rg a) := by omega
  rw [e1, e2, shl_div]
  rfl
theorem signed_zero (s : Bool) (m : Nat) : signed s m 0 = if s then -(m : Int) else (m : Int) := by
  unfold signed
  rw [Nat.shiftLeft_zero]
theorem toInt_fin {a : Nat} (ha : rg a < 9218868437227405312) : (FloatKind.f64.decode a).toInt .zero = some (if ng a then -(wholeN a : Int) else (wholeN a : Int)) := by
  show Datum.toInt .zero (double.read a) = _
  unfold Datum.toInt
  rw [integral_zero ha]
  simp only [signed_zero]
theorem f2i_i64 {a : Nat} (ha : rg a < 9218868437227405312) (h : wholeN a < 9223372036854775808) : floatToIntVal .f64 a .i64 = some (if ng a then -(wholeN a : Int) else (wholeN a : Int)) := by
  unfold floatToIntVal
  rw [toInt_fin ha]
  have h1 : IntKind.i64.min = -9223372036854775808 := rfl
  have h2 : IntKind.i64.max = 9223372036854775807 := rfl
  simp only [h1, h2]
  rw [if_pos (by split <;> omega)]
theorem mul_div_p {m P x : Nat} (hP : 0 < P) (h : x = m * P) : x / P = m := by rw [h, Nat.mul_div_cancel _ hP]
theorem wholeN_word (s : Bool) {q m : Nat} (hq : q < 9218868437227405312) (h : vl q = m * 2 ^ 1074) : wholeN (double.word s q) = m := by
  unfold wholeN
  rewrite [(word_rg s q (Nat.lt_trans hq (by decide))).1]
  exact mul_div_p (two_pos 1074) h
theorem fround_zero {a : Nat} (ha : rg a < 9218868437227405312) : ∃ q, vl q = wholeN a * 2 ^ 1074 ∧ q ≤ rg a ∧ fround .zero a = double.word (ng a) q := by
  have key : ∃ q, vl q = wholeN a * 2 ^ 1074 ∧ q ≤ rg a := by
    have hle : wholeN a * 2 ^ 1074 ≤ vl (rg a) := div_mul_p rfl
    rcases Nat.le_total (ex (rg a)) 1074 with h | h
    · refine rep_le (wholeN a) 1074 (rg a) ?_ hle
      have := mg_lt (rg a)
      have h2 : vl (rg a) ≤ mg (rg a) * 2 ^ 1074 := Nat.mul_le_mul_left _ (two_mono h rfl)
      have h3 : wholeN a ≤ mg (rg a) := Nat.le_of_mul_le_mul_right (Nat.le_trans hle h2) (two_pos 1074)
      exact Nat.lt_of_le_of_lt h3 this
    · refine ⟨rg a, ?_, Nat.le_refl _⟩
      have e : vl (rg a) = mg (rg a) * 2 ^ (ex (rg a) - 1074) * 2 ^ 1074 := pow_min h _
      have e2 : wholeN a = mg (rg a) * 2 ^ (ex (rg a) - 1074) := mul_div_p (two_pos 1074) e
      rw [e2]; exact e
  obtain ⟨q, h1, h2⟩ := key
  refine ⟨q, h1, h2, ?_⟩
  show double.write ((double.read a).integral .zero) = _
  rw [integral_zero ha]
  exact write_exact (u := 1074) (d := 0) (Nat.lt_of_le_of_lt h2 ha) (by omega) (by rw [h1, Nat.pow_zero, Nat.mul_one])
/-! ### rests -/
end Go.Proofs.YtljndllhmdpjlaaGreatDoor
namespace Go.Proofs.YtljndllhmdpjlaaGreatDoor
open Ieee
set_option maxRecDepth 100000
theorem cut_even (s : Bool) (n t : Nat) : n / 2 ^ t ≤ Toward.even.cut s n t ∧ Toward.even.cut s n t ≤ n / 2 ^ t + 1 ∧ (n % 2 ^ t = 0 → Toward.even.cut s n t = n / 2 ^ t) := by
  have low : n / (1 <<< min t (n.log2 + 2)) = n / 2 ^ t := by
    have := cut_zero s n t
    unfold Toward.cut at this
    simpa using this
  have hb : ∀ b : Bool, b.toNat ≤ 1 := fun b => by cases b <;> decide
  refine ⟨?_, ?_, fun h0 => ?_⟩
  · unfold Toward.cut; simp only [low]; omega
  · unfold Toward.cut; simp only [low]; have := hb (1 <<< min t (n.log2 + 2) < 2 * (n % (1 <<< min t (n.log2 + 2))) || 1 <<< min t (n.log2 + 2) == 2 * (n % (1 <<< min t (n.log2 + 2))) && n / 2 ^ t % 2 == 1); omega
  · by_cases hn : n / 2 ^ t = 0
    · have : n = 0 := by have := Nat.div_add_mod n (2 ^ t); rw [hn, h0] at this; omega
      subst this
      unfold Toward.cut
      have h1 : 0 < 1 <<< min t (Nat.log2 0 + 2) := by rw [Nat.shiftLeft_eq, Nat.one_mul]; exact Nat.pow_pos (by decide)
      simp only [Nat.zero_div, Nat.zero_mod, Nat.mul_zero]
      have h2 : ((1 <<< min t (Nat.log2 0 + 2)) == 0) = false := beq_false_of_ne (by omega)
      rw [h2]; simp
    · have e : n = n / 2 ^ t * 2 ^ t := by have := Nat.div_add_mod n (2 ^ t); rw [h0, Nat.add_zero, Nat.mul_comm] at this; exact this.symm
      have := cut_exact s (n / 2 ^ t) t hn
      rw [← e] at this
      exact this
/-- The rung at or below a value that is not below the least normal number's mantissa. -/
theorem floor_rung {N : Nat} (h0 : N ≠ 0) : ∃ E r, E = N.log2 - 52 ∧ r = E * 4503599627370496 + N / 2 ^ E ∧ vl r = N / 2 ^ E * 2 ^ E ∧ vl (r + 1) = (N / 2 ^ E + 1) * 2 ^ E := by
  refine ⟨N.log2 - 52, _, rfl, rfl, ?_⟩
  obtain ⟨E, hE⟩ : ∃ E, E = N.log2 - 52 := ⟨_, rfl⟩
  rw [← hE]
  have h1 := Nat.log2_self_le h0
  have h2 := @Nat.lt_log2_self N
  have hp : 0 < 2 ^ E := Nat.pow_pos (by decide)
  obtain ⟨q, hq⟩ : ∃ q, q = N / 2 ^ E := ⟨_, rfl⟩
  rw [← hq]
  have hq2 : q < 9007199254740992 := by
    rw [hq]
    refine (Nat.div_lt_iff_lt_mul hp).2 (Nat.lt_of_lt_of_le h2 ?_)
    rw [show (9007199254740992 : Nat) = 2 ^ 53 from rfl, ← Nat.pow_add]
    exact Nat.pow_le_pow_right (by decide) (by omega)
  have key : ∀ x, 4503599627370496 ≤ x → x < 9007199254740992 → vl (E * 4503599627370496 + x) = x * 2 ^ E := fun x a b => by
    obtain ⟨p1, p2⟩ := rung_parts (e := E) a b
    rw [vl, p1, p2]
  rcases Nat.eq_zero_or_pos E with he | he
  · rw [he, Nat.zero_mul, Nat.zero_add, Nat.pow_zero, Nat.mul_one, Nat.mul_one]
    have e0 : ∀ x, x ≤ 9007199254740992 → vl x = x := fun x hx => by
      rcases Nat.lt_or_ge x 4503599627370496 with h | h
      · exact vl_sub h
      · rcases Nat.lt_or_ge x 9007199254740992 with h' | h'
        · have := key x h h'
          rwa [he, Nat.zero_mul, Nat.zero_add, Nat.pow_zero, Nat.mul_one] at this
        · have : x = 9007199254740992 := by omega
          subst this
          decide +kernel
    exact ⟨e0 q (by omega), e0 (q + 1) (by omega)⟩
  · have hq1 : 4503599627370496 ≤ q := by
      rw [hq]
      refine (Nat.le_div_iff_mul_le hp).2 (Nat.le_trans ?_ h1)
      rw [show (4503599627370496 : Nat) = 2 ^ 52 from rfl, ← Nat.pow_add]
      exact Nat.pow_le_pow_right (by decide) (by omega)
    refine ⟨key q hq1 hq2, ?_⟩
    rcases Nat.lt_or_ge (q + 1) 9007199254740992 with h | h
    · have k2 := key (q + 1) (by omega) h
      rw [← Nat.add_assoc] at k2
      exact k2
    · have e : E * 4503599627370496 + q + 1 = (E + 1) * 4503599627370496 + 4503599627370496 := by omega
      obtain ⟨p1, p2⟩ := rung_parts (e := E + 1) (m := 4503599627370496) (by omega) (by omega)
      rw [e, vl, p1, p2, show q + 1 = 9007199254740992 by omega, Nat.pow_succ]
      omega
/-- What a whole number of smallest units is rounded to. -/
theorem near_sum {s : Bool} {m c N : Nat} (h : m * 2 ^ c = N) : ∃ r, double.write (.number s m (-1074 + (c : Int))) = double.word s (min r 9218868437227405312) ∧ (∀ q, vl q ≤ N → q ≤ r) ∧ (∀ q, N ≤ vl q → r ≤ q) ∧ (N ≠ 0 → N.log2 - 52 ≤ ex r) := by
  show ∃ r, double.nearest s m (-1074 + (c : Int)) = _ ∧ _
  unfold Format.nearest
  have hpc : 0 < 2 ^ c := Nat.pow_pos (by decide)
  by_cases hm : m = 0
  · subst hm
    rw [if_pos rfl]
    have hN : N = 0 := by rw [← h, Nat.zero_mul]
    refine ⟨0, rfl, fun q hq => ?_, fun q _ => Nat.zero_le q, fun h => absurd hN h⟩
    exact vl_le_iff.1 (by rw [vl_zero, ← hN]; exact hq)
  · rw [if_neg hm]
    have hN0 : N ≠ 0 := by
      rw [← h]
      exact Nat.mul_ne_zero hm (by omega)
    obtain ⟨E, r0, hE, hr0, v0, v1⟩ := floor_rung hN0
    have hlog : m.log2 + c = N.log2 := by rw [← h, log2_mul_pow hm]
    have hfr : double.fractionBits = 52 := rfl
    have hlast : max (-1074 + (c : Int) + (m.log2 : Int) - (double.fractionBits : Int)) double.leastPlace = -1074 + (E : Int) := by rw [c4, hfr]; omega
    simp only [hlast]
    rw [show (-1074 + (c : Int) - (-1074 + (E : Int))).toNat = c - E by omega, show (-1074 + (E : Int) - (-1074 + (c : Int))).toNat = E - c by omega, Nat.shiftLeft_eq]
    obtain ⟨k1, k2, k3⟩ := cut_even s (m * 2 ^ (c - E)) (E - c)
    have hdiv : m * 2 ^ (c - E) / 2 ^ (E - c) = N / 2 ^ E := by rw [shl_div, h]
    rw [hdiv] at k1 k2 k3
    obtain ⟨K, hK⟩ : ∃ K, K = Toward.even.cut s (m * 2 ^ (c - E)) (E - c) := ⟨_, rfl⟩
    rw [← hK] at k1 k2 k3 ⊢
    rw [c4, c2, c3, show ((-1074 + (E : Int)) - (-1074)).toNat = E by omega]
    have hp : 0 < 2 ^ E := Nat.pow_pos (by decide)
    have hle : N / 2 ^ E * 2 ^ E ≤ N := Nat.div_mul_le_self _ _
    have hlt : N < (N / 2 ^ E + 1) * 2 ^ E := by
      have := Nat.div_add_mod N (2 ^ E)
      have h4 := Nat.mod_lt N hp
      rw [Nat.add_mul, Nat.one_mul, Nat.mul_comm]
      omega
    rw [← v0] at hle
    rw [← v1] at hlt
    refine ⟨E * 4503599627370496 + K, rfl, fun q hq => ?_, fun q hq => ?_, fun _ => ?_⟩
    · have : q < r0 + 1 := vl_lt_iff.1 (by omega)
      omega
    · rcases Nat.lt_or_ge (vl r0) N with hc | hc
      · have : r0 < q := vl_lt_iff.1 (by omega)
        omega
      · have heq : N = vl r0 := by omega
        have hz : m * 2 ^ (c - E) % 2 ^ (E - c) = 0 := by
          rcases Nat.le_total E c with h5 | h5
          · rw [show E - c = 0 by omega, Nat.pow_zero, Nat.mod_one]
          · have e1 : m * 2 ^ c = N / 2 ^ E * 2 ^ (E - c) * 2 ^ c := by rw [h, heq, v0]; rw [← pow_min h5, v0] at *; exact (congrArg (· / 2 ^ E * 2 ^ E) heq.symm).symm ▸ rfl
            have e2 : m = N / 2 ^ E * 2 ^ (E - c) := Nat.eq_of_mul_eq_mul_right hpc e1
            rw [show c - E = 0 by omega, Nat.pow_zero, Nat.mul_one, e2]
            exact Nat.mul_mod_left _ _
        have := k3 hz
        have h6 : r0 ≤ q := vl_le_iff.1 (by omega)
        omega
    · rw [← hE]
      have h7 : r0 ≤ E * 4503599627370496 + K := by omega
      rcases Nat.eq_zero_or_pos E with h8 | h8
      · omega
      · have h9 : 4503599627370496 ≤ N / 2 ^ E := by
          refine (Nat.le_div_iff_mul_le hp).2 (Nat.le_trans ?_ (Nat.log2_self_le hN0))
          rw [show (4503599627370496 : Nat) = 2 ^ 52 from rfl, ← Nat.pow_add]
          exact Nat.pow_le_pow_right (by decide) (by omega)
        unfold ex
        rw [if_neg (by omega)]
        omega
end Go.Proofs.YtljndllhmdpjlaaGreatDoor
namespace Go.Proofs.YtljndllhmdpjlaaGreatDoor
open Ieee
set_option maxRecDepth 100000
def addS (a b : Nat) : Bool := if sv a + sv b = 0 then ng a && ng b else decide (sv a + sv b < 0)
/-- A sum of two numbers, rounded. -/
theorem add_near {a b : Nat} (ha : rg a < 9218868437227405312) (hb : rg b < 9218868437227405312) :
    ∃ r, fop .add a b = some (double.word (addS a b) (min r 9218868437227405312)) ∧ (∀ q, vl q ≤ (sv a + sv b).natAbs → q ≤ r) ∧ (∀ q, (sv a + sv b).natAbs ≤ vl q → r ≤ q) ∧ ((sv a + sv b).natAbs ≠ 0 → (sv a + sv b).natAbs.log2 - 52 ≤ ex r) := by
  simp only [fop, Format.add, read_num ha, read_num hb, Datum.sum, Option.map_some]
  obtain ⟨c, hc⟩ : ∃ c, c = min (ex (rg a)) (ex (rg b)) := ⟨_, rfl⟩
  have hbase : min (-1074 + (ex (rg a) : Int)) (-1074 + (ex (rg b) : Int)) = -1074 + (c : Int) := by omega
  rw [hbase, show ((-1074 + (ex (rg a) : Int)) - (-1074 + (c : Int))).toNat = ex (rg a) - c by omega, show ((-1074 + (ex (rg b) : Int)) - (-1074 + (c : Int))).toNat = ex (rg b) - c by omega]
  obtain ⟨T, hT⟩ : ∃ T, T = signed (ng a) (mg (rg a)) (ex (rg a) - c) + signed (ng b) (mg (rg b)) (ex (rg b) - c) := ⟨_, rfl⟩
  rw [← hT]
  have hsv : T * ((2 ^ c : Nat) : Int) = sv a + sv b := by
    rw [hT, Int.add_mul, signed_scale, signed_scale, show ex (rg a) - c + c = ex (rg a) by omega, show ex (rg b) - c + c = ex (rg b) by omega]
    rfl
  have hpc : 0 < 2 ^ c := Nat.pow_pos (by decide)
  have hpc' : (0 : Int) < ((2 ^ c : Nat) : Int) := by omega
  have h0 : (T = 0) ↔ (sv a + sv b = 0) := by
    rw [← hsv]
    constructor
    · intro e; rw [e, Int.zero_mul]
    · intro e
      rcases Int.mul_eq_zero.1 e with h' | h'
      · exact h'
      · omega
  have h1 : (T < 0) ↔ (sv a + sv b < 0) := by
    rw [← hsv]
    constructor
    · intro e; exact Int.mul_neg_of_neg_of_pos e hpc'
    · intro e
      rcases Int.lt_trichotomy T 0 with h' | h' | h'
      · exact h'
      · rw [h', Int.zero_mul] at e; omega
      · have := Int.mul_pos h' hpc'; omega
  have hab : T.natAbs * 2 ^ c = (sv a + sv b).natAbs := by rw [← hsv, Int.natAbs_mul, Int.natAbs_natCast]
  have hs : (if T = 0 then ng a && ng b else decide (T < 0)) = addS a b := by
    unfold addS
    by_cases e : T = 0
    · rw [if_pos e, if_pos (h0.1 e)]
    · rw [if_neg e, if_neg (fun k => e (h0.2 k))]
      by_cases e2 : T < 0
      · rw [decide_eq_true e2, decide_eq_true (h1.1 e2)]
      · rw [decide_eq_false e2, decide_eq_false (fun k => e2 (h1.2 k))]
  rw [hs]
  obtain ⟨r, e1, e2, e3, e4⟩ := near_sum (s := addS a b) hab
  exact ⟨r, by rw [e1], e2, e3, e4⟩
theorem dvd_p {x m P : Nat} (h : x = m * P) : P ∣ x := ⟨m, by rw [h, Nat.mul_comm]⟩
theorem dvd_get {x P : Nat} (h : P ∣ x) : ∃ j, x = j * P := by obtain ⟨j, hj⟩ := h; exact ⟨j, by rw [hj, Nat.mul_comm]⟩
theorem zero_p {x j P : Nat} (h : x = j * P) (e : j = 0) : x = 0 := by rw [h, e, Nat.zero_mul]
/-- Is a magnitude whole? -/
def isWh (r : Nat) : Prop := 2 ^ 1074 ∣ vl r
theorem log2_aux {N j P k : Nat} (hP : P = 2 ^ k) (h0 : j ≠ 0) (h : N = j * P) : N.log2 = j.log2 + k := by rw [h, hP, log2_mul_pow h0]
theorem isWh_zero : isWh 0 := by rw [isWh, vl_zero]; exact Nat.dvd_zero _
theorem isWh_ex {r : Nat} (h : 1074 ≤ ex r) : isWh r := by
  have e : vl r = mg r * 2 ^ (ex r - 1074) * 2 ^ 1074 := pow_min h (mg r)
  exact dvd_p e
/-- A sum of whole numbers is whole, or beyond all numbers. -/
theorem add_whole {a b z : Nat} (ha : rg a < 9218868437227405312) (hb : rg b < 9218868437227405312) (h : 2 ^ 1074 ∣ (sv a + sv b).natAbs) (hz : fop .add a b = some z) : rg z = 9218868437227405312 ∨ (rg z < 9218868437227405312 ∧ isWh (rg z)) := by
  obtain ⟨r, e1, e2, e3, e4⟩ := add_near ha hb
  rw [e1] at hz
  obtain rfl := Option.some.inj hz
  have hm : min r 9218868437227405312 ≤ 9218868437227405312 := Nat.min_le_right _ _
  rw [(word_rg (addS a b) (min r 9218868437227405312) (Nat.lt_of_le_of_lt hm (by decide))).1]
  rcases Nat.lt_or_ge r 9218868437227405312 with hr | hr
  · right
    rw [Nat.min_eq_left (by omega)]
    refine ⟨hr, ?_⟩
    obtain ⟨N, hN⟩ : ∃ N, N = (sv a + sv b).natAbs := ⟨_, rfl⟩
    rw [← hN] at h e2 e3 e4
    by_cases h0 : N = 0
    · have : r ≤ 0 := e3 0 (by rw [h0]; exact Nat.zero_le _)
      rw [show r = 0 by omega]
      exact isWh_zero
    · rcases Nat.lt_or_ge (N.log2 - 52) 1074 with hl | hl
      · obtain ⟨j, hj⟩ := dvd_get h
        have hj0 : j ≠ 0 := fun e => h0 (zero_p hj e)
        have hlog : N.log2 = j.log2 + 1074 := log2_aux rfl hj0 hj
        have hj2 : j < 9007199254740992 := by
          have := @Nat.lt_log2_self j
          have h5 : (2 : Nat) ^ (j.log2 + 1) ≤ 2 ^ 53 := Nat.pow_le_pow_right (by decide) (by omega)
          omega
        obtain ⟨d, hd⟩ := rep_any j 1074 hj2
        have hdN : vl d = N := hd.trans hj.symm
        have h1 := e2 d (Nat.le_of_eq hdN)
        have h2 := e3 d (Nat.le_of_eq hdN.symm)
        rw [show r = d by omega]
        exact dvd_p hd
      · exact isWh_ex (Nat.le_trans hl (e4 h0))
  · left
    exact Nat.min_eq_right hr
theorem isWh_iff {a : Nat} : isWh (rg a) ↔ vl (rg a) = wholeN a * 2 ^ 1074 := by
  constructor
  · intro h; exact (Nat.div_mul_cancel h).symm
  · intro h; exact dvd_p h
end Go.Proofs.YtljndllhmdpjlaaGreatDoor
namespace Go.Proofs.YtljndllhmdpjlaaGreatDoor
open Ieee
set_option maxRecDepth 100000
theorem rest_rep {y : Nat} (hy : y ≠ 0) : ∀ (r : Nat), r < 9218868437227405312 → ∃ d, d ≤ r ∧ vl d = vl r % vl y := by
  intro r
  induction r using Nat.strongRecOn with
  | _ r ih =>
    intro hr
    rcases Nat.lt_or_ge r y with h | h
    · exact ⟨r, Nat.le_refl _, (Nat.mod_eq_of_lt (vl_lt h)).symm⟩
    · obtain ⟨q, d, h1, h2, h3, h4, h5, h6, h7, h8⟩ := fit_step hr hy h
      obtain ⟨e, he1, he2⟩ := ih d h7 (by omega)
      exact ⟨e, by omega, by rw [he2, h6]⟩
/-- The rest's magnitude. -/
noncomputable def modR (a b : Nat) : Nat := if rg b = 9218868437227405312 then rg a else rungOf (vl (rg a) % vl (rg b))
noncomputable def m0F (a b : Nat) : Nat := double.word (ng a) (modR a b)
theorem modR_fin {a b : Nat} (ha : rg a < 9218868437227405312) (h0 : rg b ≠ 0) (hb : rg b ≠ 9218868437227405312) : vl (modR a b) = vl (rg a) % vl (rg b) ∧ modR a b ≤ rg a := by
  obtain ⟨d, h1, h2⟩ := rest_rep h0 (rg a) ha
  rw [modR, if_neg hb, ← h2, rungOf_eq rfl]
  exact ⟨rfl, h1⟩
theorem modR_le {a b : Nat} (ha : rg a < 9218868437227405312) (h0 : rg b ≠ 0) : modR a b ≤ rg a := by
  by_cases hb : rg b = 9218868437227405312
  · rw [modR, if_pos hb]; exact Nat.le_refl _
  · exact (modR_fin ha h0 hb).2
theorem modR_unique {a b d : Nat} (hb : rg b ≠ 9218868437227405312) (h : vl d = vl (rg a) % vl (rg b)) : modR a b = d := by rw [modR, if_neg hb, rungOf_eq h]
theorem modR_zero {a b : Nat} (h : rg a = 0) : modR a b = 0 := by
  unfold modR
  split
  · exact h
  · exact rungOf_eq (by rw [h, vl_zero, Nat.zero_mod])
theorem m0_parts {a b : Nat} (ha : rg a < 9218868437227405312) (h0 : rg b ≠ 0) : rg (m0F a b) = modR a b ∧ ng (m0F a b) = ng a ∧ m0F a b < 18446744073709551616 := word_rg _ _ (by have := modR_le ha h0; omega)
theorem word_self' {a : Nat} (ha : a < 18446744073709551616) : double.word (ng a) (rg a) = a := by
  obtain ⟨h1, h2, h3⟩ := word_rg (ng a) (rg a) (rg_lt a)
  exact rg_ng_inj h3 ha h1 h2
theorem add_fin {a b : Nat} (ha : rg a < 9218868437227405312) (hb : rg b < 9218868437227405312) : ∃ z, fop .add a b = some z := by
  simp only [fop, Format.add, read_num ha, read_num hb, Datum.sum, Option.map_some]
  exact ⟨_, rfl⟩
theorem add_inf {a b : Nat} (ha : rg a < 9218868437227405312) (hb : rg b = 9218868437227405312) : fop .add a b = some (double.word (ng b) 9218868437227405312) := by
  simp only [fop, Format.add, read_num ha, read_inf hb, Datum.sum, Option.map_some, Format.write, c3]
theorem fin_notN {b : Nat} (hb : rg b < 9218868437227405312) : isN b = false := decide_eq_false (by omega)
theorem sub_fin {a b : Nat} (ha : rg a < 9218868437227405312) (hb : rg b < 9218868437227405312) (hb64 : b < 18446744073709551616) : ∃ z, fop .sub a b = some z := by
  rw [sub_add hb64 (fin_notN hb)]
  exact add_fin ha (by rw [(negate_parts hb64).1]; exact hb)
theorem nearest_ng (s : Bool) (m : Nat) (p : Int) : ng (double.nearest s m p) = s := by
  unfold Format.nearest
  split
  · exact (word_rg s 0 (by decide)).2.1
  · refine (word_rg s _ (Nat.lt_of_le_of_lt (Nat.min_le_right _ _) ?_)).2.1
    rw [c3]; decide
theorem quo_fin {a b : Nat} (ha : isN a = false) (hb : isN b = false) (h0 : rg b ≠ 0) (hi : rg a < 9218868437227405312 ∨ rg b < 9218868437227405312) : ∃ z, fop .quo a b = some z ∧ ng z = (ng a ^^ ng b) := by
  have hA : rg a < 9218868437227405312 ∨ rg a = 9218868437227405312 := by have := of_decide_eq_false ha; omega
  have hB : rg b < 9218868437227405312 ∨ rg b = 9218868437227405312 := by have := of_decide_eq_false hb; omega
  rcases hA with hA | hA <;> rcases hB with hB | hB
  · simp only [fop, Format.div, read_num hA, read_num hB, Datum.quotient]
    rw [if_neg (mg_pos h0)]
    exact ⟨_, rfl, nearest_ng _ _ _⟩
  · simp only [fop, Format.div, read_num hA, read_inf hB, Datum.quotient]
    exact ⟨_, rfl, nearest_ng _ _ _⟩
  · simp only [fop, Format.div, read_inf hA, read_num hB, Datum.quotient]
    exact ⟨_, rfl, (word_rg _ _ (by rw [c3]; decide)).2.1⟩
  · omega
theorem sub_one_some {a : Nat} (ha : isN a = false) : ∃ z, fop .sub a 4607182418800017408 = some z := by
  have h1 : rg 4607182418800017408 = 4607182418800017408 := by decide
  have hA : rg a < 9218868437227405312 ∨ rg a = 9218868437227405312 := by have := of_decide_eq_false ha; omega
  rcases hA with hA | hA
  · exact sub_fin hA (by rw [h1]; decide) (by decide)
  · simp only [fop, Format.sub, read_inf hA, read_num (b := 4607182418800017408) (by rw [h1]; decide), Datum.opposite, Datum.sum, Option.map_some]
    exact ⟨_, rfl⟩
def nanCase (a b : Nat) : Bool := isN a || isN b || decide (rg a = 9218868437227405312)
noncomputable def flipB (a b : Nat) : Bool := decide (modR a b ≠ 0) && (ng a != ng b)
noncomputable def modF (a b : Nat) : Nat := if nanCase a b then 9221120237041090560 else if modR a b = 0 then double.word (ng b) 0 else if flipB a b then ansF (fop .add (m0F a b) b) else m0F a b
noncomputable def subF (a b : Nat) : Nat := ansF (fop .sub a (m0F a b))
noncomputable def d0F (a b : Nat) : Nat := ansF (fop .quo (subF a b) b)
noncomputable def d1F (a b : Nat) : Nat := if flipB a b then ansF (fop .sub (d0F a b) 4607182418800017408) else d0F a b
/-- Is what lies above the number rounded down more than a half? -/
def upB (d : Nat) : Bool := match fop .sub d (fround .down d) with
  | some z => ford z 4602678819172646912 == some .gt
  | none => false
def wholeF (d : Nat) : Nat := if upB d then ansF (fop .add (fround .down d) 4607182418800017408) else fround .down d
noncomputable def floorF (a b : Nat) : Nat := if nanCase a b then 9221120237041090560 else if isZ (d1F a b) then double.word (ng a ^^ ng b) 0 else wholeF (d1F a b)
section
variable {a b : Nat} (ha : a < 18446744073709551616) (hf : rg a < 9218868437227405312) (hb : b < 18446744073709551616) (hn : isN b = false) (h0 : rg b ≠ 0)
include hf h0
theorem sub_m0 : fop .sub a (m0F a b) = some (subF a b) := by
  obtain ⟨m1, m2, m3⟩ := m0_parts hf h0
  obtain ⟨z, hz⟩ := sub_fin hf (by rw [m1]; have := modR_le hf h0; omega) m3
  rw [subF, hz]; rfl
include hn ha
theorem quo_m0 : fop .quo (subF a b) b = some (d0F a b) := by
  have hs := fop_num (sub_m0 hf h0)
  have hB : rg b < 9218868437227405312 ∨ rg b = 9218868437227405312 := by have := of_decide_eq_false hn; omega
  have : ∃ z, fop .quo (subF a b) b = some z ∧ ng z = (ng (subF a b) ^^ ng b) := by
    refine quo_fin hs.1 hn h0 ?_
    rcases hB with hB | hB
    · exact .inr hB
    · left
      have hm : m0F a b = a := by rw [m0F, modR, if_pos hB]; exact word_self' ha
      have h1 := sub_m0 hf h0
      rw [hm, sub_self (fin_notN hf), if_neg (by omega)] at h1
      rw [← Option.some.inj h1]; decide
  obtain ⟨z, hz, _⟩ := this
  rw [d0F, hz]; rfl
theorem d0_num : isN (d0F a b) = false ∧ d0F a b < 18446744073709551616 := fop_num (quo_m0 ha hf hn h0)
theorem sub_d0 : fop .sub (d0F a b) 4607182418800017408 = some (ansF (fop .sub (d0F a b) 4607182418800017408)) := by
  obtain ⟨z, hz⟩ := sub_one_some (d0_num ha hf hn h0).1
  rw [hz]; rfl
theorem d1_num : isN (d1F a b) = false ∧ d1F a b < 18446744073709551616 := by
  unfold d1F
  split
  · exact fop_num (sub_d0 ha hf hn h0)
  · exact d0_num ha hf hn h0
omit ha in
theorem add_m0 : fop .add (m0F a b) b = some (ansF (fop .add (m0F a b) b)) := by
  obtain ⟨m1, m2, m3⟩ := m0_parts hf h0
  have hB : rg b < 9218868437227405312 ∨ rg b = 9218868437227405312 := by have := of_decide_eq_false hn; omega
  have hm : rg (m0F a b) < 9218868437227405312 := by rw [m1]; have := modR_le hf h0; omega
  rcases hB with hB | hB
  · obtain ⟨z, hz⟩ := add_fin hm hB
    rw [hz]; rfl
  · rw [add_inf hm hB]; rfl
end
/-- The sign of a number below nought. -/
theorem ford_neg {b : Nat} (hn : isN b = false) (h0 : rg b ≠ 0) : (ford b 0 == some .lt) = ng b := by
  rw [ford_val hn (by decide)]
  have hp : pc 0 = 0 := by decide
  rw [hp]
  obtain ⟨p1, p2⟩ := pc_abs b
  cases h : ng b with
  | true => rw [cmp3_lt (by rw [p1 h]; omega)]; rfl
  | false => rw [cmp3_gt (by rw [p2 h]; omega)]; rfl
theorem ford_nan_no {a b : Nat} (h : isN a = true) (o : Ordering) : (ford a b == some o) = false := by rw [ford_nan (.inl h)]; rfl
end Go.Proofs.YtljndllhmdpjlaaGreatDoor
namespace Go.Proofs.YtljndllhmdpjlaaGreatDoor
open Go.RowKit
set_option maxRecDepth 100000
theorem ford_geq {r y : Nat} (hr : r < 9218868437227405312) (hy : y ≤ 9218868437227405312) : (ford r y == some .gt || ford r y == some .eq) = decide (y ≤ r) := by
  have e1 := Nat.mod_eq_of_lt (show r < 9223372036854775808 by omega)
  have e2 := Nat.mod_eq_of_lt (show y < 9223372036854775808 by omega)
  have h := @ford_rg r y (decide_eq_false (by show ¬ 9218868437227405312 < r % 9223372036854775808; omega)) (decide_eq_false (by show ¬ 9218868437227405312 < y % 9223372036854775808; omega))
  unfold rg at h
  rw [e1, e2] at h
  rw [h]
  rcases Nat.lt_trichotomy r y with h1 | h1 | h1
  · rw [cmp3_lt (by omega), decide_eq_false (by omega)]; rfl
  · subst h1; rw [cmp3_self, decide_eq_true (Nat.le_refl _)]; rfl
  · rw [cmp3_gt (by omega), decide_eq_true (by omega)]; rfl
theorem rg_self {r : Nat} (h : r < 9223372036854775808) : rg r = r ∧ ng r = false := by
  have := word_rg false r h
  exact ⟨this.1, this.2.1⟩
theorem frF_pos {r : Nat} (hr : r < 9218868437227405312) : frF r = 4602678819172646912 + (mg (nr r) - 4503599627370496) := by
  obtain ⟨h1, h2⟩ := rg_self (r := r) (by omega)
  rw [frF, h1, h2]; rfl
theorem frF_lt {r y : Nat} (hr : r < 9218868437227405312) (hy : y < 9218868437227405312) (r0 : r ≠ 0) (y0 : y ≠ 0) : (ford (frF r) (frF y) == some .lt) = decide (mg (nr r) < mg (nr y)) := by
  obtain ⟨r1, r2⟩ := mg_nr r0
  obtain ⟨y1, y2⟩ := mg_nr y0
  rw [frF_pos hr, frF_pos hy]
  have h := ford_geq (r := 4602678819172646912 + (mg (nr r) - 4503599627370496)) (y := 4602678819172646912 + (mg (nr y) - 4503599627370496)) (by omega) (by omega)
  have e1 := Nat.mod_eq_of_lt (show 4602678819172646912 + (mg (nr r) - 4503599627370496) < 9223372036854775808 by omega)
  have e2 := Nat.mod_eq_of_lt (show 4602678819172646912 + (mg (nr y) - 4503599627370496) < 9223372036854775808 by omega)
  have h := @ford_rg (4602678819172646912 + (mg (nr r) - 4503599627370496)) (4602678819172646912 + (mg (nr y) - 4503599627370496)) (decide_eq_false (by show ¬ 9218868437227405312 < _ % 9223372036854775808; omega)) (decide_eq_false (by show ¬ 9218868437227405312 < _ % 9223372036854775808; omega))
  unfold rg at h
  rw [e1, e2] at h
  rw [h]
  by_cases hc : mg (nr r) < mg (nr y)
  · rw [cmp3_lt (by omega), decide_eq_true hc]; rfl
  · rw [decide_eq_false hc, cmp3, if_neg (by omega)]
    split <;> rfl
theorem frE_pos {r : Nat} (hr : r < 9218868437227405312) : frE r = (ex (nr r) : Int) - 1021 - (nd r : Int) := by
  obtain ⟨h1, _⟩ := rg_self (r := r) (by omega)
  unfold frE nd
  rw [h1]
  split <;> rfl
theorem fit_exp {r y : Nat} (hr : r < 9218868437227405312) (hy : y < 9218868437227405312) (h : ex (nr y) + nd r + (if mg (nr r) < mg (nr y) then 1 else 0) ≤ ex (nr r) + nd y) : frE r - frE y - (if mg (nr r) < mg (nr y) then 1 else 0 : Nat) = ((fitK r y : Nat) : Int) := by
  rw [frE_pos hr, frE_pos hy]
  unfold fitK
  omega
theorem frE_bound {r : Nat} (hr : r < 9218868437227405312) : -1100 ≤ frE r ∧ frE r ≤ 1100 := by
  rw [frE_pos hr]
  have h1 : ex (nr r) ≤ 2045 := by
    by_cases h0 : r = 0
    · subst h0; decide
    · have := nr_high h0 hr
      unfold ex
      split <;> omega
  have h2 : nd r ≤ 52 := by unfold nd; split <;> omega
  omega
theorem pos_self {a : Nat} (ha : a < 18446744073709551616) (h : ng a = false) : rg a = a := by
  rw [ng_of ha] at h
  have := of_decide_eq_false h
  exact Nat.mod_eq_of_lt (by omega)
theorem neg_self {a : Nat} (ha : a < 18446744073709551616) (h : ng a = true) : a ^^^ 9223372036854775808 = rg a := by
  rw [ng_of ha] at h
  have h1 := of_decide_eq_true h
  obtain ⟨c, rfl⟩ : ∃ c, a = 9223372036854775808 + c := ⟨a - 9223372036854775808, by omega⟩
  have h2 := negate_high (b := c) (by omega)
  unfold fnegate at h2
  rw [h2]
  unfold rg
  omega
theorem neg_word {r : Nat} (h : r < 9223372036854775808) : r ^^^ 9223372036854775808 = Ieee.double.word true r := by
  have := negate_low h
  unfold fnegate at this
  rw [this]
  unfold Ieee.Format.word
  rw [c1]; rfl
section
variable (w : World)
section
variable (a : Nat) (ha : a < 18446744073709551616) (h0 : rg a ≠ 0) (hf : rg a < 9218868437227405312)
include ha
section
include h0 hf
theorem Frexp_num : Calls Tryz.prog 70 #[.float .f64 a] w fun e w' => e = .returned (.tuple #[.float .f64 (frF a), .int .i64 (frE a)]) ∧ Below w.heap.size w w' := by
  refine calls_cw Tryz.func70 rfl Tryz.ntmps70 rfl ?_
  have HF : Per (No) w (fun _ => True) := Per.true_
  have LW := Ext.refl (No) w
  have XLW : ∀ q9, (No) q9 → (No) q9 ∨ w.heap.size ≤ q9 := fun _ h => Or.inl h
  have E := Ext.refl (No) w
  refine cw_seq ?_
  refine cw_region ?_
  refine rs_op rfl (ow_assign rfl ?_)
  refine rs_op rfl (ow_assign rfl ?_)
  refine rs_nil ?_
  refine ew_next ?_
  refine cw_seq ?_
  refine cw_else rfl ?_
  refine cw_skip ?_
  refine ew_next ?_
  refine cw_seq ?_
  refine cw_region ?_
  refine rs_op rfl (ow_move rfl ?_)
  refine rs_op rfl (ow_enter en106 rfl ((frexp_num _ a ha h0 hf).mono ?_))
  rintro e w1 ⟨rfl, hb⟩
  refine ⟨_, rfl, ?_⟩
  have Ec := Ext.of_below hb No
  replace E := E.trans Ec.no
  clear hb Ec
  refine rs_op rfl (ow_extract rfl rfl ?_)
  refine rs_op rfl (ow_extract rfl rfl ?_)
  refine rs_op rfl (ow_assign rfl ?_)
  refine rs_op rfl (ow_assign rfl ?_)
  refine rs_nil ?_
  refine ew_next ?_
  refine cw_ret ?_
  refine ew_ret (rs := [.tmp 2, .tmp 3]) (vs := [_, _]) rfl ⟨rfl, rfl, trivial⟩ ?_
  exact ⟨rfl, (LW.step E XLW).toBelow⟩
theorem ldexp_all (k q : Nat) (hk : k < 4096) (hq : q < 9218868437227405312) (hv : vl q = vl (rg a) * 2 ^ k) : Calls Tryz.prog 108 #[.float .f64 a, .int .i64 ((k : Nat) : Int)] w fun e w' => e = .returned (.float .f64 (Ieee.double.word (ng a) q)) ∧ Below w.heap.size w w' := by
  rcases Nat.lt_or_ge q 4503599627370496 with hn | hn
  · refine ldexp_sub w a k q ha h0 hf hk hq hv hn (fun e => ?_)
    subst e
    rw [vl_zero] at hv
    have h1 : 0 < vl (rg a) := by
      rcases Nat.eq_zero_or_pos (vl (rg a)) with h' | h'
      · exact absurd (vl_zero_iff.1 h') h0
      · exact h'
    have := Nat.mul_pos h1 (show 0 < 2 ^ k from Nat.pow_pos (by decide))
    omega
  · exact ldexp_norm w a k q ha h0 hf hk hq hv hn
theorem Ldexp_num (k q : Nat) (hk : k < 4096) (hq : q < 9218868437227405312) (hv : vl q = vl (rg a) * 2 ^ k) : Calls Tryz.prog 72 #[.float .f64 a, .int .i64 ((k : Nat) : Int)] w fun e w' => e = .returned (.float .f64 (Ieee.double.word (ng a) q)) ∧ Below w.heap.size w w' := by
  refine calls_cw Tryz.func72 rfl Tryz.ntmps72 rfl ?_
  have HF : Per (No) w (fun _ => True) := Per.true_
  have LW := Ext.refl (No) w
  have XLW : ∀ q9, (No) q9 → (No) q9 ∨ w.heap.size ≤ q9 := fun _ h => Or.inl h
  have E := Ext.refl (No) w
  refine cw_seq ?_
  refine cw_region ?_
  refine rs_op rfl (ow_assign rfl ?_)
  refine rs_nil ?_
  refine ew_next ?_
  refine cw_seq ?_
  refine cw_else rfl ?_
  refine cw_skip ?_
  refine ew_next ?_
  refine cw_seq ?_
  refine cw_region ?_
  refine rs_op rfl (ow_move rfl ?_)
  refine rs_op rfl (ow_move rfl ?_)
  refine rs_op rfl (ow_enter en108 rfl ((ldexp_all _ a ha h0 hf k q hk hq hv).mono ?_))
  rintro e w1 ⟨rfl, hb⟩
  refine ⟨_, rfl, ?_⟩
  have Ec := Ext.of_below hb No
  replace E := E.trans Ec.no
  clear hb Ec
  refine rs_op rfl (ow_assign rfl ?_)
  refine rs_nil ?_
  refine ew_next ?_
  refine cw_ret ?_
  refine ew_ret (rs := [.tmp 4]) (vs := [_]) rfl ⟨rfl, trivial⟩ ?_
  exact ⟨rfl, (LW.step E XLW).toBelow⟩
end
section
variable (hz : rg a = 0)
include hz
theorem frexp_zero : Calls Tryz.prog 106 #[.float .f64 a] w fun e w' => e = .returned (.tuple #[.float .f64 a, .int .i64 0]) ∧ Below w.heap.size w w' := by
  have _ := ha
  have hz2 : isZ a = true := decide_eq_true hz
  refine calls_cw Tryz.func106 rfl Tryz.ntmps106 rfl ?_
  have HF : Per (No) w (fun _ => True) := Per.true_
  have LW := Ext.refl (No) w
  have XLW : ∀ q9, (No) q9 → (No) q9 ∨ w.heap.size ≤ q9 := fun _ h => Or.inl h
  have E := Ext.refl (No) w
  refine cw_seq ?_
  refine cw_region ?_
  refine rs_op rfl (ow_assign rfl ?_)
  refine rs_op rfl (ow_assign rfl ?_)
  refine rs_nil ?_
  refine ew_next ?_
  refine cw_seq ?_
  refine cw_block ?_
  refine cw_seq ?_
  refine cw_region ?_
  refine rs_op rfl (ow_move rfl ?_)
  refine rs_op rfl (ow_feql rfl rfl ?_)
  refine rs_op rfl (ow_assign rfl ?_)
  refine rs_nil ?_
  refine ew_next ?_
  refine cw_set 5 (.bool true) rfl ((by rw [ford_zero, hz2] : (.bool (ford a 0 == some .eq) : Value) = _)) ?_
  refine cw_then rfl ?_
  refine cw_seq ?_
  refine cw_region ?_
  refine rs_op rfl (ow_move rfl ?_)
  refine rs_op rfl (ow_assign rfl ?_)
  refine rs_op rfl (ow_assign rfl ?_)
  refine rs_nil ?_
  refine ew_next ?_
  refine cw_ret ?_
  refine ew_block_ret ?_
  refine ew_then_ret ?_
  refine ew_ret (rs := [.tmp 2, .tmp 3]) (vs := [_, _]) rfl ⟨rfl, rfl, trivial⟩ ?_
  exact ⟨rfl, (LW.step E XLW).toBelow⟩
theorem Frexp_zero : Calls Tryz.prog 70 #[.float .f64 a] w fun e w' => e = .returned (.tuple #[.float .f64 a, .int .i64 0]) ∧ Below w.heap.size w w' := by
  refine calls_cw Tryz.func70 rfl Tryz.ntmps70 rfl ?_
  have HF : Per (No) w (fun _ => True) := Per.true_
  have LW := Ext.refl (No) w
  have XLW : ∀ q9, (No) q9 → (No) q9 ∨ w.heap.size ≤ q9 := fun _ h => Or.inl h
  have E := Ext.refl (No) w
  refine cw_seq ?_
  refine cw_region ?_
  refine rs_op rfl (ow_assign rfl ?_)
  refine rs_op rfl (ow_assign rfl ?_)
  refine rs_nil ?_
  refine ew_next ?_
  refine cw_seq ?_
  refine cw_else rfl ?_
  refine cw_skip ?_
  refine ew_next ?_
  refine cw_seq ?_
  refine cw_region ?_
  refine rs_op rfl (ow_move rfl ?_)
  refine rs_op rfl (ow_enter en106 rfl ((frexp_zero _ a ha hz).mono ?_))
  rintro e w1 ⟨rfl, hb⟩
  refine ⟨_, rfl, ?_⟩
  have Ec := Ext.of_below hb No
  replace E := E.trans Ec.no
  clear hb Ec
  refine rs_op rfl (ow_extract rfl rfl ?_)
  refine rs_op rfl (ow_extract rfl rfl ?_)
  refine rs_op rfl (ow_assign rfl ?_)
  refine rs_op rfl (ow_assign rfl ?_)
  refine rs_nil ?_
  refine ew_next ?_
  refine cw_ret ?_
  refine ew_ret (rs := [.tmp 2, .tmp 3]) (vs := [_, _]) rfl ⟨rfl, rfl, trivial⟩ ?_
  exact ⟨rfl, (LW.step E XLW).toBelow⟩
theorem ldexp_zero (k : Int) : Calls Tryz.prog 108 #[.float .f64 a, .int .i64 k] w fun e w' => e = .returned (.float .f64 a) ∧ Below w.heap.size w w' := by
  have _ := ha
  have hz2 : isZ a = true := decide_eq_true hz
  refine calls_cw Tryz.func108 rfl Tryz.ntmps108 rfl ?_
  have HF : Per (No) w (fun _ => True) := Per.true_
  have LW := Ext.refl (No) w
  have XLW : ∀ q9, (No) q9 → (No) q9 ∨ w.heap.size ≤ q9 := fun _ h => Or.inl h
  have E := Ext.refl (No) w
  refine cw_seq ?_
  refine cw_region ?_
  refine rs_op rfl (ow_assign rfl ?_)
  refine rs_nil ?_
  refine ew_next ?_
  refine cw_seq ?_
  refine cw_block ?_
  refine cw_seq ?_
  refine cw_region ?_
  refine rs_op rfl (ow_move rfl ?_)
  refine rs_op rfl (ow_feql rfl rfl ?_)
  refine rs_op rfl (ow_assign rfl ?_)
  refine rs_nil ?_
  refine ew_next ?_
  refine cw_set 8 (.bool true) rfl ((by rw [ford_zero, hz2] : (.bool (ford a 0 == some .eq) : Value) = _)) ?_
  refine cw_then rfl ?_
  refine cw_seq ?_
  refine cw_region ?_
  refine rs_op rfl (ow_move rfl ?_)
  refine rs_op rfl (ow_assign rfl ?_)
  refine rs_nil ?_
  refine ew_next ?_
  refine cw_ret ?_
  refine ew_block_ret ?_
  refine ew_then_ret ?_
  refine ew_ret (rs := [.tmp 4]) (vs := [_]) rfl ⟨rfl, trivial⟩ ?_
  exact ⟨rfl, (LW.step E XLW).toBelow⟩
theorem Ldexp_zero (k : Int) : Calls Tryz.prog 72 #[.float .f64 a, .int .i64 k] w fun e w' => e = .returned (.float .f64 a) ∧ Below w.heap.size w w' := by
  refine calls_cw Tryz.func72 rfl Tryz.ntmps72 rfl ?_
  have HF : Per (No) w (fun _ => True) := Per.true_
  have LW := Ext.refl (No) w
  have XLW : ∀ q9, (No) q9 → (No) q9 ∨ w.heap.size ≤ q9 := fun _ h => Or.inl h
  have E := Ext.refl (No) w
  refine cw_seq ?_
  refine cw_region ?_
  refine rs_op rfl (ow_assign rfl ?_)
  refine rs_nil ?_
  refine ew_next ?_
  refine cw_seq ?_
  refine cw_else rfl ?_
  refine cw_skip ?_
  refine ew_next ?_
  refine cw_seq ?_
  refine cw_region ?_
  refine rs_op rfl (ow_move rfl ?_)
  refine rs_op rfl (ow_move rfl ?_)
  refine rs_op rfl (ow_enter en108 rfl ((ldexp_zero _ a ha hz k).mono ?_))
  rintro e w1 ⟨rfl, hb⟩
  refine ⟨_, rfl, ?_⟩
  have Ec := Ext.of_below hb No
  replace E := E.trans Ec.no
  clear hb Ec
  refine rs_op rfl (ow_assign rfl ?_)
  refine rs_nil ?_
  refine ew_next ?_
  refine cw_ret ?_
  refine ew_ret (rs := [.tmp 4]) (vs := [_]) rfl ⟨rfl, trivial⟩ ?_
  exact ⟨rfl, (LW.step E XLW).toBelow⟩
end
section
variable (hi : rg a = 9218868437227405312)
include hi
theorem frexp_inf : Calls Tryz.prog 106 #[.float .f64 a] w fun e w' => e = .returned (.tuple #[.float .f64 a, .int .i64 0]) ∧ Below w.heap.size w w' := by
  have hz2 : isZ a = false := decide_eq_false (by omega)
  have hinf : decide (rg a = 9218868437227405312) = true := decide_eq_true hi
  refine calls_cw Tryz.func106 rfl Tryz.ntmps106 rfl ?_
  have HF : Per (No) w (fun _ => True) := Per.true_
  have LW := Ext.refl (No) w
  have XLW : ∀ q9, (No) q9 → (No) q9 ∨ w.heap.size ≤ q9 := fun _ h => Or.inl h
  have E := Ext.refl (No) w
  refine cw_seq ?_
  refine cw_region ?_
  refine rs_op rfl (ow_assign rfl ?_)
  refine rs_op rfl (ow_assign rfl ?_)
  refine rs_nil ?_
  refine ew_next ?_
  refine cw_seq ?_
  refine cw_block ?_
  refine cw_seq ?_
  refine cw_region ?_
  refine rs_op rfl (ow_move rfl ?_)
  refine rs_op rfl (ow_feql rfl rfl ?_)
  refine rs_op rfl (ow_assign rfl ?_)
  refine rs_nil ?_
  refine ew_next ?_
  refine cw_set 5 (.bool false) rfl ((by rw [ford_zero, hz2] : (.bool (ford a 0 == some .eq) : Value) = _)) ?_
  refine cw_else rfl ?_
  refine cw_seq ?_
  refine cw_region ?_
  refine rs_op rfl (ow_move rfl ?_)
  refine rs_op rfl (ow_enter en61 rfl ((misinf_any _ a ha).mono ?_))
  rintro e w1 ⟨rfl, hb⟩
  refine ⟨_, rfl, ?_⟩
  have Ec := Ext.of_below hb No
  replace E := E.trans Ec.no
  clear hb Ec
  refine rs_set 11 (.bool true) rfl ((by rw [hinf] : (.bool (decide (rg a = 9218868437227405312)) : Value) = _)) ?_
  refine rs_op rfl (ow_move rfl ?_)
  refine rs_op rfl (ow_off rfl ?_)
  refine rs_op rfl (ow_off rfl ?_)
  refine rs_op rfl (ow_pickT rfl rfl ?_)
  refine rs_op rfl (ow_assign rfl ?_)
  refine rs_nil ?_
  refine ew_next ?_
  refine cw_then rfl ?_
  refine cw_seq ?_
  refine cw_region ?_
  refine rs_op rfl (ow_move rfl ?_)
  refine rs_op rfl (ow_assign rfl ?_)
  refine rs_op rfl (ow_assign rfl ?_)
  refine rs_nil ?_
  refine ew_next ?_
  refine cw_ret ?_
  refine ew_block_ret ?_
  refine ew_then_ret ?_
  refine ew_ret (rs := [.tmp 2, .tmp 3]) (vs := [_, _]) rfl ⟨rfl, rfl, trivial⟩ ?_
  exact ⟨rfl, (LW.step E XLW).toBelow⟩
theorem Frexp_inf : Calls Tryz.prog 70 #[.float .f64 a] w fun e w' => e = .returned (.tuple #[.float .f64 a, .int .i64 0]) ∧ Below w.heap.size w w' := by
  refine calls_cw Tryz.func70 rfl Tryz.ntmps70 rfl ?_
  have HF : Per (No) w (fun _ => True) := Per.true_
  have LW := Ext.refl (No) w
  have XLW : ∀ q9, (No) q9 → (No) q9 ∨ w.heap.size ≤ q9 := fun _ h => Or.inl h
  have E := Ext.refl (No) w
  refine cw_seq ?_
  refine cw_region ?_
  refine rs_op rfl (ow_assign rfl ?_)
  refine rs_op rfl (ow_assign rfl ?_)
  refine rs_nil ?_
  refine ew_next ?_
  refine cw_seq ?_
  refine cw_else rfl ?_
  refine cw_skip ?_
  refine ew_next ?_
  refine cw_seq ?_
  refine cw_region ?_
  refine rs_op rfl (ow_move rfl ?_)
  refine rs_op rfl (ow_enter en106 rfl ((frexp_inf _ a ha hi).mono ?_))
  rintro e w1 ⟨rfl, hb⟩
  refine ⟨_, rfl, ?_⟩
  have Ec := Ext.of_below hb No
  replace E := E.trans Ec.no
  clear hb Ec
  refine rs_op rfl (ow_extract rfl rfl ?_)
  refine rs_op rfl (ow_extract rfl rfl ?_)
  refine rs_op rfl (ow_assign rfl ?_)
  refine rs_op rfl (ow_assign rfl ?_)
  refine rs_nil ?_
  refine ew_next ?_
  refine cw_ret ?_
  refine ew_ret (rs := [.tmp 2, .tmp 3]) (vs := [_, _]) rfl ⟨rfl, rfl, trivial⟩ ?_
  exact ⟨rfl, (LW.step E XLW).toBelow⟩
end
end
/-! ### math.mod -/
theorem rd173_1 : Gives 173 #[] (.float .f64 9221120237041090561) := by
  intro w
  refine calls_cw Tryz.func173 rfl Tryz.ntmps173 rfl ?_
  have HF : Per (No) w (fun _ => True) := Per.true_
  have LW := Ext.refl (No) w
  have XLW : ∀ q9, (No) q9 → (No) q9 ∨ w.heap.size ≤ q9 := fun _ h => Or.inl h
  have E := Ext.refl (No) w
  refine cw_seq ?_
  refine cw_region ?_
  refine rs_op rfl (ow_assign rfl ?_)
  refine rs_nil ?_
  refine ew_next ?_
  refine cw_seq ?_
  refine cw_region ?_
  refine rs_op rfl (ow_frombits (b := 9221120237041090561) ex60 rfl ?_)
  refine rs_op rfl (ow_assign rfl ?_)
  refine rs_nil ?_
  refine ew_next ?_
  refine cw_ret ?_
  refine ew_ret (rs := [.tmp 0]) (vs := [.float .f64 9221120237041090561]) rfl ⟨rfl, trivial⟩ ?_
  exact ⟨rfl, (LW.step E XLW).toBelow⟩
section
variable (a b : Nat) (ha : a < 18446744073709551616) (hb : b < 18446744073709551616) (hz : isZ b = false)
include ha hb hz
theorem mod_nan (hc : nanCase a b = true) : Calls Tryz.prog 135 #[.float .f64 a, .float .f64 b] w fun e w' => e = .returned (.float .f64 9221120237041090561) ∧ Below w.heap.size w w' := by
  have _ := hb
  refine calls_cw Tryz.func135 rfl Tryz.ntmps135 rfl ?_
  have HF : Per (No) w (fun _ => True) := Per.true_
  have LW := Ext.refl (No) w
  have XLW : ∀ q9, (No) q9 → (No) q9 ∨ w.heap.size ≤ q9 := fun _ h => Or.inl h
  have E := Ext.refl (No) w
  refine cw_seq ?_
  refine cw_region ?_
  refine rs_op rfl (ow_assign rfl ?_)
  refine rs_nil ?_
  refine ew_next ?_
  refine cw_seq ?_
  refine cw_seq ?_
  refine cw_region ?_
  refine rs_op rfl (ow_move rfl ?_)
  refine rs_op rfl (ow_feql rfl rfl ?_)
  refine rs_op rfl (ow_move rfl ?_)
  refine rs_set 12 (.bool false) rfl ((by rw [ford_zero, hz] : (.bool (ford b 0 == some .eq) : Value) = _)) ?_
  refine rs_op rfl (ow_on rfl (ow_move rfl ?_))
  refine rs_op rfl (ow_on rfl (ow_enter en61 rfl ((misinf_any _ a ha).mono ?_)))
  rintro e w1 ⟨rfl, hb⟩
  refine ⟨_, rfl, ?_⟩
  have Ec := Ext.of_below hb No
  replace E := E.trans Ec.no
  clear hb Ec
  refine rs_op rfl (ow_pickF rfl rfl ?_)
  refine rs_op rfl (ow_move rfl ?_)
  refine rs_split 16 rfl (fun h1 => ?_) (fun h1 => ?_)
  · have _way := True.intro
    refine rs_op rfl (ow_off rfl ?_)
    refine rs_op rfl (ow_off rfl ?_)
    refine rs_op rfl (ow_pickT rfl rfl ?_)
    refine rs_op rfl (ow_move rfl ?_)
    refine rs_op rfl (ow_off rfl ?_)
    refine rs_op rfl (ow_off rfl ?_)
    refine rs_op rfl (ow_pickT rfl rfl ?_)
    refine rs_nil ?_
    refine ew_next ?_
    refine cw_then rfl ?_
    refine cw_seq ?_
    refine cw_region ?_
    refine rs_op rfl (ow_enter en173 rfl ((rd173_1 _).mono ?_))
    rintro e w2 ⟨rfl, hb⟩
    refine ⟨_, rfl, ?_⟩
    have Ec := Ext.of_below hb No
    replace E := E.trans Ec.no
    clear hb Ec
    refine rs_op rfl (ow_assign rfl ?_)
    refine rs_nil ?_
    refine ew_next ?_
    refine cw_ret ?_
    refine ew_then_ret ?_
    refine ew_ret (rs := [.tmp 4]) (vs := [_]) rfl ⟨rfl, trivial⟩ ?_
    exact ⟨rfl, (LW.step E XLW).toBelow⟩
  · have _way := True.intro
    refine rs_op rfl (ow_on rfl (ow_move rfl ?_))
    refine rs_op rfl (ow_on rfl (ow_enter en138 rfl ((misnan_any _ a).mono ?_)))
    rintro e w3 ⟨rfl, hb⟩
    refine ⟨_, rfl, ?_⟩
    have Ec := Ext.of_below hb No
    replace E := E.trans Ec.no
    clear hb Ec
    refine rs_op rfl (ow_pickF rfl rfl ?_)
    refine rs_op rfl (ow_move rfl ?_)
    refine rs_split 20 rfl (fun h2 => ?_) (fun h2 => ?_)
    · have _way := True.intro
      refine rs_op rfl (ow_off rfl ?_)
      refine rs_op rfl (ow_off rfl ?_)
      refine rs_op rfl (ow_pickT rfl rfl ?_)
      refine rs_nil ?_
      refine ew_next ?_
      refine cw_then rfl ?_
      refine cw_seq ?_
      refine cw_region ?_
      refine rs_op rfl (ow_enter en173 rfl ((rd173_1 _).mono ?_))
      rintro e w4 ⟨rfl, hb⟩
      refine ⟨_, rfl, ?_⟩
      have Ec := Ext.of_below hb No
      replace E := E.trans Ec.no
      clear hb Ec
      refine rs_op rfl (ow_assign rfl ?_)
      refine rs_nil ?_
      refine ew_next ?_
      refine cw_ret ?_
      refine ew_then_ret ?_
      refine ew_ret (rs := [.tmp 4]) (vs := [_]) rfl ⟨rfl, trivial⟩ ?_
      exact ⟨rfl, (LW.step E XLW).toBelow⟩
    · have _way := True.intro
      refine rs_op rfl (ow_on rfl (ow_move rfl ?_))
      refine rs_op rfl (ow_on rfl (ow_enter en138 rfl ((misnan_any _ b).mono ?_)))
      rintro e w5 ⟨rfl, hb⟩
      refine ⟨_, rfl, ?_⟩
      have Ec := Ext.of_below hb No
      replace E := E.trans Ec.no
      clear hb Ec
      refine rs_set 22 (.bool true) rfl ((by rw [nanCase, h1, h2, Bool.false_or, Bool.or_false] at hc; rw [hc] : (.bool (isN b) : Value) = _)) ?_
      refine rs_op rfl (ow_pickF rfl rfl ?_)
      refine rs_nil ?_
      refine ew_next ?_
      refine cw_then rfl ?_
      refine cw_seq ?_
      refine cw_region ?_
      refine rs_op rfl (ow_enter en173 rfl ((rd173_1 _).mono ?_))
      rintro e w6 ⟨rfl, hb⟩
      refine ⟨_, rfl, ?_⟩
      have Ec := Ext.of_below hb No
      replace E := E.trans Ec.no
      clear hb Ec
      refine rs_op rfl (ow_assign rfl ?_)
      refine rs_nil ?_
      refine ew_next ?_
      refine cw_ret ?_
      refine ew_then_ret ?_
      refine ew_ret (rs := [.tmp 4]) (vs := [_]) rfl ⟨rfl, trivial⟩ ?_
      exact ⟨rfl, (LW.step E XLW).toBelow⟩
section
variable (hf : rg a < 9218868437227405312) (hn : isN b = false)
include hf hn
/-- A divisor that is infinite; a dividend that is nought. -/
theorem mod_zero (hza : rg a = 0) (F : Nat) (E : Int) (hF : ∀ w, Calls Tryz.prog 70 #[.float .f64 (rg b)] w fun e w' => e = .returned (.tuple #[.float .f64 F, .int .i64 E]) ∧ Below w.heap.size w w') : Calls Tryz.prog 135 #[.float .f64 a, .float .f64 b] w fun e w' => e = .returned (.float .f64 a) ∧ Below w.heap.size w w' := by
  have hp : pc a = 0 := by unfold pc; split <;> omega
  have hb0 : rg b ≠ 0 := of_decide_eq_false hz
  have hpb : pc (rg b) = ((rg b : Nat) : Int) := pc_rg b
  have hlt : (ford a 0 == some .lt) = false := by rw [ford_val (fin_notN hf) (by decide), hp]; decide
  have hge : (ford a (rg b) == some .gt || ford a (rg b) == some .eq) = false := by rw [ford_val (fin_notN hf) (by rw [isN_rg]; exact hn), hp, hpb, cmp3_lt (by omega)]; rfl
  refine calls_cw Tryz.func135 rfl Tryz.ntmps135 rfl ?_
  have HF : Per (No) w (fun _ => True) := Per.true_
  have LW := Ext.refl (No) w
  have XLW : ∀ q9, (No) q9 → (No) q9 ∨ w.heap.size ≤ q9 := fun _ h => Or.inl h
  have E := Ext.refl (No) w
  refine cw_seq ?_
  refine cw_region ?_
  refine rs_op rfl (ow_assign rfl ?_)
  refine rs_nil ?_
  refine ew_next ?_
  refine cw_seq ?_
  refine cw_seq ?_
  refine cw_region ?_
  refine rs_op rfl (ow_move rfl ?_)
  refine rs_op rfl (ow_feql rfl rfl ?_)
  refine rs_op rfl (ow_move rfl ?_)
  refine rs_set 12 (.bool false) rfl ((by rw [ford_zero, hz] : (.bool (ford b 0 == some .eq) : Value) = _)) ?_
  refine rs_op rfl (ow_on rfl (ow_move rfl ?_))
  refine rs_op rfl (ow_on rfl (ow_enter en61 rfl ((misinf_any _ a ha).mono ?_)))
  rintro e w1 ⟨rfl, hb⟩
  refine ⟨_, rfl, ?_⟩
  have Ec := Ext.of_below hb No
  replace E := E.trans Ec.no
  clear hb Ec
  refine rs_set 14 (.bool false) rfl ((by rw [decide_eq_false (by omega)] : (.bool (decide (rg a = 9218868437227405312)) : Value) = _)) ?_
  refine rs_op rfl (ow_pickF rfl rfl ?_)
  refine rs_op rfl (ow_move rfl ?_)
  refine rs_op rfl (ow_on rfl (ow_move rfl ?_))
  refine rs_op rfl (ow_on rfl (ow_enter en138 rfl ((misnan_any _ a).mono ?_)))
  rintro e w2 ⟨rfl, hb⟩
  refine ⟨_, rfl, ?_⟩
  have Ec := Ext.of_below hb No
  replace E := E.trans Ec.no
  clear hb Ec
  refine rs_set 18 (.bool false) rfl ((by rw [fin_notN hf] : (.bool (isN a) : Value) = _)) ?_
  refine rs_op rfl (ow_pickF rfl rfl ?_)
  refine rs_op rfl (ow_move rfl ?_)
  refine rs_op rfl (ow_on rfl (ow_move rfl ?_))
  refine rs_op rfl (ow_on rfl (ow_enter en138 rfl ((misnan_any _ b).mono ?_)))
  rintro e w3 ⟨rfl, hb⟩
  refine ⟨_, rfl, ?_⟩
  have Ec := Ext.of_below hb No
  replace E := E.trans Ec.no
  clear hb Ec
  refine rs_set 22 (.bool false) rfl ((by rw [hn] : (.bool (isN b) : Value) = _)) ?_
  refine rs_op rfl (ow_pickF rfl rfl ?_)
  refine rs_nil ?_
  refine ew_next ?_
  refine cw_else rfl ?_
  refine cw_skip ?_
  refine ew_next ?_
  refine cw_seq ?_
  refine cw_region ?_
  refine rs_op rfl (ow_move rfl ?_)
  refine rs_op rfl (ow_enter en71 rfl ((abs_any _ b hb).mono ?_))
  rintro e w4 ⟨rfl, hb⟩
  refine ⟨_, rfl, ?_⟩
  have Ec := Ext.of_below hb No
  replace E := E.trans Ec.no
  clear hb Ec
  refine rs_op rfl (ow_assign rfl ?_)
  refine rs_nil ?_
  refine ew_next ?_
  refine cw_seq ?_
  refine cw_region ?_
  refine rs_op rfl (ow_move rfl ?_)
  refine rs_op rfl (ow_enter en70 rfl ((hF _).mono ?_))
  rintro e w5 ⟨rfl, hb⟩
  refine ⟨_, rfl, ?_⟩
  have Ec := Ext.of_below hb No
  replace E := E.trans Ec.no
  clear hb Ec
  refine rs_op rfl (ow_move rfl ?_)
  refine rs_op rfl (ow_extract rfl rfl ?_)
  refine rs_op rfl (ow_extract rfl rfl ?_)
  refine rs_op rfl (ow_assign rfl ?_)
  refine rs_op rfl (ow_assign rfl ?_)
  refine rs_nil ?_
  refine ew_next ?_
  refine cw_seq ?_
  refine cw_region ?_
  refine rs_op rfl (ow_move rfl ?_)
  refine rs_op rfl (ow_assign rfl ?_)
  refine rs_nil ?_
  refine ew_next ?_
  refine cw_seq ?_
  refine cw_seq ?_
  refine cw_region ?_
  refine rs_op rfl (ow_move rfl ?_)
  refine rs_op rfl (ow_flss rfl rfl ?_)
  refine rs_nil ?_
  refine ew_next ?_
  refine cw_set 34 (.bool false) rfl ((by rw [hlt] : (.bool (ford a 0 == some .lt) : Value) = _)) ?_
  refine cw_else rfl ?_
  refine cw_skip ?_
  refine ew_next ?_
  refine cw_seq ?_
  refine cw_block ?_
  refine cw_unroll ?_
  refine cw_seq ?_
  refine cw_seq ?_
  refine cw_region ?_
  refine rs_op rfl (ow_move rfl ?_)
  refine rs_op rfl (ow_move rfl ?_)
  refine rs_op rfl (ow_fgeq rfl rfl ?_)
  refine rs_nil ?_
  refine ew_next ?_
  refine cw_set 39 (.bool false) rfl ((by rw [hge] : (.bool (ford a (rg b) == some .gt || ford a (rg b) == some .eq) : Value) = _)) ?_
  refine cw_else rfl ?_
  refine cw_exit ?_
  refine ew_then_exit ?_
  refine ew_then_exit ?_
  refine ew_block_here ?_
  refine ew_next ?_
  refine cw_seq ?_
  refine cw_seq ?_
  refine cw_region ?_
  refine rs_op rfl (ow_move rfl ?_)
  refine rs_op rfl (ow_flss rfl rfl ?_)
  refine rs_nil ?_
  refine ew_next ?_
  refine cw_set 58 (.bool false) rfl ((by rw [hlt] : (.bool (ford a 0 == some .lt) : Value) = _)) ?_
  refine cw_else rfl ?_
  refine cw_skip ?_
  refine ew_next ?_
  refine cw_seq ?_
  refine cw_region ?_
  refine rs_op rfl (ow_move rfl ?_)
  refine rs_op rfl (ow_assign rfl ?_)
  refine rs_nil ?_
  refine ew_next ?_
  refine cw_ret ?_
  refine ew_ret (rs := [.tmp 4]) (vs := [_]) rfl ⟨rfl, trivial⟩ ?_
  exact ⟨rfl, (LW.step E XLW).toBelow⟩
section
variable (ha0 : rg a ≠ 0)
include ha0
theorem mod_inf (hq : rg b = 9218868437227405312) : Calls Tryz.prog 135 #[.float .f64 a, .float .f64 b] w fun e w' => e = .returned (.float .f64 a) ∧ Below w.heap.size w w' := by
  refine calls_cw Tryz.func135 rfl Tryz.ntmps135 rfl ?_
  have HF : Per (No) w (fun _ => True) := Per.true_
  have LW := Ext.refl (No) w
  have XLW : ∀ q9, (No) q9 → (No) q9 ∨ w.heap.size ≤ q9 := fun _ h => Or.inl h
  have E := Ext.refl (No) w
  refine cw_seq ?_
  refine cw_region ?_
  refine rs_op rfl (ow_assign rfl ?_)
  refine rs_nil ?_
  refine ew_next ?_
  refine cw_seq ?_
  refine cw_seq ?_
  refine cw_region ?_
  refine rs_op rfl (ow_move rfl ?_)
  refine rs_op rfl (ow_feql rfl rfl ?_)
  refine rs_op rfl (ow_move rfl ?_)
  refine rs_set 12 (.bool false) rfl ((by rw [ford_zero, hz] : (.bool (ford b 0 == some .eq) : Value) = _)) ?_
  refine rs_op rfl (ow_on rfl (ow_move rfl ?_))
  refine rs_op rfl (ow_on rfl (ow_enter en61 rfl ((misinf_any _ a ha).mono ?_)))
  rintro e w1 ⟨rfl, hb⟩
  refine ⟨_, rfl, ?_⟩
  have Ec := Ext.of_below hb No
  replace E := E.trans Ec.no
  clear hb Ec
  refine rs_set 14 (.bool false) rfl ((by rw [decide_eq_false (by omega)] : (.bool (decide (rg a = 9218868437227405312)) : Value) = _)) ?_
  refine rs_op rfl (ow_pickF rfl rfl ?_)
  refine rs_op rfl (ow_move rfl ?_)
  refine rs_op rfl (ow_on rfl (ow_move rfl ?_))
  refine rs_op rfl (ow_on rfl (ow_enter en138 rfl ((misnan_any _ a).mono ?_)))
  rintro e w2 ⟨rfl, hb⟩
  refine ⟨_, rfl, ?_⟩
  have Ec := Ext.of_below hb No
  replace E := E.trans Ec.no
  clear hb Ec
  refine rs_set 18 (.bool false) rfl ((by rw [fin_notN hf] : (.bool (isN a) : Value) = _)) ?_
  refine rs_op rfl (ow_pickF rfl rfl ?_)
  refine rs_op rfl (ow_move rfl ?_)
  refine rs_op rfl (ow_on rfl (ow_move rfl ?_))
  refine rs_op rfl (ow_on rfl (ow_enter en138 rfl ((misnan_any _ b).mono ?_)))
  rintro e w3 ⟨rfl, hb⟩
  refine ⟨_, rfl, ?_⟩
  have Ec := Ext.of_below hb No
  replace E := E.trans Ec.no
  clear hb Ec
  refine rs_set 22 (.bool false) rfl ((by rw [hn] : (.bool (isN b) : Value) = _)) ?_
  refine rs_op rfl (ow_pickF rfl rfl ?_)
  refine rs_nil ?_
  refine ew_next ?_
  refine cw_else rfl ?_
  refine cw_skip ?_
  refine ew_next ?_
  refine cw_seq ?_
  refine cw_region ?_
  refine rs_op rfl (ow_move rfl ?_)
  refine rs_op rfl (ow_enter en71 rfl ((abs_any _ b hb).mono ?_))
  rintro e w4 ⟨rfl, hb⟩
  refine ⟨_, rfl, ?_⟩
  have Ec := Ext.of_below hb No
  replace E := E.trans Ec.no
  clear hb Ec
  refine rs_op rfl (ow_assign rfl ?_)
  refine rs_nil ?_
  refine ew_next ?_
  refine cw_seq ?_
  refine cw_region ?_
  refine rs_op rfl (ow_move rfl ?_)
  refine rs_op rfl (ow_enter en70 rfl ((Frexp_inf _ (rg b) (Nat.lt_trans (rg_lt b) (by decide)) (by rw [rg_rg]; exact hq)).mono ?_))
  rintro e w5 ⟨rfl, hb⟩
  refine ⟨_, rfl, ?_⟩
  have Ec := Ext.of_below hb No
  replace E := E.trans Ec.no
  clear hb Ec
  refine rs_op rfl (ow_move rfl ?_)
  refine rs_op rfl (ow_extract rfl rfl ?_)
  refine rs_op rfl (ow_extract rfl rfl ?_)
  refine rs_op rfl (ow_assign rfl ?_)
  refine rs_op rfl (ow_assign rfl ?_)
  refine rs_nil ?_
  refine ew_next ?_
  refine cw_seq ?_
  refine cw_region ?_
  refine rs_op rfl (ow_move rfl ?_)
  refine rs_op rfl (ow_assign rfl ?_)
  refine rs_nil ?_
  refine ew_next ?_
  refine cw_seq ?_
  refine cw_seq ?_
  refine cw_region ?_
  refine rs_op rfl (ow_move rfl ?_)
  refine rs_op rfl (ow_flss rfl rfl ?_)
  refine rs_nil ?_
  refine ew_next ?_
  refine cw_set 34 (.bool (ng a)) rfl ((by rw [ford_neg (fin_notN hf) ha0] : (.bool (ford a 0 == some .lt) : Value) = _)) ?_
  refine cw_cond rfl (fun h => ?_) (fun h => ?_)
  · have _way := True.intro
    refine cw_region ?_
    refine rs_op rfl (ow_move rfl ?_)
    refine rs_op rfl (ow_fneg rfl ?_)
    refine rs_op rfl (ow_assign rfl ?_)
    refine rs_nil ?_
    refine ew_next ?_
    refine cw_seq ?_
    refine cw_block ?_
    refine cw_unroll ?_
    refine cw_seq ?_
    refine cw_seq ?_
    refine cw_region ?_
    refine rs_op rfl (ow_move rfl ?_)
    refine rs_op rfl (ow_move rfl ?_)
    refine rs_op rfl (ow_fgeq rfl rfl ?_)
    refine rs_nil ?_
    refine ew_next ?_
    refine cw_set 39 (.bool false) rfl ((by rw [neg_self ha h, ford_geq hf (Nat.le_of_eq hq), decide_eq_false (by omega)] : (.bool (ford (a ^^^ 9223372036854775808) (rg b) == some .gt || ford (a ^^^ 9223372036854775808) (rg b) == some .eq) : Value) = _)) ?_
    refine cw_else rfl ?_
    refine cw_exit ?_
    refine ew_then_exit ?_
    refine ew_then_exit ?_
    refine ew_block_here ?_
    refine ew_next ?_
    refine cw_seq ?_
    refine cw_seq ?_
    refine cw_region ?_
    refine rs_op rfl (ow_move rfl ?_)
    refine rs_op rfl (ow_flss rfl rfl ?_)
    refine rs_nil ?_
    refine ew_next ?_
    refine cw_set 58 (.bool true) rfl ((by rw [ford_neg (fin_notN hf) ha0, h] : (.bool (ford a 0 == some .lt) : Value) = _)) ?_
    refine cw_then rfl ?_
    refine cw_region ?_
    refine rs_op rfl (ow_move rfl ?_)
    refine rs_op rfl (ow_fneg rfl ?_)
    refine rs_op rfl (ow_assign rfl ?_)
    refine rs_nil ?_
    refine ew_next ?_
    refine cw_seq ?_
    refine cw_region ?_
    refine rs_op rfl (ow_move rfl ?_)
    refine rs_op rfl (ow_assign rfl ?_)
    refine rs_nil ?_
    refine ew_next ?_
    refine cw_ret ?_
    refine ew_ret (rs := [.tmp 4]) (vs := [_]) rfl ⟨rfl, trivial⟩ ?_
    exact ⟨by rw [Nat.xor_assoc, Nat.xor_self, Nat.xor_zero]; rfl, (LW.step E XLW).toBelow⟩
  · have _way := True.intro
    have hps := pos_self ha h
    refine cw_skip ?_
    refine ew_next ?_
    refine cw_seq ?_
    refine cw_block ?_
    refine cw_unroll ?_
    refine cw_seq ?_
    refine cw_seq ?_
    refine cw_region ?_
    refine rs_op rfl (ow_move rfl ?_)
    refine rs_op rfl (ow_move rfl ?_)
    refine rs_op rfl (ow_fgeq rfl rfl ?_)
    refine rs_nil ?_
    refine ew_next ?_
    refine cw_set 39 (.bool false) rfl ((by rw [show ford a (rg b) = ford (rg a) (rg b) by rw [hps], ford_geq hf (Nat.le_of_eq hq), decide_eq_false (by omega)] : (.bool (ford a (rg b) == some .gt || ford a (rg b) == some .eq) : Value) = _)) ?_
    refine cw_else rfl ?_
    refine cw_exit ?_
    refine ew_then_exit ?_
    refine ew_then_exit ?_
    refine ew_block_here ?_
    refine ew_next ?_
    refine cw_seq ?_
    refine cw_seq ?_
    refine cw_region ?_
    refine rs_op rfl (ow_move rfl ?_)
    refine rs_op rfl (ow_flss rfl rfl ?_)
    refine rs_nil ?_
    refine ew_next ?_
    refine cw_set 58 (.bool false) rfl ((by rw [ford_neg (fin_notN hf) ha0, h] : (.bool (ford a 0 == some .lt) : Value) = _)) ?_
    refine cw_else rfl ?_
    refine cw_skip ?_
    refine ew_next ?_
    refine cw_seq ?_
    refine cw_region ?_
    refine rs_op rfl (ow_move rfl ?_)
    refine rs_op rfl (ow_assign rfl ?_)
    refine rs_nil ?_
    refine ew_next ?_
    refine cw_ret ?_
    refine ew_ret (rs := [.tmp 4]) (vs := [_]) rfl ⟨rfl, trivial⟩ ?_
    exact ⟨rfl, (LW.step E XLW).toBelow⟩
/-! ### the loop -/
variable (hq : rg b < 9218868437227405312)
include hq
theorem mod_fin : Calls Tryz.prog 135 #[.float .f64 a, .float .f64 b] w fun e w' => e = .returned (.float .f64 (m0F a b)) ∧ Below w.heap.size w w' := by
  have hb0 : rg b ≠ 0 := of_decide_eq_false hz
  have hbs := rg_rg b
  have hfit : ∀ r, rg b ≤ r → r ≤ rg a → r < 9218868437227405312 ∧ r ≠ 0 ∧ r < 18446744073709551616 ∧ rg r = r := fun r h1 h2 => ⟨by omega, by omega, by omega, (rg_self (by omega)).1⟩
  refine calls_cw Tryz.func135 rfl Tryz.ntmps135 rfl ?_
  have HF : Per (No) w (fun _ => True) := Per.true_
  have LW := Ext.refl (No) w
  have XLW : ∀ q9, (No) q9 → (No) q9 ∨ w.heap.size ≤ q9 := fun _ h => Or.inl h
  have E := Ext.refl (No) w
  refine cw_seq ?_
  refine cw_region ?_
  refine rs_op rfl (ow_assign rfl ?_)
  refine rs_nil ?_
  refine ew_next ?_
  refine cw_seq ?_
  refine cw_seq ?_
  refine cw_region ?_
  refine rs_op rfl (ow_move rfl ?_)
  refine rs_op rfl (ow_feql rfl rfl ?_)
  refine rs_op rfl (ow_move rfl ?_)
  refine rs_set 12 (.bool false) rfl ((by rw [ford_zero, hz] : (.bool (ford b 0 == some .eq) : Value) = _)) ?_
  refine rs_op rfl (ow_on rfl (ow_move rfl ?_))
  refine rs_op rfl (ow_on rfl (ow_enter en61 rfl ((misinf_any _ a ha).mono ?_)))
  rintro e w1 ⟨rfl, hb⟩
  refine ⟨_, rfl, ?_⟩
  have Ec := Ext.of_below hb No
  replace E := E.trans Ec.no
  clear hb Ec
  refine rs_set 14 (.bool false) rfl ((by rw [decide_eq_false (by omega)] : (.bool (decide (rg a = 9218868437227405312)) : Value) = _)) ?_
  refine rs_op rfl (ow_pickF rfl rfl ?_)
  refine rs_op rfl (ow_move rfl ?_)
  refine rs_op rfl (ow_on rfl (ow_move rfl ?_))
  refine rs_op rfl (ow_on rfl (ow_enter en138 rfl ((misnan_any _ a).mono ?_)))
  rintro e w2 ⟨rfl, hb⟩
  refine ⟨_, rfl, ?_⟩
  have Ec := Ext.of_below hb No
  replace E := E.trans Ec.no
  clear hb Ec
  refine rs_set 18 (.bool false) rfl ((by rw [fin_notN hf] : (.bool (isN a) : Value) = _)) ?_
  refine rs_op rfl (ow_pickF rfl rfl ?_)
  refine rs_op rfl (ow_move rfl ?_)
  refine rs_op rfl (ow_on rfl (ow_move rfl ?_))
  refine rs_op rfl (ow_on rfl (ow_enter en138 rfl ((misnan_any _ b).mono ?_)))
  rintro e w3 ⟨rfl, hb⟩
  refine ⟨_, rfl, ?_⟩
  have Ec := Ext.of_below hb No
  replace E := E.trans Ec.no
  clear hb Ec
  refine rs_set 22 (.bool false) rfl ((by rw [hn] : (.bool (isN b) : Value) = _)) ?_
  refine rs_op rfl (ow_pickF rfl rfl ?_)
  refine rs_nil ?_
  refine ew_next ?_
  refine cw_else rfl ?_
  refine cw_skip ?_
  refine ew_next ?_
  refine cw_seq ?_
  refine cw_region ?_
  refine rs_op rfl (ow_move rfl ?_)
  refine rs_op rfl (ow_enter en71 rfl ((abs_any _ b hb).mono ?_))
  rintro e w4 ⟨rfl, hb⟩
  refine ⟨_, rfl, ?_⟩
  have Ec := Ext.of_below hb No
  replace E := E.trans Ec.no
  clear hb Ec
  refine rs_op rfl (ow_assign rfl ?_)
  refine rs_nil ?_
  refine ew_next ?_
  refine cw_seq ?_
  refine cw_region ?_
  refine rs_op rfl (ow_move rfl ?_)
  refine rs_op rfl (ow_enter en70 rfl ((Frexp_num _ (rg b) (Nat.lt_trans (rg_lt b) (by decide)) (by rw [rg_rg]; exact hb0) (by rw [rg_rg]; exact hq)).mono ?_))
  rintro e w5 ⟨rfl, hb⟩
  refine ⟨_, rfl, ?_⟩
  have Ec := Ext.of_below hb No
  replace E := E.trans Ec.no
  clear hb Ec
  refine rs_op rfl (ow_move rfl ?_)
  refine rs_op rfl (ow_extract rfl rfl ?_)
  refine rs_op rfl (ow_extract rfl rfl ?_)
  refine rs_op rfl (ow_assign rfl ?_)
  refine rs_op rfl (ow_assign rfl ?_)
  refine rs_nil ?_
  refine ew_next ?_
  refine cw_seq ?_
  refine cw_region ?_
  refine rs_op rfl (ow_move rfl ?_)
  refine rs_op rfl (ow_assign rfl ?_)
  refine rs_nil ?_
  refine ew_next ?_
  refine cw_seq ?_
  refine cw_seq ?_
  refine cw_region ?_
  refine rs_op rfl (ow_move rfl ?_)
  refine rs_op rfl (ow_flss rfl rfl ?_)
  refine rs_nil ?_
  refine ew_next ?_
  refine cw_set 34 (.bool (ng a)) rfl ((by rw [ford_neg (fin_notN hf) ha0] : (.bool (ford a 0 == some .lt) : Value) = _)) ?_
  refine cw_cond rfl (fun h => ?_) (fun h => ?_)
  · have _way := True.intro
    refine cw_region ?_
    refine rs_op rfl (ow_move rfl ?_)
    refine rs_op rfl (ow_fneg rfl ?_)
    refine rs_op rfl (ow_assign rfl ?_)
    refine rs_nil ?_
    refine ew_next ?_
    refine cw_seq ?_
    refine cw_block ?_
    replace HF := HF.on E
    replace LW := LW.step E XLW
    replace E := Ext.refl (No) w5
    refine cw_loop (ι := Nat) (fun r => [(0, .float .f64 a), (1, .float .f64 (rg b)), (5, .float .f64 (frF (rg b))), (6, .int .i64 (frE (rg b))), (7, .float .f64 r)]) (fun r w' => Ext (No) w5 w' ∧ (r ≤ rg a ∧ vl r % vl (rg b) = vl (rg a) % vl (rg b))) (fun r => r) (rg a) ⟨rfl, rfl, rfl, rfl, congrArg (fun z => some (Value.float .f64 z)) (neg_self ha h), trivial⟩ ⟨Ext.refl _ _, ⟨Nat.le_refl _, rfl⟩⟩ ?_
    rintro r w7 ⟨M6, ⟨hr1, hr2⟩⟩
    have XM6 : ∀ q9, (No) q9 → (No) q9 ∨ w5.heap.size ≤ q9 := fun _ h => Or.inl h
    replace E := E.trans M6
    replace HF := HF.on E
    replace LW := LW.step E XLW
    replace E := Ext.refl (No) w7
    refine cw_seq ?_
    refine cw_seq ?_
    refine cw_region ?_
    refine rs_op rfl (ow_move rfl ?_)
    refine rs_op rfl (ow_move rfl ?_)
    refine rs_op rfl (ow_fgeq rfl rfl ?_)
    refine rs_nil ?_
    refine ew_next ?_
    refine cw_set 39 (.bool (decide (rg b ≤ r))) rfl ((by rw [ford_geq (by omega) (by omega)] : (.bool (ford r (rg b) == some .gt || ford r (rg b) == some .eq) : Value) = _)) ?_
    refine cw_cond rfl (fun hc => ?_) (fun hc => ?_)
    · have _way := True.intro
      have hc := of_decide_eq_true hc
      obtain ⟨k1, k2, k3, k4⟩ := hfit r hc hr1
      obtain ⟨q, d, f1, f2, f3, f4, f5, f6, f7, f8⟩ := fit_step k1 hb0 hc
      have hbr := frE_bound k1
      have hby := frE_bound hq
      have hfe := fit_exp k1 hq (fit_parts hb0 hc).1
      refine cw_skip ?_
      refine ew_next ?_
      refine cw_block ?_
      refine cw_seq ?_
      refine cw_region ?_
      refine rs_op rfl (ow_move rfl ?_)
      refine rs_op rfl (ow_enter en70 rfl ((Frexp_num _ r k3 (by rw [k4]; exact k2) (by rw [k4]; exact k1)).mono ?_))
      rintro e w8 ⟨rfl, hb⟩
      refine ⟨_, rfl, ?_⟩
      have Ec := Ext.of_below hb No
      replace E := E.trans Ec.no
      clear hb Ec
      refine rs_op rfl (ow_move rfl ?_)
      refine rs_op rfl (ow_extract rfl rfl ?_)
      refine rs_op rfl (ow_extract rfl rfl ?_)
      refine rs_op rfl (ow_assign rfl ?_)
      refine rs_op rfl (ow_assign rfl ?_)
      refine rs_nil ?_
      refine ew_next ?_
      refine cw_seq ?_
      refine cw_seq ?_
      refine cw_region ?_
      refine rs_op rfl (ow_move rfl ?_)
      refine rs_op rfl (ow_move rfl ?_)
      refine rs_op rfl (ow_flss rfl rfl ?_)
      refine rs_nil ?_
      refine ew_next ?_
      refine cw_set 47 (.bool (decide (mg (nr r) < mg (nr (rg b))))) rfl ((by rw [frF_lt k1 hq k2 hb0] : (.bool (ford (frF r) (frF (rg b)) == some .lt) : Value) = _)) ?_
      refine cw_cond rfl (fun hl => ?_) (fun hl => ?_)
      · have _way := True.intro
        have hl := of_decide_eq_true hl
        rw [if_pos hl] at hfe
        refine cw_region ?_
        refine rs_op rfl (ow_move rfl ?_)
        refine rs_op rfl (ow_sub rfl rfl (wrap_i64 (by omega)) ?_)
        refine rs_op rfl (ow_assign rfl ?_)
        refine rs_nil ?_
        refine ew_next ?_
        refine cw_region ?_
        refine rs_op rfl (ow_move rfl ?_)
        refine rs_op rfl (ow_move rfl ?_)
        refine rs_op rfl (ow_move rfl ?_)
        refine rs_op rfl (ow_move rfl ?_)
        refine rs_op rfl (ow_sub rfl rfl (wrap_i64 (by omega)) ?_)
        refine rs_set 54 (.int .i64 ((fitK r (rg b) : Nat) : Int)) rfl ((by rw [← hfe]; congr 1; omega : (.int .i64 (((frE r) - 1) - (frE (rg b))) : Value) = _)) ?_
        refine rs_op rfl (ow_enter en72 rfl ((Ldexp_num _ (rg b) (Nat.lt_trans (rg_lt b) (by decide)) (by rw [rg_rg]; exact hb0) (by rw [rg_rg]; exact hq) (fitK r (rg b)) q f8 (by omega) (by rw [hbs]; exact f4)).mono ?_))
        rintro e w9 ⟨rfl, hb⟩
        refine ⟨_, rfl, ?_⟩
        have Ec := Ext.of_below hb No
        replace E := E.trans Ec.no
        clear hb Ec
        refine rs_set 55 (.float .f64 q) rfl ((by rw [ng_rg]; rfl : (.float .f64 (Ieee.double.word (ng (rg b)) q) : Value) = _)) ?_
        refine rs_op rfl (ow_fV (z := d) (.inr (.inl rfl)) rfl rfl (sub_exact k1 (by omega) (by omega) f5) ?_)
        refine rs_op rfl (ow_assign rfl ?_)
        refine rs_nil ?_
        refine ew_block_normal ?_
        exact ew_round (ι := Nat) (s := fun r => [(0, .float .f64 a), (1, .float .f64 (rg b)), (5, .float .f64 (frF (rg b))), (6, .int .i64 (frE (rg b))), (7, .float .f64 r)]) (R := fun r w' => Ext (No) w5 w' ∧ (r ≤ rg a ∧ vl r % vl (rg b) = vl (rg a) % vl (rg b))) (m := fun r => r) (i := r) d (f7) ⟨rfl, rfl, rfl, rfl, rfl, trivial⟩ ⟨M6.step E XM6, ⟨by omega, by rw [f6]; exact hr2⟩⟩
      · have _way := True.intro
        have hl := of_decide_eq_false hl
        rw [if_neg hl] at hfe
        refine cw_skip ?_
        refine ew_next ?_
        refine cw_region ?_
        refine rs_op rfl (ow_move rfl ?_)
        refine rs_op rfl (ow_move rfl ?_)
        refine rs_op rfl (ow_move rfl ?_)
        refine rs_op rfl (ow_move rfl ?_)
        refine rs_op rfl (ow_sub rfl rfl (wrap_i64 (by omega)) ?_)
        refine rs_set 54 (.int .i64 ((fitK r (rg b) : Nat) : Int)) rfl ((by rw [← hfe]; congr 1; omega : (.int .i64 ((frE r) - (frE (rg b))) : Value) = _)) ?_
        refine rs_op rfl (ow_enter en72 rfl ((Ldexp_num _ (rg b) (Nat.lt_trans (rg_lt b) (by decide)) (by rw [rg_rg]; exact hb0) (by rw [rg_rg]; exact hq) (fitK r (rg b)) q f8 (by omega) (by rw [hbs]; exact f4)).mono ?_))
        rintro e w10 ⟨rfl, hb⟩
        refine ⟨_, rfl, ?_⟩
        have Ec := Ext.of_below hb No
        replace E := E.trans Ec.no
        clear hb Ec
        refine rs_set 55 (.float .f64 q) rfl ((by rw [ng_rg]; rfl : (.float .f64 (Ieee.double.word (ng (rg b)) q) : Value) = _)) ?_
        refine rs_op rfl (ow_fV (z := d) (.inr (.inl rfl)) rfl rfl (sub_exact k1 (by omega) (by omega) f5) ?_)
        refine rs_op rfl (ow_assign rfl ?_)
        refine rs_nil ?_
        refine ew_block_normal ?_
        exact ew_round (ι := Nat) (s := fun r => [(0, .float .f64 a), (1, .float .f64 (rg b)), (5, .float .f64 (frF (rg b))), (6, .int .i64 (frE (rg b))), (7, .float .f64 r)]) (R := fun r w' => Ext (No) w5 w' ∧ (r ≤ rg a ∧ vl r % vl (rg b) = vl (rg a) % vl (rg b))) (m := fun r => r) (i := r) d (f7) ⟨rfl, rfl, rfl, rfl, rfl, trivial⟩ ⟨M6.step E XM6, ⟨by omega, by rw [f6]; exact hr2⟩⟩
    · have _way := True.intro
      have hc := of_decide_eq_false hc
      have hend : r = modR a b := (modR_unique (a := a) (b := b) (by omega) (hr2 ▸ (Nat.mod_eq_of_lt (vl_lt (by omega))).symm)).symm
      refine cw_exit ?_
      refine ew_then_exit ?_
      refine ew_then_exit ?_
      refine ew_block_here ?_
      refine ew_next ?_
      refine cw_seq ?_
      refine cw_seq ?_
      refine cw_region ?_
      refine rs_op rfl (ow_move rfl ?_)
      refine rs_op rfl (ow_flss rfl rfl ?_)
      refine rs_nil ?_
      refine ew_next ?_
      refine cw_set 58 (.bool true) rfl ((by rw [ford_neg (fin_notN hf) ha0, h] : (.bool (ford a 0 == some .lt) : Value) = _)) ?_
      refine cw_then rfl ?_
      refine cw_region ?_
      refine rs_op rfl (ow_move rfl ?_)
      refine rs_op rfl (ow_fneg rfl ?_)
      refine rs_op rfl (ow_assign rfl ?_)
      refine rs_nil ?_
      refine ew_next ?_
      refine cw_seq ?_
      refine cw_region ?_
      refine rs_op rfl (ow_move rfl ?_)
      refine rs_op rfl (ow_assign rfl ?_)
      refine rs_nil ?_
      refine ew_next ?_
      refine cw_ret ?_
      refine ew_ret (rs := [.tmp 4]) (vs := [_]) rfl ⟨rfl, trivial⟩ ?_
      exact ⟨by rw [show r ^^^ 9223372036854775808 = m0F a b by rw [neg_word (by omega), hend, m0F, h]]; rfl, (LW.step E XLW).toBelow⟩
  · have _way := True.intro
    have hps := pos_self ha h
    refine cw_skip ?_
    refine ew_next ?_
    refine cw_seq ?_
    refine cw_block ?_
    replace HF := HF.on E
    replace LW := LW.step E XLW
    replace E := Ext.refl (No) w5
    refine cw_loop (ι := Nat) (fun r => [(0, .float .f64 a), (1, .float .f64 (rg b)), (5, .float .f64 (frF (rg b))), (6, .int .i64 (frE (rg b))), (7, .float .f64 r)]) (fun r w' => Ext (No) w5 w' ∧ (r ≤ rg a ∧ vl r % vl (rg b) = vl (rg a) % vl (rg b))) (fun r => r) (rg a) ⟨rfl, rfl, rfl, rfl, congrArg (fun z => some (Value.float .f64 z)) (hps.symm), trivial⟩ ⟨Ext.refl _ _, ⟨Nat.le_refl _, rfl⟩⟩ ?_
    rintro r w12 ⟨M11, ⟨hr1, hr2⟩⟩
    have XM11 : ∀ q9, (No) q9 → (No) q9 ∨ w5.heap.size ≤ q9 := fun _ h => Or.inl h
    replace E := E.trans M11
    replace HF := HF.on E
    replace LW := LW.step E XLW
    replace E := Ext.refl (No) w12
    refine cw_seq ?_
    refine cw_seq ?_
    refine cw_region ?_
    refine rs_op rfl (ow_move rfl ?_)
    refine rs_op rfl (ow_move rfl ?_)
    refine rs_op rfl (ow_fgeq rfl rfl ?_)
    refine rs_nil ?_
    refine ew_next ?_
    refine cw_set 39 (.bool (decide (rg b ≤ r))) rfl ((by rw [ford_geq (by omega) (by omega)] : (.bool (ford r (rg b) == some .gt || ford r (rg b) == some .eq) : Value) = _)) ?_
    refine cw_cond rfl (fun hc => ?_) (fun hc => ?_)
    · have _way := True.intro
      have hc := of_decide_eq_true hc
      obtain ⟨k1, k2, k3, k4⟩ := hfit r hc hr1
      obtain ⟨q, d, f1, f2, f3, f4, f5, f6, f7, f8⟩ := fit_step k1 hb0 hc
      have hbr := frE_bound k1
      have hby := frE_bound hq
      have hfe := fit_exp k1 hq (fit_parts hb0 hc).1
      refine cw_skip ?_
      refine ew_next ?_
      refine cw_block ?_
      refine cw_seq ?_
      refine cw_region ?_
      refine rs_op rfl (ow_move rfl ?_)
      refine rs_op rfl (ow_enter en70 rfl ((Frexp_num _ r k3 (by rw [k4]; exact k2) (by rw [k4]; exact k1)).mono ?_))
      rintro e w13 ⟨rfl, hb⟩
      refine ⟨_, rfl, ?_⟩
      have Ec := Ext.of_below hb No
      replace E := E.trans Ec.no
      clear hb Ec
      refine rs_op rfl (ow_move rfl ?_)
      refine rs_op rfl (ow_extract rfl rfl ?_)
      refine rs_op rfl (ow_extract rfl rfl ?_)
      refine rs_op rfl (ow_assign rfl ?_)
      refine rs_op rfl (ow_assign rfl ?_)
      refine rs_nil ?_
      refine ew_next ?_
      refine cw_seq ?_
      refine cw_seq ?_
      refine cw_region ?_
      refine rs_op rfl (ow_move rfl ?_)
      refine rs_op rfl (ow_move rfl ?_)
      refine rs_op rfl (ow_flss rfl rfl ?_)
      refine rs_nil ?_
      refine ew_next ?_
      refine cw_set 47 (.bool (decide (mg (nr r) < mg (nr (rg b))))) rfl ((by rw [frF_lt k1 hq k2 hb0] : (.bool (ford (frF r) (frF (rg b)) == some .lt) : Value) = _)) ?_
      refine cw_cond rfl (fun hl => ?_) (fun hl => ?_)
      · have _way := True.intro
        have hl := of_decide_eq_true hl
        rw [if_pos hl] at hfe
        refine cw_region ?_
        refine rs_op rfl (ow_move rfl ?_)
        refine rs_op rfl (ow_sub rfl rfl (wrap_i64 (by omega)) ?_)
        refine rs_op rfl (ow_assign rfl ?_)
        refine rs_nil ?_
        refine ew_next ?_
        refine cw_region ?_
        refine rs_op rfl (ow_move rfl ?_)
        refine rs_op rfl (ow_move rfl ?_)
        refine rs_op rfl (ow_move rfl ?_)
        refine rs_op rfl (ow_move rfl ?_)
        refine rs_op rfl (ow_sub rfl rfl (wrap_i64 (by omega)) ?_)
        refine rs_set 54 (.int .i64 ((fitK r (rg b) : Nat) : Int)) rfl ((by rw [← hfe]; congr 1; omega : (.int .i64 (((frE r) - 1) - (frE (rg b))) : Value) = _)) ?_
        refine rs_op rfl (ow_enter en72 rfl ((Ldexp_num _ (rg b) (Nat.lt_trans (rg_lt b) (by decide)) (by rw [rg_rg]; exact hb0) (by rw [rg_rg]; exact hq) (fitK r (rg b)) q f8 (by omega) (by rw [hbs]; exact f4)).mono ?_))
        rintro e w14 ⟨rfl, hb⟩
        refine ⟨_, rfl, ?_⟩
        have Ec := Ext.of_below hb No
        replace E := E.trans Ec.no
        clear hb Ec
        refine rs_set 55 (.float .f64 q) rfl ((by rw [ng_rg]; rfl : (.float .f64 (Ieee.double.word (ng (rg b)) q) : Value) = _)) ?_
        refine rs_op rfl (ow_fV (z := d) (.inr (.inl rfl)) rfl rfl (sub_exact k1 (by omega) (by omega) f5) ?_)
        refine rs_op rfl (ow_assign rfl ?_)
        refine rs_nil ?_
        refine ew_block_normal ?_
        exact ew_round (ι := Nat) (s := fun r => [(0, .float .f64 a), (1, .float .f64 (rg b)), (5, .float .f64 (frF (rg b))), (6, .int .i64 (frE (rg b))), (7, .float .f64 r)]) (R := fun r w' => Ext (No) w5 w' ∧ (r ≤ rg a ∧ vl r % vl (rg b) = vl (rg a) % vl (rg b))) (m := fun r => r) (i := r) d (f7) ⟨rfl, rfl, rfl, rfl, rfl, trivial⟩ ⟨M11.step E XM11, ⟨by omega, by rw [f6]; exact hr2⟩⟩
      · have _way := True.intro
        have hl := of_decide_eq_false hl
        rw [if_neg hl] at hfe
        refine cw_skip ?_
        refine ew_next ?_
        refine cw_region ?_
        refine rs_op rfl (ow_move rfl ?_)
        refine rs_op rfl (ow_move rfl ?_)
        refine rs_op rfl (ow_move rfl ?_)
        refine rs_op rfl (ow_move rfl ?_)
        refine rs_op rfl (ow_sub rfl rfl (wrap_i64 (by omega)) ?_)
        refine rs_set 54 (.int .i64 ((fitK r (rg b) : Nat) : Int)) rfl ((by rw [← hfe]; congr 1; omega : (.int .i64 ((frE r) - (frE (rg b))) : Value) = _)) ?_
        refine rs_op rfl (ow_enter en72 rfl ((Ldexp_num _ (rg b) (Nat.lt_trans (rg_lt b) (by decide)) (by rw [rg_rg]; exact hb0) (by rw [rg_rg]; exact hq) (fitK r (rg b)) q f8 (by omega) (by rw [hbs]; exact f4)).mono ?_))
        rintro e w15 ⟨rfl, hb⟩
        refine ⟨_, rfl, ?_⟩
        have Ec := Ext.of_below hb No
        replace E := E.trans Ec.no
        clear hb Ec
        refine rs_set 55 (.float .f64 q) rfl ((by rw [ng_rg]; rfl : (.float .f64 (Ieee.double.word (ng (rg b)) q) : Value) = _)) ?_
        refine rs_op rfl (ow_fV (z := d) (.inr (.inl rfl)) rfl rfl (sub_exact k1 (by omega) (by omega) f5) ?_)
        refine rs_op rfl (ow_assign rfl ?_)
        refine rs_nil ?_
        refine ew_block_normal ?_
        exact ew_round (ι := Nat) (s := fun r => [(0, .float .f64 a), (1, .float .f64 (rg b)), (5, .float .f64 (frF (rg b))), (6, .int .i64 (frE (rg b))), (7, .float .f64 r)]) (R := fun r w' => Ext (No) w5 w' ∧ (r ≤ rg a ∧ vl r % vl (rg b) = vl (rg a) % vl (rg b))) (m := fun r => r) (i := r) d (f7) ⟨rfl, rfl, rfl, rfl, rfl, trivial⟩ ⟨M11.step E XM11, ⟨by omega, by rw [f6]; exact hr2⟩⟩
    · have _way := True.intro
      have hc := of_decide_eq_false hc
      have hend : r = modR a b := (modR_unique (a := a) (b := b) (by omega) (hr2 ▸ (Nat.mod_eq_of_lt (vl_lt (by omega))).symm)).symm
      refine cw_exit ?_
      refine ew_then_exit ?_
      refine ew_then_exit ?_
      refine ew_block_here ?_
      refine ew_next ?_
      refine cw_seq ?_
      refine cw_seq ?_
      refine cw_region ?_
      refine rs_op rfl (ow_move rfl ?_)
      refine rs_op rfl (ow_flss rfl rfl ?_)
      refine rs_nil ?_
      refine ew_next ?_
      refine cw_set 58 (.bool false) rfl ((by rw [ford_neg (fin_notN hf) ha0, h] : (.bool (ford a 0 == some .lt) : Value) = _)) ?_
      refine cw_else rfl ?_
      refine cw_skip ?_
      refine ew_next ?_
      refine cw_seq ?_
      refine cw_region ?_
      refine rs_op rfl (ow_move rfl ?_)
      refine rs_op rfl (ow_assign rfl ?_)
      refine rs_nil ?_
      refine ew_next ?_
      refine cw_ret ?_
      refine ew_ret (rs := [.tmp 4]) (vs := [_]) rfl ⟨rfl, trivial⟩ ?_
      exact ⟨by rw [show r = m0F a b by rw [hend, m0F, h]; rfl]; rfl, (LW.step E XLW).toBelow⟩
end
end
/-- The whole of it. -/
theorem mod_num (hf : rg a < 9218868437227405312) (hn : isN b = false) : Calls Tryz.prog 135 #[.float .f64 a, .float .f64 b] w fun e w' => e = .returned (.float .f64 (m0F a b)) ∧ Below w.heap.size w w' := by
  have hb0 : rg b ≠ 0 := of_decide_eq_false hz
  have hbr : rg b < 18446744073709551616 := Nat.lt_trans (rg_lt b) (by decide)
  by_cases ha0 : rg a = 0
  · have e : m0F a b = a := by rw [m0F, modR_zero ha0, ← ha0]; exact word_self' ha
    rw [e]
    by_cases hq : rg b = 9218868437227405312
    · exact mod_zero w a b ha hb hz hf hn ha0 _ _ (fun w => Frexp_inf w (rg b) hbr (by rw [rg_rg]; exact hq))
    · have h1 := of_decide_eq_false hn
      exact mod_zero w a b ha hb hz hf hn ha0 _ _ (fun w => Frexp_num w (rg b) hbr (by rw [rg_rg]; exact hb0) (by rw [rg_rg]; omega))
  · by_cases hq : rg b = 9218868437227405312
    · have e : m0F a b = a := by rw [m0F, modR, if_pos hq]; exact word_self' ha
      rw [e]
      exact mod_inf w a b ha hb hz hf hn ha0 hq
    · have h1 := of_decide_eq_false hn
      exact mod_fin w a b ha hb hz hf hn ha0 (by omega)
theorem Mod_num (hf : rg a < 9218868437227405312) (hn : isN b = false) : Calls Tryz.prog 102 #[.float .f64 a, .float .f64 b] w fun e w' => e = .returned (.float .f64 (m0F a b)) ∧ Below w.heap.size w w' := by
  refine calls_cw Tryz.func102 rfl Tryz.ntmps102 rfl ?_
  have HF : Per (No) w (fun _ => True) := Per.true_
  have LW := Ext.refl (No) w
  have XLW : ∀ q9, (No) q9 → (No) q9 ∨ w.heap.size ≤ q9 := fun _ h => Or.inl h
  have E := Ext.refl (No) w
  refine cw_seq ?_
  refine cw_region ?_
  refine rs_op rfl (ow_assign rfl ?_)
  refine rs_nil ?_
  refine ew_next ?_
  refine cw_seq ?_
  refine cw_else rfl ?_
  refine cw_skip ?_
  refine ew_next ?_
  refine cw_seq ?_
  refine cw_region ?_
  refine rs_op rfl (ow_move rfl ?_)
  refine rs_op rfl (ow_move rfl ?_)
  refine rs_op rfl (ow_enter en135 rfl ((mod_num _ a b ha hb hz hf hn).mono ?_))
  rintro e w1 ⟨rfl, hb⟩
  refine ⟨_, rfl, ?_⟩
  have Ec := Ext.of_below hb No
  replace E := E.trans Ec.no
  clear hb Ec
  refine rs_op rfl (ow_assign rfl ?_)
  refine rs_nil ?_
  refine ew_next ?_
  refine cw_ret ?_
  refine ew_ret (rs := [.tmp 4]) (vs := [_]) rfl ⟨rfl, trivial⟩ ?_
  exact ⟨rfl, (LW.step E XLW).toBelow⟩
theorem Mod_nan (hc : nanCase a b = true) : Calls Tryz.prog 102 #[.float .f64 a, .float .f64 b] w fun e w' => e = .returned (.float .f64 9221120237041090561) ∧ Below w.heap.size w w' := by
  refine calls_cw Tryz.func102 rfl Tryz.ntmps102 rfl ?_
  have HF : Per (No) w (fun _ => True) := Per.true_
  have LW := Ext.refl (No) w
  have XLW : ∀ q9, (No) q9 → (No) q9 ∨ w.heap.size ≤ q9 := fun _ h => Or.inl h
  have E := Ext.refl (No) w
  refine cw_seq ?_
  refine cw_region ?_
  refine rs_op rfl (ow_assign rfl ?_)
  refine rs_nil ?_
  refine ew_next ?_
  refine cw_seq ?_
  refine cw_else rfl ?_
  refine cw_skip ?_
  refine ew_next ?_
  refine cw_seq ?_
  refine cw_region ?_
  refine rs_op rfl (ow_move rfl ?_)
  refine rs_op rfl (ow_move rfl ?_)
  refine rs_op rfl (ow_enter en135 rfl ((mod_nan _ a b ha hb hz hc).mono ?_))
  rintro e w1 ⟨rfl, hb⟩
  refine ⟨_, rfl, ?_⟩
  have Ec := Ext.of_below hb No
  replace E := E.trans Ec.no
  clear hb Ec
  refine rs_op rfl (ow_assign rfl ?_)
  refine rs_nil ?_
  refine ew_next ?_
  refine cw_ret ?_
  refine ew_ret (rs := [.tmp 4]) (vs := [_]) rfl ⟨rfl, trivial⟩ ?_
  exact ⟨rfl, (LW.step E XLW).toBelow⟩
end
end
end Go.Proofs.YtljndllhmdpjlaaGreatDoor
namespace Go.Proofs.YtljndllhmdpjlaaGreatDoor
open Go.RowKit
set_option maxRecDepth 100000
theorem bool_dec {p q : Prop} [Decidable p] [Decidable q] (h : p ↔ q) : (Value.bool (decide p)) = .bool (decide q) := by
  congr 1
  by_cases hp : p
  · rw [decide_eq_true hp, decide_eq_true (h.1 hp)]
  · rw [decide_eq_false hp, decide_eq_false (fun k => hp (h.2 k))]
section
variable (w : World)
/-! ### rest -/
section
variable (a b : Nat) (ha : a < 18446744073709551616) (hb : b < 18446744073709551616)
include ha hb
section
variable (ha0 : rg a ≠ 0) (hb0 : rg b ≠ 0) (hf : rg a < 9218868437227405312) (hq : rg b < 9218868437227405312)
include ha0 hb0 hf hq
end
end
end
end Go.Proofs.YtljndllhmdpjlaaGreatDoor
namespace Go.Proofs.YtljndllhmdpjlaaGreatDoor
open Go.RowKit
set_option maxRecDepth 100000
theorem FRes.isn {r : Nat} {w w' : World} (h : FRes none r w w') : isN r = true := by
  rcases h with ⟨h1, _⟩ | ⟨_, hn, _⟩
  · cases h1
  · exact nan_isN hn
theorem FRes.nan {z : Option Nat} {r : Nat} {w w' : World} (h : FRes z r w w') (hz : z = none) : isN r = true := by subst hz; exact h.isn
theorem up_of {d r : Nat} {w w' : World} (h : FRes (fop .sub d (fround .down d)) r w w') : (ford r 4602678819172646912 == some .gt) = upB d := by
  unfold upB
  rcases h with ⟨h1, _⟩ | ⟨h1, hn, _⟩
  · rw [h1]
  · rw [h1, ford_nan_no (nan_isN hn)]
theorem fround_num {d : Nat} (h : isN d = false) : isN (fround .down d) = false ∧ fround .down d < 18446744073709551616 := by
  refine write_num ?_
  have : (Ieee.double.read d).isNaN = false := (isN_read d).trans h
  show ((Ieee.double.read d).integral .down).isNaN = false
  cases hd : Ieee.double.read d with
  | nan s t => rw [hd] at this; cases this
  | infinity s => rfl
  | number s m e => rfl
theorem bareN_num {m : Nat} (h : isN m = false) : bareN m = m := by rw [bareN, if_neg (by rw [h]; decide)]
theorem bareN_nan {m : Nat} (h : isN m = true) : bareN m = 9221120237041090560 := by rw [bareN, if_pos h]
theorem bareN_ans (z : Option Nat) {op : BinOp} {a b : Nat} (h : z = fop op a b) : bareN (ansF z) = ansF z := by
  subst h
  cases h : fop op a b with
  | none => decide
  | some r => exact bareN_num (fop_num h).1
theorem zero_word (s : Bool) : isN (Ieee.double.word s 0) = false := by cases s <;> decide
theorem isZ_m0 {a b : Nat} (hf : rg a < 9218868437227405312) (h0 : rg b ≠ 0) : isZ (m0F a b) = decide (modR a b = 0) := by rw [isZ, (m0_parts hf h0).1]
theorem modF_bare {a b : Nat} (hf : rg a < 9218868437227405312) (h0 : rg b ≠ 0) : bareN (modF a b) = modF a b := by
  unfold modF
  split
  · rfl
  · split
    · exact bareN_num (zero_word _)
    · split
      · exact bareN_ans _ rfl
      · exact bareN_num (fin_notN (by rw [(m0_parts hf h0).1]; have := modR_le hf h0; omega))
section
variable (w : World)
theorem floor_num (d : Nat) (h : isN d = false) : Calls Tryz.prog 103 #[.float .f64 d] w fun e w' => e = .returned (.float .f64 (fround .down d)) ∧ Below w.heap.size w w' := by
  refine calls_cw Tryz.func103 rfl Tryz.ntmps103 rfl ?_
  have HF : Per (No) w (fun _ => True) := Per.true_
  have LW := Ext.refl (No) w
  have XLW : ∀ q9, (No) q9 → (No) q9 ∨ w.heap.size ≤ q9 := fun _ h => Or.inl h
  have E := Ext.refl (No) w
  refine cw_seq ?_
  refine cw_region ?_
  refine rs_op rfl (ow_assign rfl ?_)
  refine rs_nil ?_
  refine ew_next ?_
  refine cw_seq ?_
  refine cw_then rfl ?_
  refine cw_seq ?_
  refine cw_region ?_
  refine rs_op rfl (ow_move rfl ?_)
  refine rs_op rfl (ow_round ex136 rfl ((isN_read d).trans h) ?_)
  refine rs_op rfl (ow_assign rfl ?_)
  refine rs_nil ?_
  refine ew_next ?_
  refine cw_ret ?_
  refine ew_then_ret ?_
  refine ew_ret (rs := [.tmp 2]) (vs := [_]) rfl ⟨rfl, trivial⟩ ?_
  exact ⟨rfl, (LW.step E XLW).toBelow⟩
theorem floor_nan (d : Nat) (h : isN d = true) (hd : d < 18446744073709551616) : Calls Tryz.prog 103 #[.float .f64 d] w fun e w' => ∃ r, e = .returned (.float .f64 r) ∧ isN r = true ∧ Below w.heap.size w w' := by
  refine calls_cw Tryz.func103 rfl Tryz.ntmps103 rfl ?_
  have HF : Per (No) w (fun _ => True) := Per.true_
  have LW := Ext.refl (No) w
  have XLW : ∀ q9, (No) q9 → (No) q9 ∨ w.heap.size ≤ q9 := fun _ h => Or.inl h
  have E := Ext.refl (No) w
  refine cw_seq ?_
  refine cw_region ?_
  refine rs_op rfl (ow_assign rfl ?_)
  refine rs_nil ?_
  refine ew_next ?_
  refine cw_seq ?_
  refine cw_then rfl ?_
  refine cw_seq ?_
  refine cw_region ?_
  refine rs_op rfl (ow_move rfl ?_)
  refine rs_op rfl (ow_roundN ex136 rfl h hd ?_)
  intro r w1 hr
  have Ec := hr.ext
  replace E := E.trans Ec.no
  clear Ec
  refine rs_op rfl (ow_assign rfl ?_)
  refine rs_nil ?_
  refine ew_next ?_
  refine cw_ret ?_
  refine ew_then_ret ?_
  refine ew_ret (rs := [.tmp 2]) (vs := [_]) rfl ⟨rfl, trivial⟩ ?_
  exact ⟨r, rfl, hr.isn, (LW.step E XLW).toBelow⟩
/-! ### package real's -/
section
variable (a b : Nat) (ha : a < 18446744073709551616) (hb : b < 18446744073709551616) (hz : isZ b = false)
include ha hb hz
theorem divmod_nan (hc : nanCase a b = true) : Calls Tryz.prog 66 #[.float .f64 a, .float .f64 b] w fun e w' => ∃ q m, e = .returned (.tuple #[.float .f64 q, .float .f64 m]) ∧ bareN q = floorF a b ∧ bareN m = modF a b ∧ Below w.heap.size w w' := by
  have hF : floorF a b = 9221120237041090560 := by rw [floorF, if_pos hc]
  have hM : modF a b = 9221120237041090560 := by rw [modF, if_pos hc]
  have hnn : isN 9221120237041090561 = true := by decide
  refine calls_cw Tryz.func66 rfl Tryz.ntmps66 rfl ?_
  have HF : Per (No) w (fun _ => True) := Per.true_
  have LW := Ext.refl (No) w
  have XLW : ∀ q9, (No) q9 → (No) q9 ∨ w.heap.size ≤ q9 := fun _ h => Or.inl h
  have E := Ext.refl (No) w
  refine cw_seq ?_
  refine cw_region ?_
  refine rs_op rfl (ow_assign rfl ?_)
  refine rs_op rfl (ow_assign rfl ?_)
  refine rs_nil ?_
  refine ew_next ?_
  refine cw_seq ?_
  refine cw_region ?_
  refine rs_op rfl (ow_move rfl ?_)
  refine rs_op rfl (ow_move rfl ?_)
  refine rs_op rfl (ow_enter en102 rfl ((Mod_nan _ a b ha hb hz hc).mono ?_))
  rintro e w1 ⟨rfl, hb⟩
  refine ⟨_, rfl, ?_⟩
  have Ec := Ext.of_below hb No
  replace E := E.trans Ec.no
  clear hb Ec
  refine rs_op rfl (ow_assign rfl ?_)
  refine rs_nil ?_
  refine ew_next ?_
  refine cw_seq ?_
  refine cw_region ?_
  refine rs_op rfl (ow_move rfl ?_)
  refine rs_op rfl (ow_move rfl ?_)
  refine rs_op rfl (ow_float (m := a) (n := 9221120237041090561) (.inr (.inl rfl)) rfl rfl ?_)
  intro r1 w2 h1
  have Ec := h1.ext
  replace E := E.trans Ec.no
  clear Ec
  refine rs_op rfl (ow_move rfl ?_)
  refine rs_op rfl (ow_float (m := r1) (n := b) (.inr (.inr (.inr rfl))) rfl rfl ?_)
  intro r2 w3 h2
  have Ec := h2.ext
  replace E := E.trans Ec.no
  clear Ec
  have n1 := h1.nan (fop_nan (.inr hnn))
  have n2 := h2.nan (fop_nan (.inl n1))
  refine rs_op rfl (ow_assign rfl ?_)
  refine rs_nil ?_
  refine ew_next ?_
  refine cw_seq ?_
  refine cw_seq ?_
  refine cw_region ?_
  refine rs_op rfl (ow_move rfl ?_)
  refine rs_op rfl (ow_fneq rfl rfl ?_)
  refine rs_set 18 (.bool true) rfl (by kernel_rfl : (.bool (ford 9221120237041090561 0 != some .eq) : Value) = _) ?_
  refine rs_nil ?_
  refine ew_next ?_
  refine cw_then rfl ?_
  refine cw_seq ?_
  refine cw_region ?_
  refine rs_op rfl (ow_move rfl ?_)
  refine rs_op rfl (ow_flss rfl rfl ?_)
  refine rs_set 20 (.bool false) rfl (by kernel_rfl : (.bool (ford 9221120237041090561 0 == some .lt) : Value) = _) ?_
  refine rs_op rfl (ow_move rfl ?_)
  refine rs_op rfl (ow_flss rfl rfl ?_)
  refine rs_op rfl (ow_neqB Tryz.underlying4 rfl rfl ?_)
  refine rs_nil ?_
  refine ew_next ?_
  refine cw_cond rfl (fun hs => ?_) (fun hs => ?_)
  · have _way := True.intro
    refine cw_seq ?_
    refine cw_region ?_
    refine rs_op rfl (ow_move rfl ?_)
    refine rs_op rfl (ow_move rfl ?_)
    refine rs_op rfl (ow_float (m := 9221120237041090561) (n := b) (.inl rfl) rfl rfl ?_)
    intro r3 w4 h3
    have Ec := h3.ext
    replace E := E.trans Ec.no
    clear Ec
    refine rs_op rfl (ow_assign rfl ?_)
    refine rs_nil ?_
    refine ew_next ?_
    refine cw_region ?_
    refine rs_op rfl (ow_move rfl ?_)
    refine rs_op rfl (ow_float (m := r2) (n := 4607182418800017408) (.inr (.inl rfl)) rfl rfl ?_)
    intro r4 w5 h4
    have Ec := h4.ext
    replace E := E.trans Ec.no
    clear Ec
    have n3 := h3.nan (fop_nan (.inl hnn))
    have n4 := h4.nan (fop_nan (.inl n2))
    refine rs_op rfl (ow_assign rfl ?_)
    refine rs_nil ?_
    refine ew_next ?_
    refine cw_seq ?_
    refine cw_seq ?_
    refine cw_region ?_
    refine rs_op rfl (ow_move rfl ?_)
    refine rs_op rfl (ow_feql rfl rfl ?_)
    refine rs_nil ?_
    refine ew_next ?_
    refine cw_set 32 (.bool false) rfl ((by rw [ford_nan_no n4] : (.bool (ford r4 0 == some .eq) : Value) = _)) ?_
    refine cw_else rfl ?_
    refine cw_skip ?_
    refine ew_next ?_
    refine cw_seq ?_
    refine cw_region ?_
    refine rs_op rfl (ow_move rfl ?_)
    refine rs_op rfl (ow_enter en103 rfl ((floor_nan _ r4 n4 h4.lt64).mono ?_))
    rintro e w6 ⟨f, rfl, hf, hb⟩
    refine ⟨_, rfl, ?_⟩
    have Ec := Ext.of_below hb No
    replace E := E.trans Ec.no
    clear hb Ec
    refine rs_op rfl (ow_assign rfl ?_)
    refine rs_nil ?_
    refine ew_next ?_
    refine cw_seq ?_
    refine cw_seq ?_
    refine cw_region ?_
    refine rs_op rfl (ow_move rfl ?_)
    refine rs_op rfl (ow_move rfl ?_)
    refine rs_op rfl (ow_float (m := r4) (n := f) (.inr (.inl rfl)) rfl rfl ?_)
    intro r w7 hr
    have Ec := hr.ext
    replace E := E.trans Ec.no
    clear Ec
    refine rs_op rfl (ow_fgtr rfl rfl ?_)
    refine rs_nil ?_
    refine ew_next ?_
    refine cw_set 43 (.bool false) rfl ((by rw [ford_nan_no (hr.nan (fop_nan (.inl n4)))] : (.bool (ford r 4602678819172646912 == some .gt) : Value) = _)) ?_
    refine cw_else rfl ?_
    refine cw_skip ?_
    refine ew_next ?_
    refine cw_seq ?_
    refine cw_region ?_
    refine rs_op rfl (ow_move rfl ?_)
    refine rs_op rfl (ow_move rfl ?_)
    refine rs_op rfl (ow_assign rfl ?_)
    refine rs_op rfl (ow_assign rfl ?_)
    refine rs_nil ?_
    refine ew_next ?_
    refine cw_ret ?_
    refine ew_ret (rs := [.tmp 4, .tmp 5]) (vs := [_, _]) rfl ⟨rfl, rfl, trivial⟩ ?_
    exact ⟨f, r3, rfl, by rw [bareN_nan hf, hF], by rw [bareN_nan n3, hM], (LW.step E XLW).toBelow⟩
  · have _way := True.intro
    refine cw_skip ?_
    refine ew_next ?_
    refine cw_seq ?_
    refine cw_seq ?_
    refine cw_region ?_
    refine rs_op rfl (ow_move rfl ?_)
    refine rs_op rfl (ow_feql rfl rfl ?_)
    refine rs_nil ?_
    refine ew_next ?_
    refine cw_set 32 (.bool false) rfl ((by rw [ford_nan_no n2] : (.bool (ford r2 0 == some .eq) : Value) = _)) ?_
    refine cw_else rfl ?_
    refine cw_skip ?_
    refine ew_next ?_
    refine cw_seq ?_
    refine cw_region ?_
    refine rs_op rfl (ow_move rfl ?_)
    refine rs_op rfl (ow_enter en103 rfl ((floor_nan _ r2 n2 h2.lt64).mono ?_))
    rintro e w8 ⟨f, rfl, hf, hb⟩
    refine ⟨_, rfl, ?_⟩
    have Ec := Ext.of_below hb No
    replace E := E.trans Ec.no
    clear hb Ec
    refine rs_op rfl (ow_assign rfl ?_)
    refine rs_nil ?_
    refine ew_next ?_
    refine cw_seq ?_
    refine cw_seq ?_
    refine cw_region ?_
    refine rs_op rfl (ow_move rfl ?_)
    refine rs_op rfl (ow_move rfl ?_)
    refine rs_op rfl (ow_float (m := r2) (n := f) (.inr (.inl rfl)) rfl rfl ?_)
    intro r w9 hr
    have Ec := hr.ext
    replace E := E.trans Ec.no
    clear Ec
    refine rs_op rfl (ow_fgtr rfl rfl ?_)
    refine rs_nil ?_
    refine ew_next ?_
    refine cw_set 43 (.bool false) rfl ((by rw [ford_nan_no (hr.nan (fop_nan (.inl n2)))] : (.bool (ford r 4602678819172646912 == some .gt) : Value) = _)) ?_
    refine cw_else rfl ?_
    refine cw_skip ?_
    refine ew_next ?_
    refine cw_seq ?_
    refine cw_region ?_
    refine rs_op rfl (ow_move rfl ?_)
    refine rs_op rfl (ow_move rfl ?_)
    refine rs_op rfl (ow_assign rfl ?_)
    refine rs_op rfl (ow_assign rfl ?_)
    refine rs_nil ?_
    refine ew_next ?_
    refine cw_ret ?_
    refine ew_ret (rs := [.tmp 4, .tmp 5]) (vs := [_, _]) rfl ⟨rfl, rfl, trivial⟩ ?_
    exact ⟨f, _, rfl, by rw [bareN_nan hf, hF], by rw [bareN_nan hnn, hM], (LW.step E XLW).toBelow⟩
section
variable (hf : rg a < 9218868437227405312) (hn : isN b = false)
include hf hn
theorem divmod_num : Calls Tryz.prog 66 #[.float .f64 a, .float .f64 b] w fun e w' => ∃ q m, e = .returned (.tuple #[.float .f64 q, .float .f64 m]) ∧ bareN q = floorF a b ∧ bareN m = modF a b ∧ Below w.heap.size w w' := by
  have h0 : rg b ≠ 0 := of_decide_eq_false hz
  have hcn : ¬ nanCase a b = true := by rw [nanCase, fin_notN hf, hn, decide_eq_false (by omega)]; decide
  have hdn := d1_num ha hf hn h0
  have hmb := modF_bare hf h0
  have hmz := isZ_m0 hf h0
  obtain ⟨p1, p2, p3⟩ := m0_parts hf h0
  obtain ⟨zq, hzq, hzs⟩ := quo_fin (fin_notN hf) hn h0 (.inl hf)
  have hmn : isN (m0F a b) = false := fin_notN (by rw [p1]; have := modR_le hf h0; omega)
  refine calls_cw Tryz.func66 rfl Tryz.ntmps66 rfl ?_
  have HF : Per (No) w (fun _ => True) := Per.true_
  have LW := Ext.refl (No) w
  have XLW : ∀ q9, (No) q9 → (No) q9 ∨ w.heap.size ≤ q9 := fun _ h => Or.inl h
  have E := Ext.refl (No) w
  refine cw_seq ?_
  refine cw_region ?_
  refine rs_op rfl (ow_assign rfl ?_)
  refine rs_op rfl (ow_assign rfl ?_)
  refine rs_nil ?_
  refine ew_next ?_
  refine cw_seq ?_
  refine cw_region ?_
  refine rs_op rfl (ow_move rfl ?_)
  refine rs_op rfl (ow_move rfl ?_)
  refine rs_op rfl (ow_enter en102 rfl ((Mod_num _ a b ha hb hz hf hn).mono ?_))
  rintro e w1 ⟨rfl, hb⟩
  refine ⟨_, rfl, ?_⟩
  have Ec := Ext.of_below hb No
  replace E := E.trans Ec.no
  clear hb Ec
  refine rs_op rfl (ow_assign rfl ?_)
  refine rs_nil ?_
  refine ew_next ?_
  refine cw_seq ?_
  refine cw_region ?_
  refine rs_op rfl (ow_move rfl ?_)
  refine rs_op rfl (ow_move rfl ?_)
  refine rs_op rfl (ow_fV (.inr (.inl rfl)) rfl rfl (sub_m0 hf h0) ?_)
  refine rs_op rfl (ow_move rfl ?_)
  refine rs_op rfl (ow_fV (.inr (.inr (.inr rfl))) rfl rfl (quo_m0 ha hf hn h0) ?_)
  refine rs_op rfl (ow_assign rfl ?_)
  refine rs_nil ?_
  refine ew_next ?_
  refine cw_seq ?_
  refine cw_seq ?_
  refine cw_region ?_
  refine rs_op rfl (ow_move rfl ?_)
  refine rs_op rfl (ow_fneq rfl rfl ?_)
  refine rs_nil ?_
  refine ew_next ?_
  refine cw_set 18 (.bool (!(decide (modR a b = 0)))) rfl ((by rw [← hmz, ← ford_zero]; rfl : (.bool (ford (m0F a b) 0 != some .eq) : Value) = _)) ?_
  refine cw_cond rfl (fun hm0 => ?_) (fun hm0 => ?_)
  · have _way := True.intro
    have hm0 : ¬ modR a b = 0 := by simpa using hm0
    refine cw_seq ?_
    refine cw_region ?_
    refine rs_op rfl (ow_move rfl ?_)
    refine rs_op rfl (ow_flss rfl rfl ?_)
    refine rs_op rfl (ow_move rfl ?_)
    refine rs_op rfl (ow_flss rfl rfl ?_)
    refine rs_op rfl (ow_neqB Tryz.underlying4 rfl rfl ?_)
    refine rs_nil ?_
    refine ew_next ?_
    refine cw_set 23 (.bool (ng a != ng b)) rfl ((by rw [ford_neg hmn (by rw [p1]; exact hm0), ford_neg hn h0, p2] : (.bool ((ford (m0F a b) 0 == some .lt) != (ford b 0 == some .lt)) : Value) = _)) ?_
    refine cw_cond rfl (fun hfl => ?_) (fun hfl => ?_)
    · have _way := True.intro
      have hflip : flipB a b = true := by rw [flipB, decide_eq_true hm0, hfl]; rfl
      have hd1 : d1F a b = ansF (fop .sub (d0F a b) 4607182418800017408) := by rw [d1F, if_pos hflip]
      have hm1 : bareN (ansF (fop .add (m0F a b) b)) = modF a b := by rw [bareN_ans _ rfl, modF, if_neg hcn, if_neg hm0, if_pos hflip]
      refine cw_seq ?_
      refine cw_region ?_
      refine rs_op rfl (ow_move rfl ?_)
      refine rs_op rfl (ow_move rfl ?_)
      refine rs_op rfl (ow_fV (.inl rfl) rfl rfl (add_m0 hf hn h0) ?_)
      refine rs_op rfl (ow_assign rfl ?_)
      refine rs_nil ?_
      refine ew_next ?_
      refine cw_region ?_
      refine rs_op rfl (ow_move rfl ?_)
      refine rs_op rfl (ow_fV (.inr (.inl rfl)) rfl rfl (sub_d0 ha hf hn h0) ?_)
      refine rs_op rfl (ow_assign rfl ?_)
      refine rs_nil ?_
      refine ew_next ?_
      refine cw_seq ?_
      refine cw_seq ?_
      refine cw_region ?_
      refine rs_op rfl (ow_move rfl ?_)
      refine rs_op rfl (ow_feql rfl rfl ?_)
      refine rs_nil ?_
      refine ew_next ?_
      refine cw_set 32 (.bool (isZ (ansF (fop .sub (d0F a b) 4607182418800017408)))) rfl ((by rw [ford_zero] : (.bool (ford (ansF (fop .sub (d0F a b) 4607182418800017408)) 0 == some .eq) : Value) = _)) ?_
      refine cw_cond rfl (fun hzd => ?_) (fun hzd => ?_)
      · have _way := True.intro
        refine cw_seq ?_
        refine cw_region ?_
        refine rs_op rfl (ow_move rfl ?_)
        refine rs_op rfl (ow_move rfl ?_)
        refine rs_op rfl (ow_fV (z := zq) (.inr (.inr (.inr rfl))) rfl rfl hzq ?_)
        refine rs_op rfl (ow_enter en56 rfl ((copysign_any _ 0 (by decide) zq (fop_num hzq).2).mono ?_))
        rintro e w2 ⟨rfl, hb⟩
        refine ⟨_, rfl, ?_⟩
        have Ec := Ext.of_below hb No
        replace E := E.trans Ec.no
        clear hb Ec
        refine rs_op rfl (ow_move rfl ?_)
        refine rs_op rfl (ow_assign rfl ?_)
        refine rs_op rfl (ow_assign rfl ?_)
        refine rs_nil ?_
        refine ew_next ?_
        refine cw_ret ?_
        refine ew_then_ret ?_
        refine ew_ret (rs := [.tmp 4, .tmp 5]) (vs := [_, _]) rfl ⟨rfl, rfl, trivial⟩ ?_
        exact ⟨_, _, rfl, by rw [floorF, if_neg hcn, hd1, if_pos hzd, hzs]; exact bareN_num (zero_word _), hm1, (LW.step E XLW).toBelow⟩
      · have _way := True.intro
        refine cw_skip ?_
        refine ew_next ?_
        refine cw_seq ?_
        refine cw_region ?_
        refine rs_op rfl (ow_move rfl ?_)
        refine rs_op rfl (ow_enter en103 rfl ((floor_num _ (ansF (fop .sub (d0F a b) 4607182418800017408)) (by rw [← hd1]; exact hdn.1)).mono ?_))
        rintro e w3 ⟨rfl, hb⟩
        refine ⟨_, rfl, ?_⟩
        have Ec := Ext.of_below hb No
        replace E := E.trans Ec.no
        clear hb Ec
        refine rs_op rfl (ow_assign rfl ?_)
        refine rs_nil ?_
        refine ew_next ?_
        refine cw_seq ?_
        refine cw_seq ?_
        refine cw_region ?_
        refine rs_op rfl (ow_move rfl ?_)
        refine rs_op rfl (ow_move rfl ?_)
        refine rs_op rfl (ow_float (m := ansF (fop .sub (d0F a b) 4607182418800017408)) (n := fround .down (ansF (fop .sub (d0F a b) 4607182418800017408))) (.inr (.inl rfl)) rfl rfl ?_)
        intro r w4 hr
        have Ec := hr.ext
        replace E := E.trans Ec.no
        clear Ec
        refine rs_op rfl (ow_fgtr rfl rfl ?_)
        refine rs_nil ?_
        refine ew_next ?_
        refine cw_set 43 (.bool (upB (ansF (fop .sub (d0F a b) 4607182418800017408)))) rfl ((by rw [up_of hr] : (.bool (ford r 4602678819172646912 == some .gt) : Value) = _)) ?_
        refine cw_cond rfl (fun hu => ?_) (fun hu => ?_)
        · have _way := True.intro
          refine cw_region ?_
          refine rs_op rfl (ow_move rfl ?_)
          refine rs_op rfl (ow_float (m := fround .down (ansF (fop .sub (d0F a b) 4607182418800017408))) (n := 4607182418800017408) (.inl rfl) rfl rfl ?_)
          intro r5 w5 hr5
          have Ec := hr5.ext
          replace E := E.trans Ec.no
          clear Ec
          refine rs_op rfl (ow_assign rfl ?_)
          refine rs_nil ?_
          refine ew_next ?_
          refine cw_seq ?_
          refine cw_region ?_
          refine rs_op rfl (ow_move rfl ?_)
          refine rs_op rfl (ow_move rfl ?_)
          refine rs_op rfl (ow_assign rfl ?_)
          refine rs_op rfl (ow_assign rfl ?_)
          refine rs_nil ?_
          refine ew_next ?_
          refine cw_ret ?_
          refine ew_ret (rs := [.tmp 4, .tmp 5]) (vs := [_, _]) rfl ⟨rfl, rfl, trivial⟩ ?_
          exact ⟨_, _, rfl, by rw [floorF, if_neg hcn, hd1, if_neg (by rw [hzd]; decide), hr5.bare, wholeF, if_pos hu], hm1, (LW.step E XLW).toBelow⟩
        · have _way := True.intro
          refine cw_skip ?_
          refine ew_next ?_
          refine cw_seq ?_
          refine cw_region ?_
          refine rs_op rfl (ow_move rfl ?_)
          refine rs_op rfl (ow_move rfl ?_)
          refine rs_op rfl (ow_assign rfl ?_)
          refine rs_op rfl (ow_assign rfl ?_)
          refine rs_nil ?_
          refine ew_next ?_
          refine cw_ret ?_
          refine ew_ret (rs := [.tmp 4, .tmp 5]) (vs := [_, _]) rfl ⟨rfl, rfl, trivial⟩ ?_
          exact ⟨_, _, rfl, by rw [floorF, if_neg hcn, hd1, if_neg (by rw [hzd]; decide), wholeF, if_neg (by rw [hu]; decide), bareN_num (fround_num (by rw [← hd1]; exact hdn.1)).1], hm1, (LW.step E XLW).toBelow⟩
    · have _way := True.intro
      have hflip : ¬ flipB a b = true := by rw [flipB, hfl, Bool.and_false]; decide
      have hd1 : d1F a b = d0F a b := by rw [d1F, if_neg hflip]
      have hm1 : bareN (m0F a b) = modF a b := by rw [bareN_num hmn, modF, if_neg hcn, if_neg hm0, if_neg hflip]
      refine cw_skip ?_
      refine ew_next ?_
      refine cw_seq ?_
      refine cw_seq ?_
      refine cw_region ?_
      refine rs_op rfl (ow_move rfl ?_)
      refine rs_op rfl (ow_feql rfl rfl ?_)
      refine rs_nil ?_
      refine ew_next ?_
      refine cw_set 32 (.bool (isZ (d0F a b))) rfl ((by rw [ford_zero] : (.bool (ford (d0F a b) 0 == some .eq) : Value) = _)) ?_
      refine cw_cond rfl (fun hzd => ?_) (fun hzd => ?_)
      · have _way := True.intro
        refine cw_seq ?_
        refine cw_region ?_
        refine rs_op rfl (ow_move rfl ?_)
        refine rs_op rfl (ow_move rfl ?_)
        refine rs_op rfl (ow_fV (z := zq) (.inr (.inr (.inr rfl))) rfl rfl hzq ?_)
        refine rs_op rfl (ow_enter en56 rfl ((copysign_any _ 0 (by decide) zq (fop_num hzq).2).mono ?_))
        rintro e w6 ⟨rfl, hb⟩
        refine ⟨_, rfl, ?_⟩
        have Ec := Ext.of_below hb No
        replace E := E.trans Ec.no
        clear hb Ec
        refine rs_op rfl (ow_move rfl ?_)
        refine rs_op rfl (ow_assign rfl ?_)
        refine rs_op rfl (ow_assign rfl ?_)
        refine rs_nil ?_
        refine ew_next ?_
        refine cw_ret ?_
        refine ew_then_ret ?_
        refine ew_ret (rs := [.tmp 4, .tmp 5]) (vs := [_, _]) rfl ⟨rfl, rfl, trivial⟩ ?_
        exact ⟨_, _, rfl, by rw [floorF, if_neg hcn, hd1, if_pos hzd, hzs]; exact bareN_num (zero_word _), hm1, (LW.step E XLW).toBelow⟩
      · have _way := True.intro
        refine cw_skip ?_
        refine ew_next ?_
        refine cw_seq ?_
        refine cw_region ?_
        refine rs_op rfl (ow_move rfl ?_)
        refine rs_op rfl (ow_enter en103 rfl ((floor_num _ (d0F a b) (by rw [← hd1]; exact hdn.1)).mono ?_))
        rintro e w7 ⟨rfl, hb⟩
        refine ⟨_, rfl, ?_⟩
        have Ec := Ext.of_below hb No
        replace E := E.trans Ec.no
        clear hb Ec
        refine rs_op rfl (ow_assign rfl ?_)
        refine rs_nil ?_
        refine ew_next ?_
        refine cw_seq ?_
        refine cw_seq ?_
        refine cw_region ?_
        refine rs_op rfl (ow_move rfl ?_)
        refine rs_op rfl (ow_move rfl ?_)
        refine rs_op rfl (ow_float (m := d0F a b) (n := fround .down (d0F a b)) (.inr (.inl rfl)) rfl rfl ?_)
        intro r w8 hr
        have Ec := hr.ext
        replace E := E.trans Ec.no
        clear Ec
        refine rs_op rfl (ow_fgtr rfl rfl ?_)
        refine rs_nil ?_
        refine ew_next ?_
        refine cw_set 43 (.bool (upB (d0F a b))) rfl ((by rw [up_of hr] : (.bool (ford r 4602678819172646912 == some .gt) : Value) = _)) ?_
        refine cw_cond rfl (fun hu => ?_) (fun hu => ?_)
        · have _way := True.intro
          refine cw_region ?_
          refine rs_op rfl (ow_move rfl ?_)
          refine rs_op rfl (ow_float (m := fround .down (d0F a b)) (n := 4607182418800017408) (.inl rfl) rfl rfl ?_)
          intro r5 w9 hr5
          have Ec := hr5.ext
          replace E := E.trans Ec.no
          clear Ec
          refine rs_op rfl (ow_assign rfl ?_)
          refine rs_nil ?_
          refine ew_next ?_
          refine cw_seq ?_
          refine cw_region ?_
          refine rs_op rfl (ow_move rfl ?_)
          refine rs_op rfl (ow_move rfl ?_)
          refine rs_op rfl (ow_assign rfl ?_)
          refine rs_op rfl (ow_assign rfl ?_)
          refine rs_nil ?_
          refine ew_next ?_
          refine cw_ret ?_
          refine ew_ret (rs := [.tmp 4, .tmp 5]) (vs := [_, _]) rfl ⟨rfl, rfl, trivial⟩ ?_
          exact ⟨_, _, rfl, by rw [floorF, if_neg hcn, hd1, if_neg (by rw [hzd]; decide), hr5.bare, wholeF, if_pos hu], hm1, (LW.step E XLW).toBelow⟩
        · have _way := True.intro
          refine cw_skip ?_
          refine ew_next ?_
          refine cw_seq ?_
          refine cw_region ?_
          refine rs_op rfl (ow_move rfl ?_)
          refine rs_op rfl (ow_move rfl ?_)
          refine rs_op rfl (ow_assign rfl ?_)
          refine rs_op rfl (ow_assign rfl ?_)
          refine rs_nil ?_
          refine ew_next ?_
          refine cw_ret ?_
          refine ew_ret (rs := [.tmp 4, .tmp 5]) (vs := [_, _]) rfl ⟨rfl, rfl, trivial⟩ ?_
          exact ⟨_, _, rfl, by rw [floorF, if_neg hcn, hd1, if_neg (by rw [hzd]; decide), wholeF, if_neg (by rw [hu]; decide), bareN_num (fround_num (by rw [← hd1]; exact hdn.1)).1], hm1, (LW.step E XLW).toBelow⟩
  · have _way := True.intro
    have hm0 : modR a b = 0 := by simpa using hm0
    have hflip : ¬ flipB a b = true := by rw [flipB, hm0]; simp
    have hd1 : d1F a b = d0F a b := by rw [d1F, if_neg hflip]
    have hm1 : bareN (Ieee.double.word (ng b) (rg 0)) = modF a b := by rw [modF, if_neg hcn, if_pos hm0]; exact bareN_num (zero_word _)
    refine cw_region ?_
    refine rs_op rfl (ow_move rfl ?_)
    refine rs_op rfl (ow_enter en56 rfl ((copysign_any _ 0 (by decide) b hb).mono ?_))
    rintro e w10 ⟨rfl, hb⟩
    refine ⟨_, rfl, ?_⟩
    have Ec := Ext.of_below hb No
    replace E := E.trans Ec.no
    clear hb Ec
    refine rs_op rfl (ow_assign rfl ?_)
    refine rs_nil ?_
    refine ew_next ?_
    refine cw_seq ?_
    refine cw_seq ?_
    refine cw_region ?_
    refine rs_op rfl (ow_move rfl ?_)
    refine rs_op rfl (ow_feql rfl rfl ?_)
    refine rs_nil ?_
    refine ew_next ?_
    refine cw_set 32 (.bool (isZ (d0F a b))) rfl ((by rw [ford_zero] : (.bool (ford (d0F a b) 0 == some .eq) : Value) = _)) ?_
    refine cw_cond rfl (fun hzd => ?_) (fun hzd => ?_)
    · have _way := True.intro
      refine cw_seq ?_
      refine cw_region ?_
      refine rs_op rfl (ow_move rfl ?_)
      refine rs_op rfl (ow_move rfl ?_)
      refine rs_op rfl (ow_fV (z := zq) (.inr (.inr (.inr rfl))) rfl rfl hzq ?_)
      refine rs_op rfl (ow_enter en56 rfl ((copysign_any _ 0 (by decide) zq (fop_num hzq).2).mono ?_))
      rintro e w11 ⟨rfl, hb⟩
      refine ⟨_, rfl, ?_⟩
      have Ec := Ext.of_below hb No
      replace E := E.trans Ec.no
      clear hb Ec
      refine rs_op rfl (ow_move rfl ?_)
      refine rs_op rfl (ow_assign rfl ?_)
      refine rs_op rfl (ow_assign rfl ?_)
      refine rs_nil ?_
      refine ew_next ?_
      refine cw_ret ?_
      refine ew_then_ret ?_
      refine ew_ret (rs := [.tmp 4, .tmp 5]) (vs := [_, _]) rfl ⟨rfl, rfl, trivial⟩ ?_
      exact ⟨_, _, rfl, by rw [floorF, if_neg hcn, hd1, if_pos hzd, hzs]; exact bareN_num (zero_word _), hm1, (LW.step E XLW).toBelow⟩
    · have _way := True.intro
      refine cw_skip ?_
      refine ew_next ?_
      refine cw_seq ?_
      refine cw_region ?_
      refine rs_op rfl (ow_move rfl ?_)
      refine rs_op rfl (ow_enter en103 rfl ((floor_num _ (d0F a b) (by rw [← hd1]; exact hdn.1)).mono ?_))
      rintro e w12 ⟨rfl, hb⟩
      refine ⟨_, rfl, ?_⟩
      have Ec := Ext.of_below hb No
      replace E := E.trans Ec.no
      clear hb Ec
      refine rs_op rfl (ow_assign rfl ?_)
      refine rs_nil ?_
      refine ew_next ?_
      refine cw_seq ?_
      refine cw_seq ?_
      refine cw_region ?_
      refine rs_op rfl (ow_move rfl ?_)
      refine rs_op rfl (ow_move rfl ?_)
      refine rs_op rfl (ow_float (m := d0F a b) (n := fround .down (d0F a b)) (.inr (.inl rfl)) rfl rfl ?_)
      intro r w13 hr
      have Ec := hr.ext
      replace E := E.trans Ec.no
      clear Ec
      refine rs_op rfl (ow_fgtr rfl rfl ?_)
      refine rs_nil ?_
      refine ew_next ?_
      refine cw_set 43 (.bool (upB (d0F a b))) rfl ((by rw [up_of hr] : (.bool (ford r 4602678819172646912 == some .gt) : Value) = _)) ?_
      refine cw_cond rfl (fun hu => ?_) (fun hu => ?_)
      · have _way := True.intro
        refine cw_region ?_
        refine rs_op rfl (ow_move rfl ?_)
        refine rs_op rfl (ow_float (m := fround .down (d0F a b)) (n := 4607182418800017408) (.inl rfl) rfl rfl ?_)
        intro r5 w14 hr5
        have Ec := hr5.ext
        replace E := E.trans Ec.no
        clear Ec
        refine rs_op rfl (ow_assign rfl ?_)
        refine rs_nil ?_
        refine ew_next ?_
        refine cw_seq ?_
        refine cw_region ?_
        refine rs_op rfl (ow_move rfl ?_)
        refine rs_op rfl (ow_move rfl ?_)
        refine rs_op rfl (ow_assign rfl ?_)
        refine rs_op rfl (ow_assign rfl ?_)
        refine rs_nil ?_
        refine ew_next ?_
        refine cw_ret ?_
        refine ew_ret (rs := [.tmp 4, .tmp 5]) (vs := [_, _]) rfl ⟨rfl, rfl, trivial⟩ ?_
        exact ⟨_, _, rfl, by rw [floorF, if_neg hcn, hd1, if_neg (by rw [hzd]; decide), hr5.bare, wholeF, if_pos hu], hm1, (LW.step E XLW).toBelow⟩
      · have _way := True.intro
        refine cw_skip ?_
        refine ew_next ?_
        refine cw_seq ?_
        refine cw_region ?_
        refine rs_op rfl (ow_move rfl ?_)
        refine rs_op rfl (ow_move rfl ?_)
        refine rs_op rfl (ow_assign rfl ?_)
        refine rs_op rfl (ow_assign rfl ?_)
        refine rs_nil ?_
        refine ew_next ?_
        refine cw_ret ?_
        refine ew_ret (rs := [.tmp 4, .tmp 5]) (vs := [_, _]) rfl ⟨rfl, rfl, trivial⟩ ?_
        exact ⟨_, _, rfl, by rw [floorF, if_neg hcn, hd1, if_neg (by rw [hzd]; decide), wholeF, if_neg (by rw [hu]; decide), bareN_num (fround_num (by rw [← hd1]; exact hdn.1)).1], hm1, (LW.step E XLW).toBelow⟩
end
omit hz in
theorem divmod_any (hz : isZ b = false) : Calls Tryz.prog 66 #[.float .f64 a, .float .f64 b] w fun e w' => ∃ q m, e = .returned (.tuple #[.float .f64 q, .float .f64 m]) ∧ bareN q = floorF a b ∧ bareN m = modF a b ∧ Below w.heap.size w w' := by
  cases hc : nanCase a b with
  | true => exact divmod_nan w a b ha hb hz hc
  | false =>
    rw [nanCase] at hc
    simp only [Bool.or_eq_false_iff, decide_eq_false_iff_not] at hc
    have h1 := of_decide_eq_false hc.1.1
    exact divmod_num w a b ha hb hz (by omega) hc.1.2
end
end
end Go.Proofs.YtljndllhmdpjlaaGreatDoor
namespace Go.Proofs.YtljndllhmdpjlaaGreatDoor
open Ieee
set_option maxRecDepth 100000
/-- What a whole number is rounded to is whole. -/
theorem near_whole {N r : Nat} (h : 2 ^ 1074 ∣ N) (e2 : ∀ q, vl q ≤ N → q ≤ r) (e3 : ∀ q, N ≤ vl q → r ≤ q) (e4 : N ≠ 0 → N.log2 - 52 ≤ ex r) : isWh r := by
  by_cases h0 : N = 0
  · have : r ≤ 0 := e3 0 (by rw [h0]; exact Nat.zero_le _)
    rw [show r = 0 by omega]
    exact isWh_zero
  · rcases Nat.lt_or_ge (N.log2 - 52) 1074 with hl | hl
    · obtain ⟨j, hj⟩ := dvd_get h
      have hj0 : j ≠ 0 := fun e => h0 (zero_p hj e)
      have hlog : N.log2 = j.log2 + 1074 := log2_aux rfl hj0 hj
      have hj2 : j < 9007199254740992 := by
        have := @Nat.lt_log2_self j
        have h5 : (2 : Nat) ^ (j.log2 + 1) ≤ 2 ^ 53 := Nat.pow_le_pow_right (by decide) (by omega)
        omega
      obtain ⟨d, hd⟩ := rep_any j 1074 hj2
      have hdN : vl d = N := hd.trans hj.symm
      have h1 := e2 d (Nat.le_of_eq hdN)
      have h2 := e3 d (Nat.le_of_eq hdN.symm)
      rw [show r = d by omega]
      exact dvd_p hd
    · exact isWh_ex (Nat.le_trans hl (e4 h0))
/-- An infinity or a whole number. -/
def wholeOr (z : Nat) : Prop := rg z = 9218868437227405312 ∨ (rg z < 9218868437227405312 ∧ isWh (rg z))
theorem word_or {s : Bool} {r : Nat} (h : isWh r) : wholeOr (double.word s (min r 9218868437227405312)) := by
  have hm : min r 9218868437227405312 ≤ 9218868437227405312 := Nat.min_le_right _ _
  unfold wholeOr
  rw [(word_rg s (min r 9218868437227405312) (Nat.lt_of_le_of_lt hm (by decide))).1]
  rcases Nat.lt_or_ge r 9218868437227405312 with hr | hr
  · right; rw [Nat.min_eq_left (by omega)]; exact ⟨hr, h⟩
  · left; exact Nat.min_eq_right hr
theorem num_or {d : Nat} (h : isN d = false) : rg d < 9218868437227405312 ∨ rg d = 9218868437227405312 := by have := of_decide_eq_false h; omega
theorem write_int (s : Bool) (m : Nat) : wholeOr (double.write (.number s m 0)) := by
  obtain ⟨r, e1, e2, e3, e4⟩ := near_sum (s := s) (m := m) (c := 1074) rfl
  have e : double.write (.number s m 0) = double.write (.number s m (-1074 + ((1074 : Nat) : Int))) := rfl
  rw [e, e1]
  exact word_or (near_whole (dvd_p rfl) e2 e3 e4)
theorem floor_or {d : Nat} (h : isN d = false) : wholeOr (fround .down d) := by
  show wholeOr (double.write ((double.read d).integral .down))
  rcases num_or h with hd | hd
  · rw [read_num hd]; exact write_int _ _
  · rw [read_inf hd]
    left
    show rg (double.word (ng d) double.infRung) = _
    rw [c3]
    exact (word_rg _ _ (by decide)).1
theorem sv_one : sv 4607182418800017408 = ((vl 4607182418800017408 : Nat) : Int) := by
  have h : rg 4607182418800017408 = 4607182418800017408 ∧ ng 4607182418800017408 = false := by decide
  rw [sv, h.2, h.1]; rfl
theorem vl_one : vl 4607182418800017408 = 2 ^ 1074 := by decide +kernel
theorem dvd_sum {x P : Nat} {s t : Int} (h : P ∣ x) (hs : s = (x : Int) ∨ s = -(x : Int)) (ht : t = (P : Int)) : P ∣ (s + t).natAbs := by
  obtain ⟨j, rfl⟩ := dvd_get h
  rcases hs with rfl | rfl
  · refine ⟨j + 1, ?_⟩
    rw [ht, ← Int.natCast_add, Int.natAbs_natCast, Nat.mul_add, Nat.mul_one, Nat.mul_comm]
  · refine ⟨((1 : Int) - (j : Int)).natAbs, ?_⟩
    have e : -((j * P : Nat) : Int) + t = ((P : Nat) : Int) * ((1 : Int) - (j : Int)) := by rw [ht, Int.mul_sub, Int.mul_one, Int.natCast_mul, Int.mul_comm (P : Int)]; omega
    rw [e, Int.natAbs_mul, Int.natAbs_natCast]
theorem sv_abs (b : Nat) : sv b = ((vl (rg b) : Nat) : Int) ∨ sv b = -((vl (rg b) : Nat) : Int) := by unfold sv; split <;> simp
theorem succ_or {f z : Nat} (hf : wholeOr f) (hz : fop .add f 4607182418800017408 = some z) : wholeOr z := by
  have h1 : rg 4607182418800017408 = 4607182418800017408 := by decide
  rcases hf with hi | ⟨hf, hw⟩
  · left
    simp only [fop, Format.add, read_inf hi, read_num (b := 4607182418800017408) (by rw [h1]; decide), Datum.sum, Option.map_some] at hz
    rw [← Option.some.inj hz]
    show rg (double.word (ng f) double.infRung) = _
    rw [c3]
    exact (word_rg _ _ (by decide)).1
  · refine add_whole hf (by rw [h1]; decide) ?_ hz
    exact dvd_sum hw (sv_abs f) (sv_one.trans (congrArg (fun n : Nat => (n : Int)) vl_one))
theorem add_one_some {f : Nat} (hn : isN f = false) : ∃ z, fop .add f 4607182418800017408 = some z := by
  have h1 : rg 4607182418800017408 = 4607182418800017408 := by decide
  rcases num_or hn with h | h
  · exact add_fin h (by rw [h1]; decide)
  · simp only [fop, Format.add, read_inf h, read_num (b := 4607182418800017408) (by rw [h1]; decide), Datum.sum, Option.map_some]
    exact ⟨_, rfl⟩
theorem wholeF_or {d : Nat} (h : isN d = false) : wholeOr (wholeF d) ∧ isN (wholeF d) = false ∧ wholeF d < 18446744073709551616 := by
  have hf := fround_num h
  unfold wholeF
  split
  · obtain ⟨z, hz⟩ := add_one_some hf.1
    rw [hz]
    exact ⟨succ_or (floor_or h) hz, fop_num hz⟩
  · exact ⟨floor_or h, hf⟩
section
variable {a b : Nat} (ha : a < 18446744073709551616) (hf : rg a < 9218868437227405312) (hb : b < 18446744073709551616) (hn : isN b = false) (h0 : rg b ≠ 0)
include ha hf hn h0
theorem not_nan : ¬ nanCase a b = true := by
  have _ := ha
  have _ := h0
  rw [nanCase, fin_notN hf, hn, decide_eq_false (by omega)]; decide
theorem floorF_or : wholeOr (floorF a b) ∧ isN (floorF a b) = false ∧ floorF a b < 18446744073709551616 := by
  rw [floorF, if_neg (not_nan ha hf hn h0)]
  split
  · obtain ⟨w1, _, w3⟩ := word_rg (ng a ^^ ng b) 0 (by decide)
    exact ⟨.inr ⟨by rw [w1]; decide, by rw [w1]; exact isWh_zero⟩, zero_word _, w3⟩
  · exact wholeF_or (d1_num ha hf hn h0).1
include hb
theorem modF_lies : isN (modF a b) = false ∧ modF a b < 18446744073709551616 ∧ ng (modF a b) = ng b ∧ rg (modF a b) ≤ rg b := by
  have _ := hb
  obtain ⟨m1, m2, m3⟩ := m0_parts hf h0
  have hB := num_or hn
  have hlt : rg b < 9218868437227405312 → modR a b < rg b := fun h => by
    have h1 := (modR_fin hf h0 (by omega)).1
    have h2 : 0 < vl (rg b) := by
      rcases Nat.eq_zero_or_pos (vl (rg b)) with h' | h'
      · exact absurd (vl_zero_iff.1 h') h0
      · exact h'
    exact vl_lt_iff.1 (by rw [h1]; exact Nat.mod_lt _ h2)
  have hle : modR a b ≤ rg b := by
    rcases hB with h | h
    · exact Nat.le_of_lt (hlt h)
    · have := modR_le hf h0; omega
  rw [modF, if_neg (not_nan ha hf hn h0)]
  split
  · obtain ⟨w1, w2, w3⟩ := word_rg (ng b) 0 (by decide)
    exact ⟨zero_word _, w3, w2, by rw [w1]; exact Nat.zero_le _⟩
  · rename_i hm0
    have hmn : isN (m0F a b) = false := fin_notN (by rw [m1]; have := modR_le hf h0; omega)
    split
    · rename_i hfl
      have hsg : ng a ≠ ng b := by
        unfold flipB at hfl
        simp at hfl
        exact hfl.2
      have hz := add_m0 hf hn h0
      obtain ⟨z, hzz⟩ : ∃ z, z = ansF (fop .add (m0F a b) b) := ⟨_, rfl⟩
      rw [← hzz] at hz ⊢
      refine ⟨(fop_num hz).1, (fop_num hz).2, ?_⟩
      rcases hB with hB | hB
      · obtain ⟨r, e1, e2, e3, _⟩ := add_near (a := m0F a b) (b := b) (by rw [m1]; have := modR_le hf h0; omega) hB
        have hlt' := vl_lt (hlt hB)
        have hs : (sv (m0F a b) + sv b).natAbs ≤ vl (rg b) ∧ addS (m0F a b) b = ng b := by
          have hv0 : sv (m0F a b) = if ng a then -((vl (modR a b) : Nat) : Int) else ((vl (modR a b) : Nat) : Int) := by rw [sv, m2, m1]
          have hvb : sv b = if ng b then -((vl (rg b) : Nat) : Int) else ((vl (rg b) : Nat) : Int) := rfl
          unfold addS
          rw [hv0, hvb]
          cases h1 : ng a <;> cases h2 : ng b
          · exact absurd (h1.trans h2.symm) hsg
          · simp only [Bool.false_eq_true, if_false, if_true]
            refine ⟨by omega, ?_⟩
            rw [if_neg (by omega)]; exact decide_eq_true (by omega)
          · simp only [Bool.false_eq_true, if_false, if_true]
            refine ⟨by omega, ?_⟩
            rw [if_neg (by omega)]; exact decide_eq_false (by omega)
          · exact absurd (h1.trans h2.symm) hsg
        rw [e1] at hz
        obtain rfl := Option.some.inj hz
        have hr : r ≤ rg b := e3 _ hs.1
        have hmin : min r 9218868437227405312 = r := Nat.min_eq_left (by omega)
        obtain ⟨w1, w2, _⟩ := word_rg (addS (m0F a b) b) r (by omega)
        rw [hmin, w1, w2, hs.2]
        exact ⟨rfl, hr⟩
      · rw [add_inf (by rw [m1]; have := modR_le hf h0; omega) hB] at hz
        obtain rfl := Option.some.inj hz
        obtain ⟨w1, w2, _⟩ := word_rg (ng b) 9218868437227405312 (by decide)
        rw [w1, w2]
        exact ⟨rfl, by omega⟩
    · rename_i hfl
      have hsg : ng a = ng b := by
        unfold flipB at hfl
        simp at hfl
        exact hfl hm0
      exact ⟨hmn, m3, by rw [m2, hsg], by rw [m1]; exact hle⟩
end
end Go.Proofs.YtljndllhmdpjlaaGreatDoor
namespace Go.Proofs.YtljndllhmdpjlaaGreatDoor
open Go.RowKit
set_option maxRecDepth 100000
end Go.Proofs.YtljndllhmdpjlaaGreatDoor

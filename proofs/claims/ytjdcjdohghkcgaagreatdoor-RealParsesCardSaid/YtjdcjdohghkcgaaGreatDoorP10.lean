/- Rules for walks: a loop's rounds one by one; floating-point numbers; functions that the model gives itself; strings that are written out. Rules for walks: a region that draws its order, cut where everything that follows waits for everything before. The functions that the model gives itself. Closed facts. Layer 3's small functions and the document's: sums, products, quotients, the sign, the order. The walks of package math: Abs, IsInf, IsNaN, Copysign, normalize, Frexp. The walks of math.normalize and math.Frexp. The walk of math.Ldexp, where the answer needs no rounding. Rules for walks: from numbers to floating-point numbers and back; a NaN made whole. Plain mathematics of floating-point numbers: whole numbers as floats and back, rests of a division. No condition. Plain mathematics of floating-point numbers: what a sum is rounded to lies between the same numbers as the sum. No condition. Plain mathematics of floating-point numbers: sums rounded; numbers that are whole. No condition. Plain mathematics of floating-point numbers: quotient rounded down and rest, as the program and the document reckon them. No condition. The walks of math.NaN, math.Frexp, math.Ldexp, math.Mod. The walks of the document's parts and rest. The walks of bits.Rem64 and bits.Div64 at the divisor 2^31 - 1. Plain words on fractions and full mantissas. The walks of the functions that the laws of layer 3 call on fixed numbers. The walks of the text of -0 and of 1. The walks of the text of 1. The digits of 10^15, laid into an array. -/
import Derived.Test.YtjdcjdohghkcgaaGreatDoorP9
import Derived.Test.YtjdcjdohghkcgaaGreatDoorProg
import Derived.Lib.ConvBytes
import Derived.Lib.SmallJoins
namespace Go.Proofs.YtjdcjdohghkcgaaGreatDoor
open Go.RowKit
set_option maxRecDepth 100000
/-- From a loop's next round on. -/
def LoopW (P : Program) (c : Code) (Q : Exit → Act → World → Prop) (a : Act) (w : World) : Prop := ∀ b k cs, ∃ e a' w', Q e a' w' ∧ Arrives P (lone (b.at a (.inLoop c :: k)) cs w) b k cs e a' w'
theorem loopW_of {P : Program} {c : Code} {Q : Exit → Act → World → Prop} {a : Act} {w : World} (h : c.wp P (Exit.then (LoopW P c Q) Q) a w) (b : Frame) (k : List Item) (cs : List Frame) :
    ∃ e a' w', Q e a' w' ∧ Arrives P (lone (b.at a (.code c :: .inLoop c :: k)) cs w) b k cs e a' w' := by
  obtain ⟨e, a₁, w₁, hq, harr⟩ := h b (.inLoop c :: k) cs
  cases e with
  | normal =>
    obtain ⟨e₂, a₂, w₂, hq₂, harr₂⟩ := hq b k cs
    exact ⟨e₂, a₂, w₂, hq₂, .of_steps harr harr₂⟩
  | exit id => exact ⟨_, a₁, w₁, hq, .pass (x := .inLoop c) rfl (fun _ _ => .inl (by simp)) harr⟩
  | goto l => exact ⟨_, a₁, w₁, hq, .pass (x := .inLoop c) rfl (fun _ _ => .inl (by simp)) harr⟩
  | ret => exact ⟨_, a₁, w₁, hq, .pass (x := .inLoop c) rfl (fun _ _ => .inl (by simp)) harr⟩
  | panic ch => exact ⟨_, a₁, w₁, hq, .pass (x := .inLoop c) rfl (fun _ _ => .inl (by simp)) harr⟩
  | outgrown => exact ⟨_, a₁, w₁, hq, .pass (x := .inLoop c) rfl (fun _ _ => .inl (by simp)) harr⟩
section
variable {P : Program} {N : Nat} {ops : Array Oper} {Q : Exit → Act → World → Prop} {σ : Env} {w : World} {ty : TypeId} {pos : String} {af : Array Edge} {dst : Option Nat} {Post : Value → World → Prop}
theorem cw_unroll {c : Code} (h : CW P N c (Exit.then (LoopW P c Q) Q) σ w) : CW P N (.loop c) Q σ w := fun a ha b k cs => by
  obtain ⟨e, a', w', hq, harr⟩ := loopW_of (h a ha) b k cs
  exact ⟨e, a', w', hq, .of_steps (.one step_loop) harr⟩
theorem ew_again {c : Code} (h : CW P N c (Exit.then (LoopW P c Q) Q) σ w) : EW N (Exit.then (LoopW P c Q) Q) .normal σ w := fun a ha b k cs => by
  obtain ⟨e, a', w', hq, harr⟩ := loopW_of (h a ha) b k cs
  exact ⟨e, a', w', hq, .of_steps (.one step_inLoop) harr⟩
/-! ### floating-point numbers -/
theorem ow_fgeq {T U : TypeId} {x y : Operand} {m n : Nat} (hx : ev σ x = some (.float .f64 m)) (hy : ev σ y = some (.float .f64 n)) (k : Post (.bool (ford m n == some .gt || ford m n == some .eq)) w) : OW P N ops Q ⟨dst, .binOp .geq T x y U, ty, pos, af, none⟩ σ w Post :=
  ow_val (fun ρ ha => by simp [execOp, ha hx, ha hy, binOp, eqGuard, Op.floatCmp, FloatKind.format, ford, go_sem]) k
/-- An operation whose result is known. -/
theorem ow_fV {op : BinOp} {T U : TypeId} {x y : Operand} {m n z : Nat} (ho : op = .add ∨ op = .sub ∨ op = .mul ∨ op = .quo) (hx : ev σ x = some (.float .f64 m)) (hy : ev σ y = some (.float .f64 n)) (hz : fop op m n = some z)
    (k : Post (.float .f64 z) w) : OW P N ops Q ⟨dst, .binOp op T x y U, ty, pos, af, none⟩ σ w Post :=
  ow_float ho hx hy (fun r w' h => by
    rcases h with ⟨h1, rfl⟩ | ⟨h1, _⟩
    · rw [hz] at h1; cases h1; exact k
    · rw [hz] at h1; cases h1)
/-! ### functions that the model gives itself -/
theorem run_f64bits (b : Nat) (w : World) : (Extern.MathFloatBits.float64bits #[.float .f64 b]).run P w = .ok (.int .u64 ((b : Nat) : Int)) w := rfl
theorem run_frombits (b : Nat) (w : World) : (Extern.MathFloatBits.float64frombits #[.int .u64 ((b : Nat) : Int)]).run P w = .ok (.float .f64 b) w := rfl
theorem ow_bits {f : FuncId} {ts : Array TypeId} {x : Operand} {b : Nat} (hf : Ext_ P f Extern.MathFloatBits.float64bits) (hx : ev σ x = some (.float .f64 b)) (k : Post (.int .u64 ((b : Nat) : Int)) w) : OW P N ops Q ⟨dst, .call ⟨.value (.func f), #[x], ts⟩, ty, pos, af, none⟩ σ w Post :=
  ow_ext (xs := [x]) (args := [.float .f64 b]) hf (by simp [evs, hx]) (run_f64bits b w) k
theorem ow_frombits {f : FuncId} {ts : Array TypeId} {x : Operand} {b : Nat} (hf : Ext_ P f Extern.MathFloatBits.float64frombits) (hx : ev σ x = some (.int .u64 ((b : Nat) : Int))) (k : Post (.float .f64 b) w) : OW P N ops Q ⟨dst, .call ⟨.value (.func f), #[x], ts⟩, ty, pos, af, none⟩ σ w Post :=
  ow_ext (xs := [x]) (args := [.int .u64 ((b : Nat) : Int)]) hf (by simp [evs, hx]) (run_frombits b w) k
/-- Rounded to a whole number. -/
def fround (way : Ieee.Toward) (b : Nat) : Nat := FloatKind.f64.encode ((FloatKind.f64.decode b).integral way)
theorem ow_round {f : FuncId} {ts : Array TypeId} {x : Operand} {b : Nat} {name : String} {way : Ieee.Toward} (hf : Ext_ P f (Extern.MathFloor.toIntegral name way)) (hx : ev σ x = some (.float .f64 b)) (hn : (FloatKind.f64.decode b).isNaN = false) (k : Post (.float .f64 (fround way b)) w) : OW P N ops Q ⟨dst, .call ⟨.value (.func f), #[x], ts⟩, ty, pos, af, none⟩ σ w Post :=
  ow_ext (xs := [x]) (args := [.float .f64 b]) (v := .float .f64 (fround way b)) (w' := w) hf (by simp [evs, hx]) (by
    have e : Extern.MathFloor.toIntegral name way #[.float .f64 b] = (match FloatKind.f64.decode b with
      | .nan s t => if FloatKind.f64.format.quiet t = t then pure (.float .f64 b) else do
        let kept ← choose (.extern "math.Floor,Ceil,Trunc,RoundToEven.signallingNaN kept" 2)
        pure (.float .f64 (if kept == 1 then b else FloatKind.f64.encode (.nan s (FloatKind.f64.format.quiet t))))
      | d => pure (.float .f64 (FloatKind.f64.encode (d.integral way)))) := rfl
    rw [e]
    unfold fround
    cases h : FloatKind.f64.decode b with
    | nan s t => rw [h] at hn; cases hn
    | infinity s => rfl
    | number s m e => rfl) k
/-! ### strings that are written out -/
theorem bytes_list (a : Array UInt8) : (⟨a⟩ : ByteArray).toList = a.toList := by rw [ByteArray.toList_eq]
/-- The lesser of two numbers. -/
theorem ow_min {x y : Operand} {t1 t2 : TypeId} {q q2 : IntKind} {m n : Int} (hx : ev σ x = some (.int q m)) (hy : ev σ y = some (.int q2 n))
    (k : Post (.int q (if n < m then n else m)) w) : OW P N ops Q ⟨dst, .call ⟨.builtin .min, #[x, y], #[t1, t2]⟩, ty, pos, af, none⟩ σ w Post :=
  ow_val (fun ρ ha => by simp [execOp, resolve, invoke, builtin, Builtin.min_, Builtin.min2, ha hx, ha hy, go_sem]) k
/-- The byte of a string that is written out. -/
theorem ow_indexSL {x i : Operand} {T : TypeId} {s : ByteArray} {q : IntKind} {m : Int} {j : Nat} {b : Nat} (hd : P.underlying T = some .string) (hx : ev σ x = some (.string s)) (hi : ev σ i = some (.int q m)) (hm : m = (j : Int)) (hb : (s.data[j]?).map (·.toNat) = some b)
    (k : Post (.int .u8 (b : Int)) w) : OW P N ops Q ⟨dst, .index T x i, ty, pos, af, none⟩ σ w Post := by
  obtain ⟨c, h1, rfl⟩ := Option.map_eq_some_iff.1 hb
  exact ow_indexS hd hx hi hm (show s[j]? = some c by
    have h2 : s[j]? = s.data[j]? := rfl
    rw [h2, h1]) k
/-- The address of an array's cell. -/
theorem ow_indexAddrG {x i : Operand} {T e : TypeId} {g o n s : Nat} {q : IntKind} {m : Int} {j : Nat} (hd : P.underlying T = some (.array n e)) (hs : SizeIs P e s) (hx : ev σ x = some (.pointer (some ⟨g, o, none⟩))) (hi : ev σ i = some (.int q m)) (hm : m = (j : Int)) (hj : j < n)
    (k : Post (.pointer (some ⟨g, o + j * s, none⟩)) w) : OW P N ops Q ⟨dst, .indexAddr T x i, ty, pos, af, none⟩ σ w Post :=
  ow_val (fun ρ ha => by
    subst hm
    have h1 : ¬ n ≤ j := by omega
    simp [execOp, ha hx, ha hi, Instr.indexAt, Instr.sureAddr, asIntOf, run_underlying hd, run_size hs, h1, hj, Addr.add_eq, go_sem]) k
/-! ### an error that is none -/
theorem run_equalN {T : TypeId} {ms : Array (String × TypeId)} (hd : P.underlying T = some (.interface ms)) : (Op.equal T .nilIface .nilIface).run P w = .ok true w := by
  have e : Op.maxDepth = 9999 + 1 := rfl
  have key : ∀ d : Nat, (Op.equalIn (d + 1) T .nilIface .nilIface).run P w = .ok true w := by
    intro d
    rw [Op.equalIn]
    simp only [Sem.run_bind, run_underlying hd, Result.andThen_ok]
    rfl
  unfold Op.equal
  rw [e]
  exact key 9999
theorem ow_neqN {T U : TypeId} {x : Operand} {ms : Array (String × TypeId)} (hd : P.underlying T = some (.interface ms)) (hx : ev σ x = some .nilIface) (k : Post (.bool false) w) : OW P N ops Q ⟨dst, .binOp .neq T x (.const .nilIface) U, ty, pos, af, none⟩ σ w Post :=
  ow_val (fun ρ ha => by
    have e := run_equalN (P := P) (w := w) hd
    have hc : ρ (.const .nilIface) = .nilIface := ha rfl
    simp only [execOp, ha hx, hc, eqGuard, binOp]
    simp [e, go_sem]) k
/-- Cells that hold a list. -/
def RowL (w : World) (g : Nat) (xs : List Value) : Prop := ∀ j v, xs[j]? = some v → w.cell? ⟨g, j, none⟩ = some v
theorem Per.rowL {w : World} {g : Nat} {xs : List Value} (h : RowL w g xs) : Per No w (fun b => RowL b g xs) := fun b hb j v hj => by
  have h1 := h j v hj
  rw [hb.cell (p := ⟨g, j, none⟩) (World.block_lt_of_cell? w _ h1) (fun e => e.elim)]; exact h1
/-- A string as bytes in a new row. -/
theorem ow_strBytes {S D e : TypeId} {x : Operand} {s : ByteArray} {n : Nat} {xs : List Value} (hS : P.underlying S = some .string) (hD : P.underlying D = some (.slice e)) (he : P.underlying e = some (.int .u8)) (hx : ev σ x = some (.string s)) (hn : s.size = n) (hl : s.data.toList.map (fun b => Value.int .u8 (b.toNat : Int)) = xs)
    (k : ∀ g c w', RowL w' g xs → Ext No w w' → w.heap.size ≤ g → Post (.slice (some ⟨g, 0, none⟩) n c) w') : OW P N ops Q ⟨dst, .convert S D x, ty, pos, af, none⟩ σ w Post :=
  ow_val (v := .slice (some ⟨w.heap.size, 0, none⟩) s.size (grownCap w s.size 0 e)) (w' := Lib.bytesWorld w e s) (fun ρ ha => by
    simp only [execOp, ha hx, Sem.run_bind, Lib.run_convert_string_bytes w S D e s hS hD he, Result.andThen_ok, Sem.run_pure]) (by
    subst hn
    refine k _ _ _ (fun j v hj => ?_) (Ext.of_below (Joins.below_bytesWorld _ _ _ _ (Nat.le_refl _)) No) (Nat.le_refl _)
    rw [← hl, List.getElem?_map] at hj
    obtain ⟨b, hb, rfl⟩ := Option.map_eq_some_iff.1 hj
    have hlt : j < s.size := by
      have h1 := (List.getElem?_eq_some_iff.1 hb).1
      have h2 : s.data.toList.length = s.size := Array.length_toList
      omega
    rw [Lib.bytesWorld_cell w e s j hlt, List.getD_eq_getElem?_getD, hb]; rfl)
end
/-- A call that leaves memory as it was, but for new blocks, and answers a value. -/
abbrev Gives (f : FuncId) (args : Array Value) (v : Value) : Prop := ∀ w, Calls Tryz.prog f args w fun e w' => e = .returned v ∧ Below w.heap.size w w'
end Go.Proofs.YtjdcjdohghkcgaaGreatDoor
namespace Go.Proofs.YtjdcjdohghkcgaaGreatDoor
open Go.RowKit
set_option maxRecDepth 100000
section
variable {P : Program} {N : Nat} {Q : Exit → Act → World → Prop} {σ : Env} {w : World} {l : List Oper}
/-- The first k operations are done. -/
def trL (k n : Nat) : Array Bool := (List.replicate k true ++ List.replicate (n - k) false).toArray
/-- A drawn region from where its first k operations are done. -/
def AK (P : Program) (N k : Nat) (l : List Oper) (Q : Exit → Act → World → Prop) (σ : Env) (w : World) : Prop := ∀ a, At N σ a → wpAny P .any l.toArray Q (l.length - k) (trL k l.length) a w
theorem cw_any {id : Nat} (hm : P.follows .mixedOrders = true) (h : AK P N 0 l Q σ w.drew) : CW P N (.region id l.toArray true) Q σ w := fun a ha => by
  refine wp_region_any hm ?_
  have := h a ha
  unfold trL at this
  simpa using this
theorem trL_get {k n j : Nat} {d : Bool} (hj : j < n) (hk : k ≤ n) : (trL k n).getD j d = decide (j < k) := by
  unfold trL
  by_cases h : j < k
  · simp [Array.getD_eq_getD_getElem?, List.getElem?_append, h]
  · have h2 : j - k < n - k := by omega
    simp [Array.getD_eq_getD_getElem?, List.getElem?_append, h, List.getElem?_replicate, h2]
theorem trL_set {k n : Nat} (h : k < n) : (trL k n).setIfInBounds k true = trL (k + 1) n := by
  unfold trL
  apply Array.toList_inj.1
  rw [Array.toList_setIfInBounds]
  have e : n - k = (n - (k + 1)) + 1 := by omega
  rw [e, List.replicate_succ, List.replicate_succ', List.append_assoc]
  simp
/-- Operations that do nothing but hand on a value. -/
def quiet (o : Oper) : Bool := match o.guard with
  | some _ => false
  | none => match o.op with
    | .move _ => true
    | .assign _ => true
    | .extract _ _ => true
    | _ => false
theorem quiet_yields {ops : Array Oper} {o : Oper} {a : Act} {w : World} {K : Act → World → Prop} (hq : quiet o = true) (h : o.wp P a w K Q ∨ (o.asks P a w ∧ LetsOut Q)) : ∃ v, Yields P ops o v a ∧ K (a.put o.dst v) w := by
  obtain ⟨dst, op, type, pos, after, guard⟩ := o
  cases guard with
  | some g => simp [quiet] at hq
  | none =>
    cases op <;> first | (simp [quiet] at hq; done) | skip
    case move x =>
      refine ⟨a.eval x, .inl ⟨by simp [Region.wanted], fun w => by simp [execOp, go_sem]⟩, ?_⟩
      rcases h with h | ⟨h, _⟩
      · simpa [Oper.wp, execOp, go_sem, Oper.upon] using h
      · exact absurd h (by simp [Oper.asks, execOp, Sem.runT, Sem.events, pure, bind])
    case assign x =>
      refine ⟨a.eval x, .inl ⟨by simp [Region.wanted], fun w => by simp [execOp, go_sem]⟩, ?_⟩
      rcases h with h | ⟨h, _⟩
      · simpa [Oper.wp, execOp, go_sem, Oper.upon] using h
      · exact absurd h (by simp [Oper.asks, execOp, Sem.runT, Sem.events, pure, bind])
    case extract x i =>
      rcases h with h | ⟨h, _⟩
      · unfold Oper.wp at h
        simp only [execOp, Instr.extract] at h
        split at h
        · rename_i vs hx
          split at h
          · rename_i v hv
            refine ⟨v, .inl ⟨by simp [Region.wanted], fun w => by simp only [execOp, hx, Instr.extract, hv]; rfl⟩, ?_⟩
            simpa [go_sem, Oper.upon] using h
          · simp [go_sem, Oper.upon, stuck] at h
        · simp [go_sem, Oper.upon, stuck] at h
      · exfalso
        unfold Oper.asks at h
        simp only [execOp, Instr.extract] at h
        split at h
        · split at h
          · simp [Sem.runT, Sem.events, Sem.bind, pure, bind] at h
          · simp [Sem.runT, Sem.events, Sem.bind, pure, bind, stuck] at h
        · simp [Sem.runT, Sem.events, Sem.bind, pure, bind, stuck] at h
/-- From operation k on: each is the only one that may come next, or merely hands on a value that nobody looks at beforehand. -/
def seqFrom (l : List Oper) : Nat → Nat → Bool
  | _, 0 => true
  | k, m + 1 => (match Region.ready .any l.toArray (trL k l.length) with
    | [] => false
    | [j] => Nat.beq j k
    | r => memN k r && (match l.toArray[k]? with
      | some o => quiet o
      | none => false) && Region.free .any l.toArray (trL k l.length) k) && seqFrom l (k + 1) m
theorem any_of_list (hn : Region.noSelect l.toArray = true) (hQ : ∀ c (a : Act) d v w, Q (.panic c) (a.put d v) w → Q (.panic c) a w) :
    ∀ (m k : Nat), k + m = l.length → seqFrom l k m = true → ∀ a w, wpList P l.toArray Q (l.drop k) a w → wpAny P .any l.toArray Q m (trL k l.length) a w := by
  intro m
  induction m with
  | zero =>
    intro k hk _ a w h
    have hk : k = l.length := by omega
    subst hk
    rw [List.drop_length] at h
    refine ⟨List.eq_nil_iff_forall_not_mem.2 fun j hj => ?_, h⟩
    obtain ⟨h0, o, ho, _⟩ := mem_ready.1 hj
    have hlt : j < l.length := by simpa using (Array.getElem?_eq_some_iff.1 ho).1
    rw [trL_get hlt (Nat.le_refl _)] at h0
    simp [hlt] at h0
  | succ m ih =>
    intro k hk hs a w h
    have hkl : k < l.length := by omega
    simp only [seqFrom, Bool.and_eq_true] at hs
    rw [List.drop_eq_getElem_cons hkl] at h
    have hok : l.toArray[k]? = some l[k] := by simp [hkl]
    have hnext := fun a w h => ih (k + 1) (by omega) hs.2 a w h
    rw [← trL_set hkl] at hnext
    have hone : wpOp P l.toArray Q k (wpAny P .any l.toArray Q m ((trL k l.length).setIfInBounds k true)) a w := by
      unfold wpOp
      rw [hok]
      simp only []
      unfold wpList at h
      split
      · rename_i hw
        rw [if_pos hw] at h
        exact h.imp (Oper.wp_mono hnext) id
      · rename_i hw
        rw [if_neg hw] at h
        exact hnext _ _ h
    have h1 := hs.1
    split at h1
    · cases h1
    · rename_i j hr
      have hj : j = k := Nat.eq_of_beq_eq_true h1
      subst hj
      exact wpAny_all hr (by simp) fun i hi => by rw [List.mem_singleton.1 hi]; exact hone
    · rename_i hr hr1
      rw [hok] at h1
      simp only [Bool.and_eq_true] at h1
      have hq := h1.1.2
      unfold wpList at h
      have hg : Region.wanted l[k] (yielded l.toArray a.tmps) = true := by
        unfold quiet at hq
        split at hq
        · cases hq
        · rename_i hg; simp [Region.wanted, hg]
      rw [if_pos hg] at h
      obtain ⟨v, hy, hv⟩ := quiet_yields (ops := l.toArray) hq h
      exact wpAny_take hok hn h1.2 (by simpa using memN_true.1 h1.1.1) (fun c a w h => hQ c a _ _ w h) hy (hnext _ _ hv)
theorem ak_of_rs {k : Nat} (hs : (seqFrom l k (l.length - k) && Region.noSelect l.toArray && Nat.ble k l.length) = true) (hQ : ∀ c (a : Act) d v w, Q (.panic c) (a.put d v) w → Q (.panic c) a w)
    (h : RS P N l.toArray Q (l.drop k) σ w) : AK P N k l Q σ w := fun a ha => by
  simp only [Bool.and_eq_true] at hs
  have := Nat.le_of_ble_eq_true hs.2
  exact any_of_list hs.1.2 hQ _ k (by omega) hs.1.1 a w (h a ha)
/-- Everything below j is among S, or waited for by what is. -/
def covers (ops : Array Oper) : Nat → List Nat → Bool
  | 0, _ => true
  | j + 1, S => memN j S && covers ops j (S ++ opDeps ops j)
/-- All that stands behind the first m operations waits for all of these, and they look at nothing behind them. -/
def gateOK (l : List Oper) (m : Nat) : Bool := Nat.ble m l.length && inRow 0 (l.take m) [] && ((l.take m).all fun o => match o.guard with
  | some (g, _) => Nat.blt g m
  | none => true) && (List.range (l.length - m)).all fun t => (opDeps l.toArray (m + t)).any (fun d => Nat.ble m d) || covers l.toArray m (opDeps l.toArray (m + t))
theorem covers_all {ops : Array Oper} {L : Nat → Prop} (hd : ∀ i, L i → ∀ j ∈ opDeps ops i, L j) : ∀ (m : Nat) (S : List Nat), covers ops m S = true → (∀ j ∈ S, L j) → ∀ j, j < m → L j := by
  intro m
  induction m with
  | zero => intro S _ _ j hj; omega
  | succ m ih =>
    intro S hc hS j hj
    simp only [covers, Bool.and_eq_true] at hc
    have hm := hS m (memN_true.1 hc.1)
    rcases Nat.lt_or_ge j m with h | h
    · refine ih _ hc.2 (fun j hj => ?_) j h
      rcases List.mem_append.1 hj with h | h
      · exact hS j h
      · exact hd m hm j h
    · have : j = m := by omega
      subst this; exact hm
theorem upon_then {o : Oper} {a : Act} {K K' Z : Act → World → Prop} (h : ∀ a w, K a w → K' a w) : ∀ {r : Result Next}, o.upon P a K (Exit.then Z Q) r → o.upon P a K' Q r := by
  intro r hh
  cases r with
  | ok n w' =>
    cases n <;> simp only [Oper.upon] at hh ⊢ <;>
      first
        | exact h _ _ hh
        | exact Calls.mono hh (fun e w'' he => by cases e <;> first | exact h _ _ he | exact he)
        | exact Rows.mono hh (fun _ _ he => h _ _ he)
        | exact hh
  | halt x w' => cases x <;> simp only [Oper.upon] at hh ⊢ <;> exact hh
end
section
variable {P : Program} {N : Nat} {Q : Exit → Act → World → Prop} {σ : Env} {l : List Oper}
theorem aw_drawn {w : World} (Y : Nat → Prop) (hY : ∀ k, Y k → k < w.heap.size) (bs : List Bx) (os : List Ox) (F : Nat → Fx) (hok : (inRow 0 l [] && bxOK bs && bxWF l bs bs && dstOK N l && oxOK bs os) = true) (hos : OutsAre Y w os) (hin : ∀ o ∈ os, l[o.st]? ≠ none)
    (hsteps : StepsOK P N l.toArray Q σ bs os F w 0 l)
    (hend : ∀ vs w', Ext (Mut (outM os)) w w' → AllOut σ l.toArray vs w' os → AllLeft Y bs F vs w' 0 l → AllFilled P σ l.toArray vs w w' bs → AllApart vs bs → EW N Q .normal (envEnd σ l vs) w') : AK P N 0 l Q σ w := by
  simp only [Bool.and_eq_true] at hok
  obtain ⟨⟨⟨⟨hrow, hbx⟩, hwf⟩, hdl⟩, hox⟩ := hok
  have hoat : ∀ {r : List Ox}, OutsAre Y w r → ∀ o ∈ r, Y o.g ∧ Blk w o.g o.T o.cs := by
    intro r
    induction r with
    | nil => intro _ o ho; cases ho
    | cons x r ih =>
      intro h o ho
      rcases List.mem_cons.1 ho with rfl | ho
      · exact ⟨h.1.1, h.1.2.1⟩
      · exact ih h.2 o ho
  have hopw : ∀ {r : List Ox}, OutsAre Y w r → oxOK bs r = true → ∀ a ∈ r, ∀ b ∈ r, a ≠ b → a.g ≠ b.g ∧ a.st ≠ b.st := by
    intro r
    induction r with
    | nil => intro _ _ a ha; cases ha
    | cons x r ih =>
      intro h hk a ha b hb hab
      simp only [oxOK, Bool.and_eq_true, List.all_eq_true, Bool.not_eq_true'] at hk
      rcases List.mem_cons.1 ha with rfl | ha'
      · rcases List.mem_cons.1 hb with rfl | hb'
        · exact absurd rfl hab
        · exact ⟨h.1.2.2 b hb', fun e => by have := hk.1.2 b hb'; rw [e] at this; simp at this⟩
      · rcases List.mem_cons.1 hb with rfl | hb'
        · exact ⟨fun e => h.1.2.2 a ha' e.symm, fun e => by have := hk.1.2 a ha'; rw [e] at this; simp at this⟩
        · exact ih h.2 hk.2 a ha' b hb' hab
  have hos1 : ∀ {r : List Ox}, oxOK bs r = true → ∀ o ∈ r, boxOf bs o.st = none ∧ fillOf bs o.st = none := by
    intro r
    induction r with
    | nil => intro _ o ho; cases ho
    | cons x r ih =>
      intro hk o ho
      simp only [oxOK, Bool.and_eq_true] at hk
      rcases List.mem_cons.1 ho with rfl | ho
      · exact ⟨by simpa using hk.1.1.1, by simpa using hk.1.1.2⟩
      · exact ih hk.2 o ho
  intro a ha
  rw [show trL 0 l.length = Array.replicate l.toArray.size false by simp [trL]]
  have m0 : Mid P N Y l σ w bs os F (Array.replicate l.toArray.size false) a w (fun _ => undef) Y := by
    have hno : ∀ i, ¬ Ran (Array.replicate l.toArray.size false) i := fun i h => by
      unfold Ran at h
      by_cases hi : i < l.length <;> simp [hi] at h
    exact ⟨by simp, ha.defers, ha.size, fun t v h => ha.get t v (lk_cutE h).1, fun i d h => absurd h (hno i), fun i d v _ _ h => ha.get d v h, fun i h => absurd h (hno i), Ext.refl _ _, hY, fun _ h => h, hY,
      fun i h => absurd h (hno i), fun b _ h => absurd h (hno _), fun o ho => ⟨fun _ => (hoat hos o ho).2, fun h => absurd h (hno _)⟩, fun o ho => (hoat hos o ho).1, fun b _ c _ h => absurd h (hno _)⟩
  refine wpAny_mid (l := l) hrow hbx hwf (dstOK_at hdl) (fun o ho h => by rw [(hos1 hox o ho).1] at h; cases h) (fun o ho h => by rw [(hos1 hox o ho).2] at h; cases h) (hopw hos hox) hsteps ?_ _ _ _ _ _ _ ?_ m0
  · intro listed a w' vs X hall m
    have hlen : ∀ i (o : Oper), l[i]? = some o → Ran listed i := fun i o h => hall i (List.getElem?_eq_some_iff.1 h).1
    refine hend vs w' m.ext ?_ ?_ ?_ ?_ a ?_
    · have hst : ∀ o ∈ os, l[o.st]? ≠ none → Ran listed o.st := fun o _ h => hall _ (by
        rcases Nat.lt_or_ge o.st l.length with h1 | h1
        · exact h1
        · exact absurd (List.getElem?_eq_none h1) h)
      have key : ∀ r : List Ox, (∀ b ∈ r, b ∈ os) → AllOut σ l.toArray vs w' r := by
        intro r
        induction r with
        | nil => intro _; trivial
        | cons b r ih =>
          intro hr
          refine ⟨?_, ih fun c hc => hr c (List.mem_cons.2 (Or.inr hc))⟩
          have hb := hr b (List.mem_cons.2 (Or.inl rfl))
          exact (m.outs b hb).2 (hst b hb (hin b hb))
      exact key os (fun _ h => h)
    · have key : ∀ (r : List Oper) (k : Nat), (∀ (i : Nat) (o : Oper), r[i]? = some o → l[k + i]? = some o) → AllLeft Y bs F vs w' k r := by
        intro r
        induction r with
        | nil => intro k _; trivial
        | cons o r ih =>
          intro k hk
          refine ⟨?_, ih (k + 1) (fun i o' h => by have := hk (i + 1) o' (by simpa using h); rwa [show k + (i + 1) = k + 1 + i by omega] at this)⟩
          split
          · rename_i hb hf
            exact (m.facts k (hlen k o (by simpa using hk 0 o rfl)) hb hf).less m.outer
          · trivial
      exact key l 0 (fun i o h => by simpa using h)
    · have key : ∀ r : List Bx, (∀ b ∈ r, b ∈ bs) → AllFilled P σ l.toArray vs w w' r := by
        intro r
        induction r with
        | nil => intro _; trivial
        | cons b r ih =>
          intro hr
          refine ⟨?_, ih fun c hc => hr c (List.mem_cons.2 (Or.inr hc))⟩
          have hb := hr b (List.mem_cons.2 (Or.inl rfl))
          obtain ⟨w1, w2⟩ := bxWF_at hwf hb
          have hst : Ran listed b.st := by
            unfold opDeps at w1
            split at w1
            · rename_i o ho; exact hlen b.st o (by simpa using ho)
            · cases w1
          obtain ⟨g, cs, h1, h2, h20, h3, _, h5⟩ := m.boxes b hb (m.down _ hst _ w1)
          obtain ⟨v, y, rfl, h6, h7⟩ := h5 hst
          exact ⟨g, v, y, h1, h20, h3, h6, h7⟩
      exact key bs (fun _ h => h)
    · have key : ∀ r : List Bx, (∀ b ∈ r, b ∈ bs) → bxOK r = true → AllApart vs r := by
        intro r
        induction r with
        | nil => intro _ _; trivial
        | cons b r ih =>
          intro hr hok
          have hok' := hok
          simp only [bxOK, Bool.and_eq_true, List.all_eq_true, Bool.not_eq_true'] at hok
          refine ⟨fun c hc => ?_, ih (fun c hc => hr c (List.mem_cons.2 (Or.inr hc))) hok.2⟩
          have hb := hr b (List.mem_cons.2 (Or.inl rfl))
          have hc' := hr c (List.mem_cons.2 (Or.inr hc))
          have hran : ∀ b ∈ bs, Ran listed b.at_ := by
            intro b hb
            obtain ⟨w1, w2⟩ := bxWF_at hwf hb
            have hst : Ran listed b.st := by
              unfold opDeps at w1
              split at w1
              · rename_i o ho; exact hlen b.st o (by simpa using ho)
              · cases w1
            exact m.down _ hst _ w1
          refine m.apart b hb c hc' (hran b hb) (hran c hc') (fun e => ?_)
          have := (hok.1 c hc).1
          rw [e] at this
          simp at this
      exact key bs (fun _ h => h) hbx
    · refine ⟨m.defers, m.tmps, fun t v h => ?_⟩
      rcases lk_append h with h | h
      · obtain ⟨j, _, hjd, rfl⟩ := lk_rowE h
        obtain ⟨o, ho, _⟩ := opDst_op hjd
        exact m.ran j t (hlen j o ho) hjd
      · exact m.kept t v h
  · simp
end
section
variable {P : Program} {N : Nat} {Q : Exit → Act → World → Prop} {σ : Env} {w : World} {l : List Oper}
/-- The first m operations by themselves; then the rest. -/
theorem any_prefix {m : Nat} (hg : gateOK l m = true) : ∀ (f : Nat) (ls : List Bool) (a : Act) (w : World), ls.length = m → ls.count false = f →
    (∀ i, Ran ls.toArray i → ∀ j ∈ opDeps l.toArray i, Ran ls.toArray j) →
    wpAny P .any (l.take m).toArray (Exit.then (fun a w => wpAny P .any l.toArray Q (l.length - m) (trL m l.length) a w) Q) f ls.toArray a w →
    wpAny P .any l.toArray Q (f + (l.length - m)) (ls ++ List.replicate (l.length - m) false).toArray a w := by
  unfold gateOK at hg
  simp only [Bool.and_eq_true] at hg
  obtain ⟨⟨⟨hml, hrow⟩, hgd⟩, hcov⟩ := hg
  have hml := Nat.le_of_ble_eq_true hml
  have htk : ∀ i, i < m → (l.take m).toArray[i]? = l.toArray[i]? := fun i hi => by simp [List.getElem?_take, hi]
  have hget : ∀ (ls : List Bool) (i : Nat) (d : Bool), ls.length = m → i < m → (ls ++ List.replicate (l.length - m) false).toArray.getD i d = ls.toArray.getD i d := by
    intro ls i d hl hi
    simp [Array.getD_eq_getD_getElem?, List.getElem?_append, hl, hi]
  have hget2 : ∀ (ls : List Bool) (i : Nat), ls.length = m → m ≤ i → (ls ++ List.replicate (l.length - m) false).toArray.getD i false = false := by
    intro ls i hl hi
    have hni : ¬ i < m := by omega
    simp only [Array.getD_eq_getD_getElem?, List.getElem?_toArray, List.getElem?_append, hl, hni, if_false, List.getElem?_replicate]
    split <;> rfl
  have hfull : ∀ ls : List Bool, ls.length = m → (∀ i, i < m → Ran ls.toArray i) → ls.count false = 0 := by
    intro ls hl h
    refine List.count_eq_zero.2 fun hf => ?_
    obtain ⟨i, hi, he⟩ := List.getElem_of_mem hf
    have := h i (by omega)
    unfold Ran at this
    simp [hi, he] at this
  intro f
  induction f with
  | zero =>
    intro ls a w hl hc hd h
    have hall : ls = List.replicate m true := by
      refine List.eq_replicate_iff.2 ⟨hl, fun b hb => ?_⟩
      cases b with
      | true => rfl
      | false => exact absurd hb (List.count_eq_zero.1 hc)
    have h2 := h.2
    rw [Nat.zero_add, hall]
    exact h2
  | succ f ih =>
    intro ls a w hl hc hd h
    rw [Nat.succ_add]
    refine ⟨fun hr => ?_, fun i hi => ?_⟩
    · exfalso
      have hall : ∀ i, i < m → Ran ls.toArray i := by
        intro i
        induction i using Nat.strongRecOn with
        | _ i ihi =>
          intro him
          rcases Classical.em (Ran ls.toArray i) with h' | h'
          · exact h'
          · exfalso
            have : i ∈ Region.ready .any l.toArray (ls ++ List.replicate (l.length - m) false).toArray := by
              have hil : i < l.length := by omega
              refine mem_ready.2 ⟨?_, l[i], by simp [hil], fun e he hb => ?_⟩
              · rw [hget ls i true hl him]
                unfold Ran at h'
                have : i < ls.length := by omega
                simp [this] at h' ⊢
                exact h'
              · have hlt := (inRow_at hrow (i := i) (o := l[i]) (by simp [List.getElem?_take, him, hil])).1 e.on (mem_depsL (by simpa using he) hb)
                have hei : e.on < i := by omega
                rw [hget ls e.on false hl (by omega)]
                exact ihi e.on hei (by omega)
            rw [hr] at this
            cases this
      have := hfull ls hl hall
      omega
    · obtain ⟨h0, o, ho, hdep⟩ := mem_ready.1 hi
      rcases Nat.lt_or_ge i m with him | him
      · have hdl : ∀ j ∈ opDeps l.toArray i, Ran ls.toArray j := by
          intro j hj
          have ho' : l[i]? = some o := by simpa using ho
          unfold opDeps at hj
          rw [ho] at hj
          obtain ⟨e, he, hb, rfl⟩ := of_mem_depsL hj
          have hlt := (inRow_at hrow (i := i) (o := o) (by simp [List.getElem?_take, him, ho'])).1 e.on (mem_depsL he hb)
          have := hdep e (by simpa using he) hb
          rwa [hget ls e.on false hl (by omega)] at this
        rw [hget ls i true hl him] at h0
        have hi1 : i ∈ Region.ready .any (l.take m).toArray ls.toArray := by
          refine mem_ready.2 ⟨h0, o, by rw [htk i him]; exact ho, fun e he hb => ?_⟩
          refine hdl e.on ?_
          unfold opDeps
          rw [ho]
          exact mem_depsL (by simpa using he) hb
        have h1 := h.2 i hi1
        have hset : ((ls ++ List.replicate (l.length - m) false).toArray.setIfInBounds i true) = (ls.set i true ++ List.replicate (l.length - m) false).toArray := by
          apply Array.toList_inj.1
          rw [Array.toList_setIfInBounds]
          simp [List.set_append, hl, him]
        have hset1 : ls.toArray.setIfInBounds i true = (ls.set i true).toArray := by
          apply Array.toList_inj.1
          rw [Array.toList_setIfInBounds]
        rw [hset1] at h1
        rw [hset]
        have hlsi : ls[i]? = some false := by
          have hil : i < ls.length := by omega
          have e : ls[i] = false := by simpa [hil] using h0
          simp [hil, e]
        have hK : ∀ a w, wpAny P .any (l.take m).toArray (Exit.then (fun a w => wpAny P .any l.toArray Q (l.length - m) (trL m l.length) a w) Q) f (ls.set i true).toArray a w →
            wpAny P .any l.toArray Q (f + (l.length - m)) (ls.set i true ++ List.replicate (l.length - m) false).toArray a w := by
          intro a w h
          refine ih (ls.set i true) a w (by simpa using hl) (by have := count_set ls i hlsi; omega) ?_ h
          have hup : ∀ j, Ran ls.toArray j → Ran (ls.set i true).toArray j := by
            intro j hj
            unfold Ran at hj ⊢
            rw [← hset1]
            exact getD_set_true hj
          intro j hj k hk
          rcases Classical.em (j = i) with rfl | hji
          · exact hup k (hdl k hk)
          · refine hup k (hd j ?_ k hk)
            unfold Ran at hj ⊢
            rw [← hset1, getD_set_ne false (Ne.symm hji)] at hj
            exact hj
        unfold wpOp at h1 ⊢
        rw [htk i him, ho] at h1
        rw [ho]
        simp only [] at h1 ⊢
        have hy : Region.wanted o (yielded (l.take m).toArray a.tmps) = Region.wanted o (yielded l.toArray a.tmps) := by
          unfold Region.wanted
          cases hgo : o.guard with
          | none => rfl
          | some gw =>
            obtain ⟨g, want⟩ := gw
            have hmem : o ∈ l.take m := by
              have ho' : l[i]? = some o := by simpa using ho
              exact List.mem_of_getElem? (i := i) (by simp [List.getElem?_take, him, ho'])
            have := (List.all_eq_true.1 hgd) o hmem
            rw [hgo] at this
            have hgm : g < m := Nat.le_of_ble_eq_true this
            simp only [yielded, htk g hgm]
        rw [← hy]
        split
        · rename_i hw
          rw [if_pos hw] at h1
          rcases h1 with h1 | ⟨h1, h2⟩
          · exact .inl (upon_then hK h1)
          · exact .inr ⟨h1, h2⟩
        · rename_i hw
          rw [if_neg hw] at h1
          exact hK _ _ h1
      · exfalso
        have hil : i < l.length := by simpa using (Array.getElem?_eq_some_iff.1 ho).1
        have hdl : ∀ j ∈ opDeps l.toArray i, (ls ++ List.replicate (l.length - m) false).toArray.getD j false = true := by
          intro j hj
          unfold opDeps at hj
          rw [ho] at hj
          obtain ⟨e, he, hb, rfl⟩ := of_mem_depsL hj
          exact hdep e (by simpa using he) hb
        have hc2 := (List.all_eq_true.1 hcov) (i - m) (List.mem_range.2 (by omega))
        rw [show m + (i - m) = i by omega, Bool.or_eq_true] at hc2
        rcases hc2 with hc2 | hc2
        · obtain ⟨j, hj, hmj⟩ := List.any_eq_true.1 hc2
          have := hdl j hj
          rw [hget2 ls j hl (Nat.le_of_ble_eq_true hmj)] at this
          cases this
        · have hall := covers_all (L := fun j => (Ran ls.toArray j)) hd m _ hc2 (fun j hj => by
            have := hdl j hj
            rcases Nat.lt_or_ge j m with h' | h'
            · rwa [hget ls j false hl h'] at this
            · rw [hget2 ls j hl h'] at this; cases this)
          have := hfull ls hl hall
          omega
theorem ak_cut (m : Nat) (hg : gateOK l m = true) (h : AK P N 0 (l.take m) (Exit.then (fun a w => wpAny P .any l.toArray Q (l.length - m) (trL m l.length) a w) Q) σ w) : AK P N 0 l Q σ w := fun a ha => by
  have hml : m ≤ l.length := by
    unfold gateOK at hg
    simp only [Bool.and_eq_true] at hg
    exact Nat.le_of_ble_eq_true hg.1.1.1
  have hlen : (l.take m).length = m := by simp [hml]
  have h1 := h a ha
  have := any_prefix hg m (List.replicate m false) a w (by simp) (by simp) (fun i hi => by
    unfold Ran at hi
    by_cases h' : i < m <;> simp [h'] at hi) (by
      unfold trL at h1
      rw [hlen] at h1
      simpa [trL] using h1)
  rw [List.replicate_append_replicate] at this
  have e : m + (l.length - m) = l.length := by omega
  rw [e] at this
  unfold trL
  simpa using this
theorem ew_ak {m : Nat} (h : AK P N m l Q σ w) : EW N (Exit.then (fun a w => wpAny P .any l.toArray Q (l.length - m) (trL m l.length) a w) Q) .normal σ w := fun a ha => h a ha
end
section
variable {P : Program} {N : Nat} {ops : Array Oper} {Q : Exit → Act → World → Prop} {σ : Env} {w : World} {ty : TypeId} {pos : String} {af : Array Edge} {dst : Option Nat} {Post : Value → World → Prop}
/-- An array as a slice. -/
theorem ow_sliceAll {T e : TypeId} {x : Operand} {g n s : Nat} (hd : P.underlying T = some (.array n e)) (hs : SizeIs P e s) (hx : ev σ x = some (.pointer (some ⟨g, 0, none⟩)))
    (k : Post (.slice (some ⟨g, 0, none⟩) n n) w) : OW P N ops Q ⟨dst, .slice T x none none none, ty, pos, af, none⟩ σ w Post :=
  ow_val (fun ρ ha => by
    simp only [execOp, Instr.sliceAt, Option.map_none, ha hx, Sem.run_bind, run_underlying hd, Result.andThen_ok, Instr.sureAddr, Instr.sliceBounds, Sem.run_pure, run_size hs, Option.isSome_none, Bool.false_eq_true, if_false]
    simp [Addr.add]) k
/-- A slice cut at its end. -/
theorem ow_sliceH {T e : TypeId} {x y : Operand} {g n c s h : Nat} {q : IntKind} {m : Int} (hd : P.underlying T = some (.slice e)) (hs : SizeIs P e s) (hx : ev σ x = some (.slice (some ⟨g, 0, none⟩) n c)) (hy : ev σ y = some (.int q m)) (hm : m = (h : Int)) (hc : h ≤ c)
    (k : Post (.slice (some ⟨g, 0, none⟩) h c) w) : OW P N ops Q ⟨dst, .slice T x none (some y) none, ty, pos, af, none⟩ σ w Post :=
  ow_slice (l := 0) (h := h) hd hs hx rfl ⟨q, by rw [hy, hm]⟩ (Nat.zero_le _) hc (by
    rw [Nat.sub_zero, Nat.sub_zero, Nat.zero_mul]
    split
    · exact k
    · exact k)
end
end Go.Proofs.YtjdcjdohghkcgaaGreatDoor
namespace Go.Proofs.YtjdcjdohghkcgaaGreatDoor
theorem ex46 : Ext_ Tryz.prog 46 Extern.MathFloatBits.float64bits := ⟨_, Tryz.func46, by kernel_rfl, by kernel_rfl, by kernel_rfl, by kernel_rfl⟩
theorem ex48 : Ext_ Tryz.prog 48 Extern.MathFloatBits.float64frombits := ⟨_, Tryz.func48, by kernel_rfl, by kernel_rfl, by kernel_rfl, by kernel_rfl⟩
theorem ex125 : Ext_ Tryz.prog 125 Extern.BytealgIndexByte.indexByte := ⟨_, Tryz.func125, by kernel_rfl, by kernel_rfl, by kernel_rfl, by kernel_rfl⟩
theorem ex148 : Ext_ Tryz.prog 148 (Extern.MathFloor.toIntegral "math.archFloor" .down) := ⟨_, Tryz.func148, by kernel_rfl, by kernel_rfl, by kernel_rfl, by kernel_rfl⟩
theorem ex151 : Ext_ Tryz.prog 151 Extern.MathFloatBits.float64bits := ⟨_, Tryz.func151, by kernel_rfl, by kernel_rfl, by kernel_rfl, by kernel_rfl⟩
theorem ex182 : Ext_ Tryz.prog 182 Extern.MathFloatBits.float64frombits := ⟨_, Tryz.func182, by kernel_rfl, by kernel_rfl, by kernel_rfl, by kernel_rfl⟩
end Go.Proofs.YtjdcjdohghkcgaaGreatDoor
namespace Go.Proofs.YtjdcjdohghkcgaaGreatDoor
open Go.RowKit
set_option maxRecDepth 100000
/-- The one NaN in place of each. -/
def bareN (m : Nat) : Nat := if isN m then 9221120237041090560 else m
def ansF (z : Option Nat) : Nat := z.getD 9221120237041090560
theorem FRes.bare {op : BinOp} {a b r : Nat} {w w' : World} (h : FRes (fop op a b) r w w') : bareN r = ansF (fop op a b) := by
 rcases h with ⟨hz, _⟩ | ⟨hz, hn, _⟩
 · rw [hz]; unfold bareN ansF; rw [(fop_num hz).1]; rfl
 · rw [hz]; unfold bareN ansF; rw [nan_isN hn]; rfl
theorem ford_self (m : Nat) : (ford m m != some .eq) = isN m := by
 cases h : isN m with
 | true => rw [ford_nan (.inl h)]; rfl
 | false => rw [ford_val h h, cmp3_self]; rfl
theorem ofInt_nat (m : Nat) (h : m < 18446744073709551616) : (BitVec.ofInt 64 (m : Int)).toNat = m := by
 rw [BitVec.toNat_ofInt]
 omega
theorem wrap_nat {m : Nat} (h : m < 18446744073709551616) : IntKind.u64.wrap (m : Int) = (m : Int) := wrap_u64 (by omega)
theorem and_bits {m n : Nat} (hm : m < 18446744073709551616) (hn : n < 18446744073709551616) : IntKind.u64.wrap (BitVec.ofInt IntKind.u64.bits (m : Int) &&& BitVec.ofInt IntKind.u64.bits (n : Int)).toNat = ((m &&& n : Nat) : Int) := by
 have h1 := ofInt_nat m hm
 have h2 := ofInt_nat n hn
 show IntKind.u64.wrap (((BitVec.ofInt 64 (m : Int) &&& BitVec.ofInt 64 (n : Int)).toNat : Nat) : Int) = _
 rw [BitVec.toNat_and, h1, h2]
 exact wrap_nat (Nat.lt_of_le_of_lt Nat.and_le_left hm)
def isZ (b : Nat) : Bool := decide (rg b = 0)
def divV (a b : Nat) : Nat := if isZ b then 0 else ansF (fop .quo a b)
def divE (b : Nat) : Int := if isZ b then 6 else 0
def ordI (x y : Int) : Int := if x < y then -1 else if x > y then 1 else 0
def ordered (a b : Nat) : Bool := !(isN a) && !(isN b)
def cmpF (a b : Nat) : Int := if ordered a b then ordI (pc a) (pc b) else 0
section
variable (w : World)
/-! ### package real -/
theorem bare_any (m : Nat) : Calls Tryz.prog 44 #[.float .f64 m] w fun e w' => e = .returned (.int .u64 ((bareN m : Nat) : Int)) ∧ Below w.heap.size w w' := by
 refine calls_cw Tryz.func44 rfl Tryz.ntmps44 rfl ?_
 have HF : Per (No) w (fun _ => True) := Per.true_
 have LW := Ext.refl (No) w
 have XLW : ∀ q9, (No) q9 → (No) q9 ∨ w.heap.size ≤ q9 := fun _ h => Or.inl h
 have E := Ext.refl (No) w
 refine cw_seq ?_
 refine cw_region ?_
 refine rs_op rfl (ow_assign rfl ?_)
 refine rs_nil ?_
 refine ew_next ?_
 refine cw_seq ?_
 refine cw_seq ?_
 refine cw_region ?_
 refine rs_op rfl (ow_move rfl ?_)
 refine rs_op rfl (ow_move rfl ?_)
 refine rs_op rfl (ow_fneq rfl rfl ?_)
 refine rs_nil ?_
 refine ew_next ?_
 refine cw_set 5 (.bool (isN m)) rfl ((by rw [ford_self] : (.bool (ford m m != some .eq) : Value) = _)) ?_
 refine cw_cond rfl (fun h => ?_) (fun h => ?_)
 ·
  refine cw_seq ?_
  refine cw_region ?_
  refine rs_op rfl (ow_assign rfl ?_)
  refine rs_nil ?_
  refine ew_next ?_
  refine cw_ret ?_
  refine ew_then_ret ?_
  refine ew_ret (rs := [.tmp 2]) (vs := [_]) rfl ⟨rfl, trivial⟩ ?_
  exact ⟨by rw [bareN, if_pos h]; rfl, (LW.step E XLW).toBelow⟩
 ·
  refine cw_skip ?_
  refine ew_next ?_
  refine cw_seq ?_
  refine cw_region ?_
  refine rs_op rfl (ow_move rfl ?_)
  refine rs_op rfl (ow_bits ex46 rfl ?_)
  refine rs_op rfl (ow_assign rfl ?_)
  refine rs_nil ?_
  refine ew_next ?_
  refine cw_ret ?_
  refine ew_ret (rs := [.tmp 2]) (vs := [_]) rfl ⟨rfl, trivial⟩ ?_
  exact ⟨by rw [bareN, if_neg (by rw [h]; decide)]; rfl, (LW.step E XLW).toBelow⟩
section
variable (a b : Nat)
end
end
/-! ### the document's -/
section
variable (w : World)
section
variable (a : Nat) (ha : a < 18446744073709551616)
include ha
end
section
variable (a b : Nat) (ha : a < 18446744073709551616) (hb : b < 18446744073709551616)
include ha hb
end
end
end Go.Proofs.YtjdcjdohghkcgaaGreatDoor
namespace Go.Proofs.YtjdcjdohghkcgaaGreatDoor
open Go.RowKit
set_option maxRecDepth 100000
theorem ofInt_cast (m : Nat) : BitVec.ofInt 64 ((m : Nat) : Int) = BitVec.ofNat 64 m := BitVec.ofInt_natCast 64 m
theorem andNot_sign {a : Nat} (ha : a < 18446744073709551616) : IntKind.u64.wrap (BitVec.ofInt IntKind.u64.bits ((a : Nat) : Int) &&& ~~~BitVec.ofInt IntKind.u64.bits 9223372036854775808).toNat = ((rg a : Nat) : Int) := by
 have h := andNot_sign_nat ha
 show IntKind.u64.wrap (((BitVec.ofInt 64 ((a : Nat) : Int) &&& ~~~BitVec.ofInt 64 ((9223372036854775808 : Nat) : Int)).toNat : Nat) : Int) = _
 rw [ofInt_cast, ofInt_cast, h]
 exact wrap_nat (Nat.lt_trans (rg_lt a) (by decide))
theorem or_bits {m n : Nat} (hm : m < 18446744073709551616) (hn : n < 18446744073709551616) : IntKind.u64.wrap (BitVec.ofInt IntKind.u64.bits (m : Int) ||| BitVec.ofInt IntKind.u64.bits (n : Int)).toNat = ((m ||| n : Nat) : Int) := by
 have h1 := ofInt_nat m hm
 have h2 := ofInt_nat n hn
 show IntKind.u64.wrap (((BitVec.ofInt 64 (m : Int) ||| BitVec.ofInt 64 (n : Int)).toNat : Nat) : Int) = _
 rw [BitVec.toNat_or, h1, h2]
 exact wrap_nat (Nat.or_lt_two_pow (n := 64) (by omega) (by omega))
theorem and_sign {a : Nat} (ha : a < 18446744073709551616) : IntKind.u64.wrap (BitVec.ofInt IntKind.u64.bits ((a : Nat) : Int) &&& BitVec.ofInt IntKind.u64.bits 9223372036854775808).toNat = ((if ng a then 9223372036854775808 else 0 : Nat) : Int) := by
 have := and_bits (n := 9223372036854775808) ha (by decide)
 rw [and_sign_nat a ha] at this
 exact this
section
variable (w : World) (a : Nat) (ha : a < 18446744073709551616)
include ha
theorem copysign_any (b : Nat) (hb : b < 18446744073709551616) : Calls Tryz.prog 43 #[.float .f64 a, .float .f64 b] w fun e w' => e = .returned (.float .f64 (Ieee.double.word (ng b) (rg a))) ∧ Below w.heap.size w w' := by
 have hr := rg_lt a
 have ho : (rg a ||| (if ng b then 9223372036854775808 else 0 : Nat)) = Ieee.double.word (ng b) (rg a) := by
  unfold Ieee.Format.word
  rw [c1]
  split
  · rw [Nat.or_comm]; exact or_add 63 hr rfl
  · exact Nat.or_zero _
 have hs : (if ng b then 9223372036854775808 else 0 : Nat) < 18446744073709551616 := by split <;> decide
 refine calls_cw Tryz.func43 rfl Tryz.ntmps43 rfl ?_
 have HF : Per (No) w (fun _ => True) := Per.true_
 have LW := Ext.refl (No) w
 have XLW : ∀ q9, (No) q9 → (No) q9 ∨ w.heap.size ≤ q9 := fun _ h => Or.inl h
 have E := Ext.refl (No) w
 refine cw_seq ?_
 refine cw_region ?_
 refine rs_op rfl (ow_assign rfl ?_)
 refine rs_nil ?_
 refine ew_next ?_
 refine cw_seq ?_
 refine cw_region ?_
 refine rs_op rfl (ow_move rfl ?_)
 refine rs_op rfl (ow_bits ex46 rfl ?_)
 refine rs_op rfl (ow_andNot rfl rfl (andNot_sign ha) ?_)
 refine rs_op rfl (ow_move rfl ?_)
 refine rs_op rfl (ow_bits ex46 rfl ?_)
 refine rs_op rfl (ow_and rfl rfl (and_sign hb) ?_)
 refine rs_op rfl (ow_or rfl rfl (or_bits (Nat.lt_trans hr (by decide)) hs) ?_)
 refine rs_op rfl (ow_frombits (b := rg a ||| (if ng b then 9223372036854775808 else 0 : Nat)) ex48 rfl ?_)
 refine rs_op rfl (ow_assign rfl ?_)
 refine rs_nil ?_
 refine ew_next ?_
 refine cw_ret ?_
 refine ew_ret (rs := [.tmp 4]) (vs := [_]) rfl ⟨rfl, trivial⟩ ?_
 exact ⟨by rw [← ho]; rfl, (LW.step E XLW).toBelow⟩
end
end Go.Proofs.YtjdcjdohghkcgaaGreatDoor
namespace Go.Proofs.YtjdcjdohghkcgaaGreatDoor
open Go.RowKit
set_option maxRecDepth 100000
def nzB (a : Nat) : Nat := Ieee.double.word (ng a) (nr (rg a))
def nzE (a : Nat) : Int := if rg a < 4503599627370496 then -52 else 0
theorem FRes.some {z : Option Nat} {r q : Nat} {w w' : World} (h : FRes z r w w') (hz : z = some q) : r = q := by
 rcases h with ⟨h1, _⟩ | ⟨h1, _⟩
 · rw [hz] at h1; exact (Option.some.inj h1).symm
 · rw [hz] at h1; cases h1
section
variable (w : World) (a : Nat) (ha : a < 18446744073709551616) (h0 : rg a ≠ 0) (hf : rg a < 9218868437227405312)
include ha h0 hf
end
end Go.Proofs.YtjdcjdohghkcgaaGreatDoor
namespace Go.Proofs.YtjdcjdohghkcgaaGreatDoor
open Go.RowKit
set_option maxRecDepth 100000
section
variable (w : World) (a k q : Nat) (ha : a < 18446744073709551616) (h0 : rg a ≠ 0) (hf : rg a < 9218868437227405312) (hk : k < 4096) (hq : q < 9218868437227405312) (hv : vl q = vl (rg a) * 2 ^ k)
include ha h0 hf hk hq hv
end
end Go.Proofs.YtjdcjdohghkcgaaGreatDoor
namespace Go.Proofs.YtjdcjdohghkcgaaGreatDoor
open Go.RowKit
set_option maxRecDepth 100000
section
variable {P : Program} {N : Nat} {ops : Array Oper} {Q : Exit → Act → World → Prop} {σ : Env} {w : World} {ty : TypeId} {pos : String} {af : Array Edge} {dst : Option Nat} {Post : Value → World → Prop}
theorem ow_i2f {T U : TypeId} {x : Operand} {n : Int} {q : IntKind} (hd : P.underlying U = some (.float .f64)) (hs : (P.underlying T).isSome = true) (hx : ev σ x = some (.int q n)) (k : Post (.float .f64 (FloatKind.f64.nearest n)) w) : OW P N ops Q ⟨dst, .convert T U x, ty, pos, af, none⟩ σ w Post :=
  ow_val (fun ρ ha => by
    have h : (convert T U (.int q n)).run P w = .ok (.float .f64 (FloatKind.f64.nearest n)) w := by
      obtain ⟨s, hs'⟩ := Option.isSome_iff_exists.1 hs
      cases s <;> simp [convert, run_underlying hs', run_underlying hd, Conv.intToFloat]
    simp only [execOp, ha hx, Sem.run_bind, h, Result.andThen_ok, Sem.run_pure]) k
structure NRes (r : Nat) (w w' : World) : Prop where
  isn : isN r = true
  ext : Ext No w w'
  lt : r < 18446744073709551616
end
end Go.Proofs.YtjdcjdohghkcgaaGreatDoor
namespace Go.Proofs.YtjdcjdohghkcgaaGreatDoor
open Ieee
set_option maxRecDepth 100000
theorem two_pos (n : Nat) : 0 < 2 ^ n := Nat.pow_pos (by decide)
/-- What is left of a number when it is cut to a whole one. -/
def wholeN (a : Nat) : Nat := vl (rg a) / 2 ^ 1074
/-! ### rests -/
end Go.Proofs.YtjdcjdohghkcgaaGreatDoor
namespace Go.Proofs.YtjdcjdohghkcgaaGreatDoor
open Ieee
set_option maxRecDepth 100000
end Go.Proofs.YtjdcjdohghkcgaaGreatDoor
namespace Go.Proofs.YtjdcjdohghkcgaaGreatDoor
open Ieee
set_option maxRecDepth 100000
def addS (a b : Nat) : Bool := if sv a + sv b = 0 then ng a && ng b else decide (sv a + sv b < 0)
/-- Is a magnitude whole? -/
def isWh (r : Nat) : Prop := 2 ^ 1074 ∣ vl r
end Go.Proofs.YtjdcjdohghkcgaaGreatDoor
namespace Go.Proofs.YtjdcjdohghkcgaaGreatDoor
open Ieee
set_option maxRecDepth 100000
/-- The rest's magnitude. -/
noncomputable def modR (a b : Nat) : Nat := if rg b = 9218868437227405312 then rg a else rungOf (vl (rg a) % vl (rg b))
noncomputable def m0F (a b : Nat) : Nat := double.word (ng a) (modR a b)
theorem fin_notN {b : Nat} (hb : rg b < 9218868437227405312) : isN b = false := decide_eq_false (by omega)
theorem nearest_ng (s : Bool) (m : Nat) (p : Int) : ng (double.nearest s m p) = s := by
  unfold Format.nearest
  split
  · exact (word_rg s 0 (by decide)).2.1
  · refine (word_rg s _ (Nat.lt_of_le_of_lt (Nat.min_le_right _ _) ?_)).2.1
    rw [c3]; decide
theorem quo_fin {a b : Nat} (ha : isN a = false) (hb : isN b = false) (h0 : rg b ≠ 0) (hi : rg a < 9218868437227405312 ∨ rg b < 9218868437227405312) : ∃ z, fop .quo a b = some z ∧ ng z = (ng a ^^ ng b) := by
  have hA : rg a < 9218868437227405312 ∨ rg a = 9218868437227405312 := by have := of_decide_eq_false ha; omega
  have hB : rg b < 9218868437227405312 ∨ rg b = 9218868437227405312 := by have := of_decide_eq_false hb; omega
  rcases hA with hA | hA <;> rcases hB with hB | hB
  · simp only [fop, Format.div, read_num hA, read_num hB, Datum.quotient]
    rw [if_neg (mg_pos h0)]
    exact ⟨_, rfl, nearest_ng _ _ _⟩
  · simp only [fop, Format.div, read_num hA, read_inf hB, Datum.quotient]
    exact ⟨_, rfl, nearest_ng _ _ _⟩
  · simp only [fop, Format.div, read_inf hA, read_num hB, Datum.quotient]
    exact ⟨_, rfl, (word_rg _ _ (by rw [c3]; decide)).2.1⟩
  · omega
def nanCase (a b : Nat) : Bool := isN a || isN b || decide (rg a = 9218868437227405312)
noncomputable def flipB (a b : Nat) : Bool := decide (modR a b ≠ 0) && (ng a != ng b)
noncomputable def modF (a b : Nat) : Nat := if nanCase a b then 9221120237041090560 else if modR a b = 0 then double.word (ng b) 0 else if flipB a b then ansF (fop .add (m0F a b) b) else m0F a b
noncomputable def subF (a b : Nat) : Nat := ansF (fop .sub a (m0F a b))
noncomputable def d0F (a b : Nat) : Nat := ansF (fop .quo (subF a b) b)
noncomputable def d1F (a b : Nat) : Nat := if flipB a b then ansF (fop .sub (d0F a b) 4607182418800017408) else d0F a b
/-- Is what lies above the number rounded down more than a half? -/
def upB (d : Nat) : Bool := match fop .sub d (fround .down d) with
  | some z => ford z 4602678819172646912 == some .gt
  | none => false
def wholeF (d : Nat) : Nat := if upB d then ansF (fop .add (fround .down d) 4607182418800017408) else fround .down d
noncomputable def floorF (a b : Nat) : Nat := if nanCase a b then 9221120237041090560 else if isZ (d1F a b) then double.word (ng a ^^ ng b) 0 else wholeF (d1F a b)
theorem ansF_some {z : Option Nat} {r : Nat} (h : z = some r) : ansF z = r := by rw [h]; rfl
section
variable {a b : Nat} (ha : a < 18446744073709551616) (hf : rg a < 9218868437227405312) (hb : b < 18446744073709551616) (hn : isN b = false) (h0 : rg b ≠ 0)
include hf h0
include hn ha
end
end Go.Proofs.YtjdcjdohghkcgaaGreatDoor
namespace Go.Proofs.YtjdcjdohghkcgaaGreatDoor
open Go.RowKit
set_option maxRecDepth 100000
section
variable (w : World)
section
variable (a : Nat) (ha : a < 18446744073709551616) (h0 : rg a ≠ 0) (hf : rg a < 9218868437227405312)
include ha
section
include h0 hf
end
section
variable (hz : rg a = 0)
include hz
end
section
variable (hi : rg a = 9218868437227405312)
include hi
end
end
/-! ### math.mod -/
section
variable (a b : Nat) (ha : a < 18446744073709551616) (hb : b < 18446744073709551616) (hz : isZ b = false)
include ha hb hz
section
variable (hf : rg a < 9218868437227405312) (hn : isN b = false)
include hf hn
section
variable (ha0 : rg a ≠ 0)
include ha0
/-! ### the loop -/
variable (hq : rg b < 9218868437227405312)
include hq
end
end
end
end
end Go.Proofs.YtjdcjdohghkcgaaGreatDoor
namespace Go.Proofs.YtjdcjdohghkcgaaGreatDoor
open Go.RowKit
set_option maxRecDepth 100000
theorem shr_nat (m k : Nat) (hk : k < 64) : ((m : Nat) : Int).fdiv (2 ^ (min ((k : Nat) : Int).toNat IntKind.u64.bits)) = ((m / 2 ^ k : Nat) : Int) := by
 rw [Int.toNat_natCast, show min k IntKind.u64.bits = k from Nat.min_eq_left (by show k ≤ 64; omega), Int.fdiv_eq_ediv_of_nonneg _ (Int.le_of_lt (Int.pow_pos (by decide)))]
 rw [show (2 : Int) ^ k = ((2 ^ k : Nat) : Int) by simp]
 rfl
theorem wrap_mod (m : Nat) : IntKind.u64.wrap ((m : Nat) : Int) = ((m % 18446744073709551616 : Nat) : Int) := by
 unfold IntKind.wrap
 simp only [IntKind.bits, IntKind.signed, Bool.false_and, Bool.false_eq_true, if_false]
 omega
theorem shl_nat (m k : Nat) (hk : k < 64) : IntKind.u64.wrap (((m : Nat) : Int) * 2 ^ (min ((k : Nat) : Int).toNat IntKind.u64.bits)) = ((m * 2 ^ k % 18446744073709551616 : Nat) : Int) := by
 rw [Int.toNat_natCast, show min k IntKind.u64.bits = k from Nat.min_eq_left (by show k ≤ 64; omega), show (2 : Int) ^ k = ((2 ^ k : Nat) : Int) by simp, ← Int.natCast_mul]
 exact wrap_mod _
theorem bool_dec {p q : Prop} [Decidable p] [Decidable q] (h : p ↔ q) : (Value.bool (decide p)) = .bool (decide q) := by
 congr 1
 by_cases hp : p
 · rw [decide_eq_true hp, decide_eq_true (h.1 hp)]
 · rw [decide_eq_false hp, decide_eq_false (fun k => hp (h.2 k))]
section
variable (w : World)
/-! ### rest -/
section
variable (a b : Nat) (ha : a < 18446744073709551616) (hb : b < 18446744073709551616)
include ha hb
section
variable (ha0 : rg a ≠ 0) (hb0 : rg b ≠ 0) (hf : rg a < 9218868437227405312) (hq : rg b < 9218868437227405312)
include ha0 hb0 hf hq
end
end
end
end Go.Proofs.YtjdcjdohghkcgaaGreatDoor
namespace Go.Proofs.YtjdcjdohghkcgaaGreatDoor
open Go.RowKit
set_option maxRecDepth 100000
theorem sub_mod_gen {M x y W : Nat} (hW : W < M) (h : (W + y) % M = x % M) : ((x : Int) - (y : Int)) % (M : Int) = (W : Int) := by
 have h' : ((W : Int) + (y : Int)) % (M : Int) = (x : Int) % (M : Int) := by exact_mod_cast h
 rw [Int.sub_emod, ← h', ← Int.sub_emod, Int.add_sub_cancel]
 exact Int.emod_eq_of_lt (by omega) (by omega)
section
variable (w : World)
end
end Go.Proofs.YtjdcjdohghkcgaaGreatDoor
namespace Go.Proofs.YtjdcjdohghkcgaaGreatDoor
open Go.RowKit
set_option maxRecDepth 100000
end Go.Proofs.YtjdcjdohghkcgaaGreatDoor
namespace Go.Proofs.YtjdcjdohghkcgaaGreatDoor
open Go.RowKit
set_option maxRecDepth 100000
end Go.Proofs.YtjdcjdohghkcgaaGreatDoor
namespace Go.Proofs.YtjdcjdohghkcgaaGreatDoor
open Go.RowKit
set_option maxRecDepth 100000
/-- The caller's own row comes back longer. -/
def RetRowB (W : World) (base : Nat) (key : Option Nat) (n : Nat) (xs : List Value) (e : Ending) (w' : World) : Prop :=
 ∃ A c, e = .returned (.slice A n c) ∧ w'.ownsRow base 5 1 (.slice A n c) n xs ∧ Ext (Mut [key]) W w' ∧ ∀ q, (Value.slice A n c).ownBlock = some q → key = some q ∨ W.heap.size ≤ q
theorem kn_of {r r' : Option Nat} {n : Nat} (h : ∀ q, Mut [r'] q → Mut [r] q ∨ n ≤ q) : ∀ q, r' = some q → r = some q ∨ n ≤ q := fun q e => (h q (Or.inl e.symm)).imp (fun h => h.elim (fun e => e.symm) (fun e => e.elim)) id
section
variable (w : World) (base : Nat) (A : Option Addr) (c : Nat) (HB : base ≤ w.heap.size) (ho : w.ownsRow base 5 1 (.slice A 0 c) 0 [])
include HB ho
theorem efg_ze : Calls Tryz.prog 154 #[.slice A 0 c, .bool true, .slice none 0 0, .int .i64 0, .int .i64 0, .int .i64 (-1), .int .u8 101, .bool true] w (RetRowB w base (Value.slice A 0 c).ownBlock 6 [.int .u8 45, .int .u8 48, .int .u8 101, .int .u8 43, .int .u8 48, .int .u8 48]) := by
 refine calls_cw Tryz.func154 rfl Tryz.ntmps154 rfl ?_
 have Odst : World.ownsRow w base 5 1 (.slice A 0 c) 0 ([]) := ho
 have HF : Per (Mut [((Value.slice A 0 c).ownBlock)]) w (fun _ => True) := Per.true_
 have LW := Ext.refl (Mut [((Value.slice A 0 c).ownBlock)]) w
 have XLW : ∀ q9, (Mut [((Value.slice A 0 c).ownBlock)]) q9 → (Mut [((Value.slice A 0 c).ownBlock)]) q9 ∨ w.heap.size ≤ q9 := fun _ h => Or.inl h
 have E := Ext.refl (Mut [((Value.slice A 0 c).ownBlock)]) w
 refine cw_seq ?_
 refine cw_region ?_
 refine rs_op rfl (ow_assign rfl ?_)
 refine rs_nil ?_
 refine ew_next ?_
 refine cw_seq ?_
 refine cw_seq ?_
 refine cw_region ?_
 refine rs_op rfl (ow_move rfl ?_)
 refine rs_op rfl (ow_eql rfl rfl ?_)
 refine rs_op rfl (ow_move rfl ?_)
 refine rs_op rfl (ow_on rfl (ow_move rfl ?_))
 refine rs_op rfl (ow_on rfl (ow_eql rfl rfl ?_))
 refine rs_op rfl (ow_pickF rfl rfl ?_)
 refine rs_nil ?_
 refine ew_next ?_
 refine cw_else rfl ?_
 refine cw_skip ?_
 refine ew_next ?_
 refine cw_seq ?_
 refine cw_seq ?_
 refine cw_region ?_
 refine rs_op rfl (ow_move rfl ?_)
 refine rs_nil ?_
 refine ew_next ?_
 refine cw_block ?_
 refine cw_seq ?_
 refine cw_seq ?_
 refine cw_region ?_
 refine rs_op rfl (ow_eql rfl rfl ?_)
 refine rs_op rfl (ow_assign rfl ?_)
 refine rs_nil ?_
 refine ew_next ?_
 refine cw_then rfl ?_
 refine cw_skip ?_
 refine ew_next ?_
 refine cw_then rfl ?_
 refine cw_seq ?_
 refine cw_seq ?_
 refine cw_region ?_
 refine rs_op rfl (ow_move rfl ?_)
 refine rs_nil ?_
 refine ew_next ?_
 refine cw_then rfl ?_
 refine cw_region ?_
 refine rs_op rfl (ow_move rfl ?_)
 refine rs_op rfl (ow_buildSlice (cs := #[.int .u8 45]) Tryz.underlying97 sz5 zr5 (by decide) rfl (by rw [map_range_]; rfl) ?_)
 intro gb1 w2 Bb1 Eb1 Gb1
 have Db1_dst : Apart (some gb1) ((Value.slice A 0 c).ownBlock) := Apart.of_lt (owns_lt Odst) Gb1
 have Ddst_b1 := Db1_dst.symm
 have Gb1 : _ ≤ gb1 := Nat.le_trans E.size Gb1
 have GLb1 := Nat.le_trans LW.size Gb1
 replace Odst := owns_extN Odst Eb1 NotIn.nil
 replace E := E.trans Eb1.no
 clear Eb1
 replace HF := HF.cons (some_ge Gb1)
 replace E := E.cons (some gb1)
 replace XLW := Mut.grow XLW (fun k e => Or.inr (Nat.le_trans LW.size ((some_ge Gb1) k e)))
 replace HF := HF.on E
 replace LW := LW.step E XLW
 have SB : ∀ q9, Mut [((Value.slice A 0 c).ownBlock)] q9 → Mut [(some gb1), ((Value.slice A 0 c).ownBlock)] q9 := (Mut.skip (Mut.keep Mut.nil_))
 replace HF := HF.less SB
 replace XLW := fun k h => XLW k (SB k h)
 clear SB
 replace E := Ext.refl (Mut [((Value.slice A 0 c).ownBlock)]) w2
 replace HF := HF.and (Per.blkN Bb1 (NotIn.cons Db1_dst NotIn.nil))
 clear Bb1
 refine rs_op rfl (ow_append (news := [.int .u8 45]) Tryz.underlying97 inf5 rfl (by decide) rfl Odst rfl (reads_row (HF.on E).here.2 ((HF.on E).here.2).lt rfl) (by simp [Value.oneCell']) (by unfold maxLen; omega) (by omega) (by exact Nat.le_trans HB (Nat.le_trans LW.size E.size)) ?_)
 intro v0 w4 On En KN
 obtain ⟨Aq3, cq3, rfl⟩ := owns_shape On
 replace KN : ∀ q9, ((Value.slice Aq3 1 cq3).ownBlock) = some q9 → ((Value.slice A 0 c).ownBlock) = some q9 ∨ w2.heap.size ≤ q9 := KN
 have HY : ∀ q9, (Mut [((Value.slice Aq3 1 cq3).ownBlock)]) q9 → (Mut [((Value.slice A 0 c).ownBlock)]) q9 ∨ w2.heap.size ≤ q9 := (Mut.grow Mut.none_ (fun k e => (KN k e).elim (fun e => Or.inl (Mut.head k e)) (fun h => Or.inr (Nat.le_trans E.size h))))
 replace E := E.step1 En Mut.head
 replace HF := HF.turn E HY
 have XT := fun q9 (h : (Mut [((Value.slice Aq3 1 cq3).ownBlock)]) q9) => (HY q9 h).elim (XLW q9) (fun h => Or.inr (Nat.le_trans LW.size h))
 replace LW := LW.step E XLW
 replace XLW := XT
 clear XT
 replace E := Ext.refl (Mut [((Value.slice Aq3 1 cq3).ownBlock)]) w4
 clear HY
 replace Odst : World.ownsRow w4 base 5 1 (.slice Aq3 1 cq3) 1 ([.int .u8 45]) := by
  have e : (([]) : List Value) ++ ([.int .u8 45] : List Value) = [.int .u8 45] := rfl
  rw [← e]
  exact On
 clear On KN En
 refine rs_op rfl (ow_assign rfl ?_)
 refine rs_nil ?_
 refine ew_next ?_
 refine cw_seq ?_
 refine cw_region ?_
 refine rs_op rfl (ow_assign rfl ?_)
 refine rs_nil ?_
 refine ew_next ?_
 refine cw_seq ?_
 refine cw_seq ?_
 refine cw_region ?_
 refine rs_op rfl (ow_move rfl ?_)
 refine rs_op rfl (ow_neq rfl rfl ?_)
 refine rs_nil ?_
 refine ew_next ?_
 refine cw_else rfl ?_
 refine cw_skip ?_
 refine ew_next ?_
 refine cw_seq ?_
 refine cw_region ?_
 refine rs_op rfl (ow_move rfl ?_)
 refine rs_op rfl (ow_move rfl ?_)
 refine rs_op rfl (ow_buildSlice (cs := #[.int .u8 48]) Tryz.underlying97 sz5 zr5 (by decide) rfl (by rw [map_range_]; rfl) ?_)
 intro gb5 w6 Bb5 Eb5 Gb5
 have Db5_dst : Apart (some gb5) ((Value.slice Aq3 1 cq3).ownBlock) := Apart.of_lt (owns_lt Odst) Gb5
 have Ddst_b5 := Db5_dst.symm
 have Gb5 : _ ≤ gb5 := Nat.le_trans E.size Gb5
 have GLb5 := Nat.le_trans LW.size Gb5
 replace Odst := owns_extN Odst Eb5 NotIn.nil
 replace E := E.trans Eb5.no
 clear Eb5
 replace HF := HF.cons (some_ge Gb5)
 replace E := E.cons (some gb5)
 replace XLW := Mut.grow XLW (fun k e => Or.inr (Nat.le_trans LW.size ((some_ge Gb5) k e)))
 replace HF := HF.on E
 replace LW := LW.step E XLW
 have SB : ∀ q9, Mut [((Value.slice Aq3 1 cq3).ownBlock)] q9 → Mut [(some gb5), ((Value.slice Aq3 1 cq3).ownBlock)] q9 := (Mut.skip (Mut.keep Mut.nil_))
 replace HF := HF.less SB
 replace XLW := fun k h => XLW k (SB k h)
 clear SB
 replace E := Ext.refl (Mut [((Value.slice Aq3 1 cq3).ownBlock)]) w6
 replace HF := HF.and (Per.blkN Bb5 (NotIn.cons Db5_dst NotIn.nil))
 clear Bb5
 refine rs_op rfl (ow_append (news := [.int .u8 48]) Tryz.underlying97 inf5 rfl (by decide) rfl Odst rfl (reads_row (HF.on E).here.2 ((HF.on E).here.2).lt rfl) (by simp [Value.oneCell']) (by unfold maxLen; omega) (by omega) (by exact Nat.le_trans HB (Nat.le_trans LW.size E.size)) ?_)
 intro v0 w8 On En KN
 obtain ⟨Aq7, cq7, rfl⟩ := owns_shape On
 replace KN : ∀ q9, ((Value.slice Aq7 2 cq7).ownBlock) = some q9 → ((Value.slice Aq3 1 cq3).ownBlock) = some q9 ∨ w6.heap.size ≤ q9 := KN
 have HY : ∀ q9, (Mut [((Value.slice Aq7 2 cq7).ownBlock)]) q9 → (Mut [((Value.slice Aq3 1 cq3).ownBlock)]) q9 ∨ w6.heap.size ≤ q9 := (Mut.grow Mut.none_ (fun k e => (KN k e).elim (fun e => Or.inl (Mut.head k e)) (fun h => Or.inr (Nat.le_trans E.size h))))
 replace E := E.step1 En Mut.head
 replace HF := HF.turn E HY
 have XT := fun q9 (h : (Mut [((Value.slice Aq7 2 cq7).ownBlock)]) q9) => (HY q9 h).elim (XLW q9) (fun h => Or.inr (Nat.le_trans LW.size h))
 replace LW := LW.step E XLW
 replace XLW := XT
 clear XT
 replace E := Ext.refl (Mut [((Value.slice Aq7 2 cq7).ownBlock)]) w8
 clear HY
 replace Odst : World.ownsRow w8 base 5 1 (.slice Aq7 2 cq7) 2 ([.int .u8 45, .int .u8 48]) := by
  have e : (([.int .u8 45]) : List Value) ++ ([.int .u8 48] : List Value) = [.int .u8 45, .int .u8 48] := rfl
  rw [← e]
  exact On
 clear On KN En
 refine rs_op rfl (ow_assign rfl ?_)
 refine rs_nil ?_
 refine ew_next ?_
 refine cw_seq ?_
 refine cw_seq ?_
 refine cw_region ?_
 refine rs_op rfl (ow_move rfl ?_)
 refine rs_op rfl (ow_gtr rfl rfl ?_)
 refine rs_nil ?_
 refine ew_next ?_
 refine cw_else rfl ?_
 refine cw_skip ?_
 refine ew_next ?_
 refine cw_seq ?_
 refine cw_region ?_
 refine rs_op rfl (ow_move rfl ?_)
 refine rs_op rfl (ow_move rfl ?_)
 refine rs_op rfl (ow_buildSlice (cs := #[.int .u8 101]) Tryz.underlying97 sz5 zr5 (by decide) rfl (by rw [map_range_]; rfl) ?_)
 intro gb9 w10 Bb9 Eb9 Gb9
 have Db9_dst : Apart (some gb9) ((Value.slice Aq7 2 cq7).ownBlock) := Apart.of_lt (owns_lt Odst) Gb9
 have Ddst_b9 := Db9_dst.symm
 have Gb9 : _ ≤ gb9 := Nat.le_trans E.size Gb9
 have GLb9 := Nat.le_trans LW.size Gb9
 replace Odst := owns_extN Odst Eb9 NotIn.nil
 replace E := E.trans Eb9.no
 clear Eb9
 replace HF := HF.cons (some_ge Gb9)
 replace E := E.cons (some gb9)
 replace XLW := Mut.grow XLW (fun k e => Or.inr (Nat.le_trans LW.size ((some_ge Gb9) k e)))
 replace HF := HF.on E
 replace LW := LW.step E XLW
 have SB : ∀ q9, Mut [((Value.slice Aq7 2 cq7).ownBlock)] q9 → Mut [(some gb9), ((Value.slice Aq7 2 cq7).ownBlock)] q9 := (Mut.skip (Mut.keep Mut.nil_))
 replace HF := HF.less SB
 replace XLW := fun k h => XLW k (SB k h)
 clear SB
 replace E := Ext.refl (Mut [((Value.slice Aq7 2 cq7).ownBlock)]) w10
 replace HF := HF.and (Per.blkN Bb9 (NotIn.cons Db9_dst NotIn.nil))
 clear Bb9
 refine rs_op rfl (ow_append (news := [.int .u8 101]) Tryz.underlying97 inf5 rfl (by decide) rfl Odst rfl (reads_row (HF.on E).here.2 ((HF.on E).here.2).lt rfl) (by simp [Value.oneCell']) (by unfold maxLen; omega) (by omega) (by exact Nat.le_trans HB (Nat.le_trans LW.size E.size)) ?_)
 intro v0 w12 On En KN
 obtain ⟨Aq11, cq11, rfl⟩ := owns_shape On
 replace KN : ∀ q9, ((Value.slice Aq11 3 cq11).ownBlock) = some q9 → ((Value.slice Aq7 2 cq7).ownBlock) = some q9 ∨ w10.heap.size ≤ q9 := KN
 have HY : ∀ q9, (Mut [((Value.slice Aq11 3 cq11).ownBlock)]) q9 → (Mut [((Value.slice Aq7 2 cq7).ownBlock)]) q9 ∨ w10.heap.size ≤ q9 := (Mut.grow Mut.none_ (fun k e => (KN k e).elim (fun e => Or.inl (Mut.head k e)) (fun h => Or.inr (Nat.le_trans E.size h))))
 replace E := E.step1 En Mut.head
 replace HF := HF.turn E HY
 have XT := fun q9 (h : (Mut [((Value.slice Aq11 3 cq11).ownBlock)]) q9) => (HY q9 h).elim (XLW q9) (fun h => Or.inr (Nat.le_trans LW.size h))
 replace LW := LW.step E XLW
 replace XLW := XT
 clear XT
 replace E := Ext.refl (Mut [((Value.slice Aq11 3 cq11).ownBlock)]) w12
 clear HY
 replace Odst : World.ownsRow w12 base 5 1 (.slice Aq11 3 cq11) 3 ([.int .u8 45, .int .u8 48, .int .u8 101]) := by
  have e : (([.int .u8 45, .int .u8 48]) : List Value) ++ ([.int .u8 101] : List Value) = [.int .u8 45, .int .u8 48, .int .u8 101] := rfl
  rw [← e]
  exact On
 clear On KN En
 refine rs_op rfl (ow_assign rfl ?_)
 refine rs_nil ?_
 refine ew_next ?_
 refine cw_seq ?_
 refine cw_region ?_
 refine rs_op rfl (ow_move rfl ?_)
 refine rs_op rfl (ow_sub (z := (-1)) rfl rfl (by kernel_rfl) ?_)
 refine rs_op rfl (ow_assign rfl ?_)
 refine rs_nil ?_
 refine ew_next ?_
 refine cw_seq ?_
 refine cw_seq ?_
 refine cw_region ?_
 refine rs_op rfl (ow_move rfl ?_)
 refine rs_op rfl (ow_eql rfl rfl ?_)
 refine rs_nil ?_
 refine ew_next ?_
 refine cw_then rfl ?_
 refine cw_region ?_
 refine rs_op rfl (ow_assign rfl ?_)
 refine rs_nil ?_
 refine ew_next ?_
 refine cw_seq ?_
 refine cw_seq ?_
 refine cw_region ?_
 refine rs_op rfl (ow_move rfl ?_)
 refine rs_op rfl (ow_lss rfl rfl ?_)
 refine rs_nil ?_
 refine ew_next ?_
 refine cw_else rfl ?_
 refine cw_region ?_
 refine rs_op rfl (ow_assign rfl ?_)
 refine rs_nil ?_
 refine ew_next ?_
 refine cw_seq ?_
 refine cw_region ?_
 refine rs_op rfl (ow_move rfl ?_)
 refine rs_op rfl (ow_move rfl ?_)
 refine rs_op rfl (ow_buildSlice (cs := #[.int .u8 43]) Tryz.underlying97 sz5 zr5 (by decide) rfl (by rw [map_range_]; rfl) ?_)
 intro gb13 w14 Bb13 Eb13 Gb13
 have Db13_dst : Apart (some gb13) ((Value.slice Aq11 3 cq11).ownBlock) := Apart.of_lt (owns_lt Odst) Gb13
 have Ddst_b13 := Db13_dst.symm
 have Gb13 : _ ≤ gb13 := Nat.le_trans E.size Gb13
 have GLb13 := Nat.le_trans LW.size Gb13
 replace Odst := owns_extN Odst Eb13 NotIn.nil
 replace E := E.trans Eb13.no
 clear Eb13
 replace HF := HF.cons (some_ge Gb13)
 replace E := E.cons (some gb13)
 replace XLW := Mut.grow XLW (fun k e => Or.inr (Nat.le_trans LW.size ((some_ge Gb13) k e)))
 replace HF := HF.on E
 replace LW := LW.step E XLW
 have SB : ∀ q9, Mut [((Value.slice Aq11 3 cq11).ownBlock)] q9 → Mut [(some gb13), ((Value.slice Aq11 3 cq11).ownBlock)] q9 := (Mut.skip (Mut.keep Mut.nil_))
 replace HF := HF.less SB
 replace XLW := fun k h => XLW k (SB k h)
 clear SB
 replace E := Ext.refl (Mut [((Value.slice Aq11 3 cq11).ownBlock)]) w14
 replace HF := HF.and (Per.blkN Bb13 (NotIn.cons Db13_dst NotIn.nil))
 clear Bb13
 refine rs_op rfl (ow_append (news := [.int .u8 43]) Tryz.underlying97 inf5 rfl (by decide) rfl Odst rfl (reads_row (HF.on E).here.2 ((HF.on E).here.2).lt rfl) (by simp [Value.oneCell']) (by unfold maxLen; omega) (by omega) (by exact Nat.le_trans HB (Nat.le_trans LW.size E.size)) ?_)
 intro v0 w16 On En KN
 obtain ⟨Aq15, cq15, rfl⟩ := owns_shape On
 replace KN : ∀ q9, ((Value.slice Aq15 4 cq15).ownBlock) = some q9 → ((Value.slice Aq11 3 cq11).ownBlock) = some q9 ∨ w14.heap.size ≤ q9 := KN
 have HY : ∀ q9, (Mut [((Value.slice Aq15 4 cq15).ownBlock)]) q9 → (Mut [((Value.slice Aq11 3 cq11).ownBlock)]) q9 ∨ w14.heap.size ≤ q9 := (Mut.grow Mut.none_ (fun k e => (KN k e).elim (fun e => Or.inl (Mut.head k e)) (fun h => Or.inr (Nat.le_trans E.size h))))
 replace E := E.step1 En Mut.head
 replace HF := HF.turn E HY
 have XT := fun q9 (h : (Mut [((Value.slice Aq15 4 cq15).ownBlock)]) q9) => (HY q9 h).elim (XLW q9) (fun h => Or.inr (Nat.le_trans LW.size h))
 replace LW := LW.step E XLW
 replace XLW := XT
 clear XT
 replace E := Ext.refl (Mut [((Value.slice Aq15 4 cq15).ownBlock)]) w16
 clear HY
 replace Odst : World.ownsRow w16 base 5 1 (.slice Aq15 4 cq15) 4 ([.int .u8 45, .int .u8 48, .int .u8 101, .int .u8 43]) := by
  have e : (([.int .u8 45, .int .u8 48, .int .u8 101]) : List Value) ++ ([.int .u8 43] : List Value) = [.int .u8 45, .int .u8 48, .int .u8 101, .int .u8 43] := rfl
  rw [← e]
  exact On
 clear On KN En
 refine rs_op rfl (ow_assign rfl ?_)
 refine rs_nil ?_
 refine ew_next ?_
 refine cw_seq ?_
 refine cw_block ?_
 refine cw_seq ?_
 refine cw_region ?_
 refine rs_op rfl (ow_move rfl ?_)
 refine rs_op rfl (ow_lss rfl rfl ?_)
 refine rs_op rfl (ow_assign rfl ?_)
 refine rs_nil ?_
 refine ew_next ?_
 refine cw_then rfl ?_
 refine cw_region ?_
 refine rs_op rfl (ow_move rfl ?_)
 refine rs_op rfl (ow_move rfl ?_)
 refine rs_op rfl (ow_conv (z := 0) Tryz.underlying5 Tryz.underlying3 rfl (by kernel_rfl) ?_)
 refine rs_op rfl (ow_add (z := 48) rfl rfl (by kernel_rfl) ?_)
 refine rs_op rfl (ow_buildSlice (cs := #[.int .u8 48, .int .u8 48]) Tryz.underlying97 sz5 zr5 (by decide) rfl (by rw [map_range_]; rfl) ?_)
 intro gb17 w18 Bb17 Eb17 Gb17
 have Db17_dst : Apart (some gb17) ((Value.slice Aq15 4 cq15).ownBlock) := Apart.of_lt (owns_lt Odst) Gb17
 have Ddst_b17 := Db17_dst.symm
 have Gb17 : _ ≤ gb17 := Nat.le_trans E.size Gb17
 have GLb17 := Nat.le_trans LW.size Gb17
 replace Odst := owns_extN Odst Eb17 NotIn.nil
 replace E := E.trans Eb17.no
 clear Eb17
 replace HF := HF.cons (some_ge Gb17)
 replace E := E.cons (some gb17)
 replace XLW := Mut.grow XLW (fun k e => Or.inr (Nat.le_trans LW.size ((some_ge Gb17) k e)))
 replace HF := HF.on E
 replace LW := LW.step E XLW
 have SB : ∀ q9, Mut [((Value.slice Aq15 4 cq15).ownBlock)] q9 → Mut [(some gb17), ((Value.slice Aq15 4 cq15).ownBlock)] q9 := (Mut.skip (Mut.keep Mut.nil_))
 replace HF := HF.less SB
 replace XLW := fun k h => XLW k (SB k h)
 clear SB
 replace E := Ext.refl (Mut [((Value.slice Aq15 4 cq15).ownBlock)]) w18
 replace HF := HF.and (Per.blkN Bb17 (NotIn.cons Db17_dst NotIn.nil))
 clear Bb17
 refine rs_op rfl (ow_append (news := [.int .u8 48, .int .u8 48]) Tryz.underlying97 inf5 rfl (by decide) rfl Odst rfl (reads_row (HF.on E).here.2 ((HF.on E).here.2).lt rfl) (by simp [Value.oneCell']) (by unfold maxLen; omega) (by omega) (by exact Nat.le_trans HB (Nat.le_trans LW.size E.size)) ?_)
 intro v0 w20 On En KN
 obtain ⟨Aq19, cq19, rfl⟩ := owns_shape On
 replace KN : ∀ q9, ((Value.slice Aq19 6 cq19).ownBlock) = some q9 → ((Value.slice Aq15 4 cq15).ownBlock) = some q9 ∨ w18.heap.size ≤ q9 := KN
 have HY : ∀ q9, (Mut [((Value.slice Aq19 6 cq19).ownBlock)]) q9 → (Mut [((Value.slice Aq15 4 cq15).ownBlock)]) q9 ∨ w18.heap.size ≤ q9 := (Mut.grow Mut.none_ (fun k e => (KN k e).elim (fun e => Or.inl (Mut.head k e)) (fun h => Or.inr (Nat.le_trans E.size h))))
 replace E := E.step1 En Mut.head
 replace HF := HF.turn E HY
 have XT := fun q9 (h : (Mut [((Value.slice Aq19 6 cq19).ownBlock)]) q9) => (HY q9 h).elim (XLW q9) (fun h => Or.inr (Nat.le_trans LW.size h))
 replace LW := LW.step E XLW
 replace XLW := XT
 clear XT
 replace E := Ext.refl (Mut [((Value.slice Aq19 6 cq19).ownBlock)]) w20
 clear HY
 replace Odst : World.ownsRow w20 base 5 1 (.slice Aq19 6 cq19) 6 ([.int .u8 45, .int .u8 48, .int .u8 101, .int .u8 43, .int .u8 48, .int .u8 48]) := by
  have e : (([.int .u8 45, .int .u8 48, .int .u8 101, .int .u8 43]) : List Value) ++ ([.int .u8 48, .int .u8 48] : List Value) = [.int .u8 45, .int .u8 48, .int .u8 101, .int .u8 43, .int .u8 48, .int .u8 48] := rfl
  rw [← e]
  exact On
 clear On KN En
 refine rs_op rfl (ow_assign rfl ?_)
 refine rs_nil ?_
 refine ew_block_normal ?_
 refine ew_next ?_
 refine cw_seq ?_
 refine cw_region ?_
 refine rs_op rfl (ow_move rfl ?_)
 refine rs_op rfl (ow_assign rfl ?_)
 refine rs_nil ?_
 refine ew_next ?_
 refine cw_ret ?_
 refine ew_block_ret ?_
 refine ew_then_ret ?_
 refine ew_ret (rs := [.tmp 16]) (vs := [_]) rfl ⟨rfl, trivial⟩ ?_
 exact ⟨_, _, rfl, Odst, (LW.step E XLW), kn_of XLW⟩
theorem efg_zf : Calls Tryz.prog 154 #[.slice A 0 c, .bool true, .slice none 0 0, .int .i64 0, .int .i64 0, .int .i64 (-1), .int .u8 102, .bool true] w (RetRowB w base (Value.slice A 0 c).ownBlock 2 [.int .u8 45, .int .u8 48]) := by
 refine calls_cw Tryz.func154 rfl Tryz.ntmps154 rfl ?_
 have Odst : World.ownsRow w base 5 1 (.slice A 0 c) 0 ([]) := ho
 have HF : Per (Mut [((Value.slice A 0 c).ownBlock)]) w (fun _ => True) := Per.true_
 have LW := Ext.refl (Mut [((Value.slice A 0 c).ownBlock)]) w
 have XLW : ∀ q9, (Mut [((Value.slice A 0 c).ownBlock)]) q9 → (Mut [((Value.slice A 0 c).ownBlock)]) q9 ∨ w.heap.size ≤ q9 := fun _ h => Or.inl h
 have E := Ext.refl (Mut [((Value.slice A 0 c).ownBlock)]) w
 refine cw_seq ?_
 refine cw_region ?_
 refine rs_op rfl (ow_assign rfl ?_)
 refine rs_nil ?_
 refine ew_next ?_
 refine cw_seq ?_
 refine cw_seq ?_
 refine cw_region ?_
 refine rs_op rfl (ow_move rfl ?_)
 refine rs_op rfl (ow_eql rfl rfl ?_)
 refine rs_op rfl (ow_move rfl ?_)
 refine rs_op rfl (ow_on rfl (ow_move rfl ?_))
 refine rs_op rfl (ow_on rfl (ow_eql rfl rfl ?_))
 refine rs_op rfl (ow_pickF rfl rfl ?_)
 refine rs_nil ?_
 refine ew_next ?_
 refine cw_else rfl ?_
 refine cw_skip ?_
 refine ew_next ?_
 refine cw_seq ?_
 refine cw_seq ?_
 refine cw_region ?_
 refine rs_op rfl (ow_move rfl ?_)
 refine rs_nil ?_
 refine ew_next ?_
 refine cw_block ?_
 refine cw_seq ?_
 refine cw_seq ?_
 refine cw_region ?_
 refine rs_op rfl (ow_eql rfl rfl ?_)
 refine rs_op rfl (ow_assign rfl ?_)
 refine rs_nil ?_
 refine ew_next ?_
 refine cw_else rfl ?_
 refine cw_region ?_
 refine rs_op rfl (ow_eql rfl rfl ?_)
 refine rs_op rfl (ow_assign rfl ?_)
 refine rs_nil ?_
 refine ew_next ?_
 refine cw_else rfl ?_
 refine cw_seq ?_
 refine cw_region ?_
 refine rs_op rfl (ow_eql rfl rfl ?_)
 refine rs_op rfl (ow_assign rfl ?_)
 refine rs_nil ?_
 refine ew_next ?_
 refine cw_then rfl ?_
 refine cw_seq ?_
 refine cw_seq ?_
 refine cw_region ?_
 refine rs_op rfl (ow_move rfl ?_)
 refine rs_nil ?_
 refine ew_next ?_
 refine cw_then rfl ?_
 refine cw_region ?_
 refine rs_op rfl (ow_move rfl ?_)
 refine rs_op rfl (ow_buildSlice (cs := #[.int .u8 45]) Tryz.underlying97 sz5 zr5 (by decide) rfl (by rw [map_range_]; rfl) ?_)
 intro gb1 w2 Bb1 Eb1 Gb1
 have Db1_dst : Apart (some gb1) ((Value.slice A 0 c).ownBlock) := Apart.of_lt (owns_lt Odst) Gb1
 have Ddst_b1 := Db1_dst.symm
 have Gb1 : _ ≤ gb1 := Nat.le_trans E.size Gb1
 have GLb1 := Nat.le_trans LW.size Gb1
 replace Odst := owns_extN Odst Eb1 NotIn.nil
 replace E := E.trans Eb1.no
 clear Eb1
 replace HF := HF.cons (some_ge Gb1)
 replace E := E.cons (some gb1)
 replace XLW := Mut.grow XLW (fun k e => Or.inr (Nat.le_trans LW.size ((some_ge Gb1) k e)))
 replace HF := HF.on E
 replace LW := LW.step E XLW
 have SB : ∀ q9, Mut [((Value.slice A 0 c).ownBlock)] q9 → Mut [(some gb1), ((Value.slice A 0 c).ownBlock)] q9 := (Mut.skip (Mut.keep Mut.nil_))
 replace HF := HF.less SB
 replace XLW := fun k h => XLW k (SB k h)
 clear SB
 replace E := Ext.refl (Mut [((Value.slice A 0 c).ownBlock)]) w2
 replace HF := HF.and (Per.blkN Bb1 (NotIn.cons Db1_dst NotIn.nil))
 clear Bb1
 refine rs_op rfl (ow_append (news := [.int .u8 45]) Tryz.underlying97 inf5 rfl (by decide) rfl Odst rfl (reads_row (HF.on E).here.2 ((HF.on E).here.2).lt rfl) (by simp [Value.oneCell']) (by unfold maxLen; omega) (by omega) (by exact Nat.le_trans HB (Nat.le_trans LW.size E.size)) ?_)
 intro v0 w4 On En KN
 obtain ⟨Aq3, cq3, rfl⟩ := owns_shape On
 replace KN : ∀ q9, ((Value.slice Aq3 1 cq3).ownBlock) = some q9 → ((Value.slice A 0 c).ownBlock) = some q9 ∨ w2.heap.size ≤ q9 := KN
 have HY : ∀ q9, (Mut [((Value.slice Aq3 1 cq3).ownBlock)]) q9 → (Mut [((Value.slice A 0 c).ownBlock)]) q9 ∨ w2.heap.size ≤ q9 := (Mut.grow Mut.none_ (fun k e => (KN k e).elim (fun e => Or.inl (Mut.head k e)) (fun h => Or.inr (Nat.le_trans E.size h))))
 replace E := E.step1 En Mut.head
 replace HF := HF.turn E HY
 have XT := fun q9 (h : (Mut [((Value.slice Aq3 1 cq3).ownBlock)]) q9) => (HY q9 h).elim (XLW q9) (fun h => Or.inr (Nat.le_trans LW.size h))
 replace LW := LW.step E XLW
 replace XLW := XT
 clear XT
 replace E := Ext.refl (Mut [((Value.slice Aq3 1 cq3).ownBlock)]) w4
 clear HY
 replace Odst : World.ownsRow w4 base 5 1 (.slice Aq3 1 cq3) 1 ([.int .u8 45]) := by
  have e : (([]) : List Value) ++ ([.int .u8 45] : List Value) = [.int .u8 45] := rfl
  rw [← e]
  exact On
 clear On KN En
 refine rs_op rfl (ow_assign rfl ?_)
 refine rs_nil ?_
 refine ew_next ?_
 refine cw_seq ?_
 refine cw_seq ?_
 refine cw_region ?_
 refine rs_op rfl (ow_move rfl ?_)
 refine rs_op rfl (ow_gtr rfl rfl ?_)
 refine rs_nil ?_
 refine ew_next ?_
 refine cw_else rfl ?_
 refine cw_region ?_
 refine rs_op rfl (ow_move rfl ?_)
 refine rs_op rfl (ow_buildSlice (cs := #[.int .u8 48]) Tryz.underlying97 sz5 zr5 (by decide) rfl (by rw [map_range_]; rfl) ?_)
 intro gb5 w6 Bb5 Eb5 Gb5
 have Db5_dst : Apart (some gb5) ((Value.slice Aq3 1 cq3).ownBlock) := Apart.of_lt (owns_lt Odst) Gb5
 have Ddst_b5 := Db5_dst.symm
 have Gb5 : _ ≤ gb5 := Nat.le_trans E.size Gb5
 have GLb5 := Nat.le_trans LW.size Gb5
 replace Odst := owns_extN Odst Eb5 NotIn.nil
 replace E := E.trans Eb5.no
 clear Eb5
 replace HF := HF.cons (some_ge Gb5)
 replace E := E.cons (some gb5)
 replace XLW := Mut.grow XLW (fun k e => Or.inr (Nat.le_trans LW.size ((some_ge Gb5) k e)))
 replace HF := HF.on E
 replace LW := LW.step E XLW
 have SB : ∀ q9, Mut [((Value.slice Aq3 1 cq3).ownBlock)] q9 → Mut [(some gb5), ((Value.slice Aq3 1 cq3).ownBlock)] q9 := (Mut.skip (Mut.keep Mut.nil_))
 replace HF := HF.less SB
 replace XLW := fun k h => XLW k (SB k h)
 clear SB
 replace E := Ext.refl (Mut [((Value.slice Aq3 1 cq3).ownBlock)]) w6
 replace HF := HF.and (Per.blkN Bb5 (NotIn.cons Db5_dst NotIn.nil))
 clear Bb5
 refine rs_op rfl (ow_append (news := [.int .u8 48]) Tryz.underlying97 inf5 rfl (by decide) rfl Odst rfl (reads_row (HF.on E).here.2 ((HF.on E).here.2).lt rfl) (by simp [Value.oneCell']) (by unfold maxLen; omega) (by omega) (by exact Nat.le_trans HB (Nat.le_trans LW.size E.size)) ?_)
 intro v0 w8 On En KN
 obtain ⟨Aq7, cq7, rfl⟩ := owns_shape On
 replace KN : ∀ q9, ((Value.slice Aq7 2 cq7).ownBlock) = some q9 → ((Value.slice Aq3 1 cq3).ownBlock) = some q9 ∨ w6.heap.size ≤ q9 := KN
 have HY : ∀ q9, (Mut [((Value.slice Aq7 2 cq7).ownBlock)]) q9 → (Mut [((Value.slice Aq3 1 cq3).ownBlock)]) q9 ∨ w6.heap.size ≤ q9 := (Mut.grow Mut.none_ (fun k e => (KN k e).elim (fun e => Or.inl (Mut.head k e)) (fun h => Or.inr (Nat.le_trans E.size h))))
 replace E := E.step1 En Mut.head
 replace HF := HF.turn E HY
 have XT := fun q9 (h : (Mut [((Value.slice Aq7 2 cq7).ownBlock)]) q9) => (HY q9 h).elim (XLW q9) (fun h => Or.inr (Nat.le_trans LW.size h))
 replace LW := LW.step E XLW
 replace XLW := XT
 clear XT
 replace E := Ext.refl (Mut [((Value.slice Aq7 2 cq7).ownBlock)]) w8
 clear HY
 replace Odst : World.ownsRow w8 base 5 1 (.slice Aq7 2 cq7) 2 ([.int .u8 45, .int .u8 48]) := by
  have e : (([.int .u8 45]) : List Value) ++ ([.int .u8 48] : List Value) = [.int .u8 45, .int .u8 48] := rfl
  rw [← e]
  exact On
 clear On KN En
 refine rs_op rfl (ow_assign rfl ?_)
 refine rs_nil ?_
 refine ew_next ?_
 refine cw_seq ?_
 refine cw_seq ?_
 refine cw_region ?_
 refine rs_op rfl (ow_move rfl ?_)
 refine rs_op rfl (ow_gtr rfl rfl ?_)
 refine rs_nil ?_
 refine ew_next ?_
 refine cw_else rfl ?_
 refine cw_skip ?_
 refine ew_next ?_
 refine cw_seq ?_
 refine cw_region ?_
 refine rs_op rfl (ow_move rfl ?_)
 refine rs_op rfl (ow_assign rfl ?_)
 refine rs_nil ?_
 refine ew_next ?_
 refine cw_ret ?_
 refine ew_block_ret ?_
 refine ew_then_ret ?_
 refine ew_ret (rs := [.tmp 16]) (vs := [_]) rfl ⟨rfl, trivial⟩ ?_
 exact ⟨_, _, rfl, Odst, (LW.step E XLW), kn_of XLW⟩
theorem ftoa_ze : Calls Tryz.prog 124 #[.slice A 0 c, .float .f64 9223372036854775808, .int .u8 101, .int .i64 (-1)] w (RetRowB w base (Value.slice A 0 c).ownBlock 6 [.int .u8 45, .int .u8 48, .int .u8 101, .int .u8 43, .int .u8 48, .int .u8 48]) := by
 refine calls_cw Tryz.func124 rfl Tryz.ntmps124 rfl ?_
 have Odst : World.ownsRow w base 5 1 (.slice A 0 c) 0 ([]) := ho
 have HF : Per (Mut [((Value.slice A 0 c).ownBlock)]) w (fun _ => True) := Per.true_
 have LW := Ext.refl (Mut [((Value.slice A 0 c).ownBlock)]) w
 have XLW : ∀ q9, (Mut [((Value.slice A 0 c).ownBlock)]) q9 → (Mut [((Value.slice A 0 c).ownBlock)]) q9 ∨ w.heap.size ≤ q9 := fun _ h => Or.inl h
 have E := Ext.refl (Mut [((Value.slice A 0 c).ownBlock)]) w
 refine cw_seq ?_
 refine cw_region ?_
 refine rs_op rfl (ow_assign rfl ?_)
 refine rs_nil ?_
 refine ew_next ?_
 refine cw_seq ?_
 refine cw_region ?_
 refine rs_op rfl (ow_assign rfl ?_)
 refine rs_nil ?_
 refine ew_next ?_
 refine cw_seq ?_
 refine cw_region ?_
 refine rs_op rfl (ow_assign rfl ?_)
 refine rs_op rfl (ow_assign rfl ?_)
 refine rs_op rfl (ow_assign rfl ?_)
 refine rs_nil ?_
 refine ew_next ?_
 refine cw_seq ?_
 refine cw_block ?_
 refine cw_seq ?_
 refine cw_region ?_
 refine rs_op rfl (ow_eql rfl rfl ?_)
 refine rs_op rfl (ow_assign rfl ?_)
 refine rs_nil ?_
 refine ew_next ?_
 refine cw_else rfl ?_
 refine cw_seq ?_
 refine cw_region ?_
 refine rs_op rfl (ow_eql rfl rfl ?_)
 refine rs_op rfl (ow_assign rfl ?_)
 refine rs_nil ?_
 refine ew_next ?_
 refine cw_then rfl ?_
 refine cw_seq ?_
 refine cw_region ?_
 refine rs_op rfl (ow_move rfl ?_)
 refine rs_op rfl (ow_bits ex151 rfl ?_)
 refine rs_op rfl (ow_assign rfl ?_)
 refine rs_nil ?_
 refine ew_next ?_
 refine cw_seq ?_
 refine cw_region ?_
 refine rs_op rfl (ow_assign rfl ?_)
 refine rs_nil ?_
 refine ew_next ?_
 refine cw_seq ?_
 refine cw_region ?_
 refine rs_op rfl (ow_assign rfl ?_)
 refine rs_nil ?_
 refine ew_next ?_
 refine cw_region ?_
 refine rs_op rfl (ow_assign rfl ?_)
 refine rs_nil ?_
 refine ew_block_normal ?_
 refine ew_next ?_
 refine cw_seq ?_
 refine cw_region ?_
 refine rs_op rfl (ow_move rfl ?_)
 refine rs_op rfl (ow_move rfl ?_)
 refine rs_op rfl (ow_move rfl ?_)
 refine rs_op rfl (ow_add (z := 63) rfl rfl (by kernel_rfl) ?_)
 refine rs_op rfl (ow_shr (z := 1) rfl rfl (by decide) (by kernel_rfl) ?_)
 refine rs_op rfl (ow_neq rfl rfl ?_)
 refine rs_op rfl (ow_assign rfl ?_)
 refine rs_nil ?_
 refine ew_next ?_
 refine cw_seq ?_
 have OY : ∀ q9, (Mut (outM [])) q9 → q9 < (World.drew w).heap.size → (Mut [((Value.slice A 0 c).ownBlock)]) q9 := fun k h _ => (Mut.none_) k h
 refine cw_drawn (Mut [((Value.slice A 0 c).ownBlock)]) (Mut.grow Mut.none_ (owns_lt Odst)) [] [] (fxAt [Fx.of (.int .u64 9223372036854775808),
  Fx.of (.int .i64 52),
  Fx.of (.int .u64 2048),
  Fx.of (.int .i64 2048),
  Fx.of (.int .i64 11),
  Fx.of (.int .i64 2048),
  Fx.of (.int .i64 2047),
  Fx.of (.int .i64 0),
  Fx.of (.int .i64 0)]) mixed rfl trivial (fun _ h => by cases h) ?_ ?_
 · refine ⟨?_, ?_, ?_, ?_, ?_, ?_, ?_, ?_, ?_, trivial⟩
   · intro vs X wq K
     have LE := K.1
     have XN := K.2.1
     have SQ := Nat.le_trans LW.size (Nat.le_trans E.size LE.size)
     exact ow_move rfl ⟨Below.refl _ _, Left.of rfl⟩
   · intro vs X wq K
     have LE := K.1
     have XN := K.2.1
     have SQ := Nat.le_trans LW.size (Nat.le_trans E.size LE.size)
     exact ow_move rfl ⟨Below.refl _ _, Left.of rfl⟩
   · intro vs X wq K
     have LE := K.1
     have XN := K.2.1
     have SQ := Nat.le_trans LW.size (Nat.le_trans E.size LE.size)
     obtain ⟨_, e0, k0⟩ := K.dep 0 rfl rfl rfl
     refine ow_set 50 (.int .u64 9223372036854775808) rfl e0 ?_
     obtain ⟨_, e1, k1⟩ := K.dep 1 rfl rfl rfl
     refine ow_set 51 (.int .i64 52) rfl e1 ?_
     exact ow_shr (z := 2048) rfl rfl (by decide) (by kernel_rfl) ⟨Below.refl _ _, Left.of rfl⟩
   · intro vs X wq K
     have LE := K.1
     have XN := K.2.1
     have SQ := Nat.le_trans LW.size (Nat.le_trans E.size LE.size)
     obtain ⟨_, e2, k2⟩ := K.dep 2 rfl rfl rfl
     refine ow_set 52 (.int .u64 2048) rfl e2 ?_
     exact ow_conv (z := 2048) Tryz.underlying3 Tryz.underlying32 rfl (by kernel_rfl) ⟨Below.refl _ _, Left.of rfl⟩
   · intro vs X wq K
     have LE := K.1
     have XN := K.2.1
     have SQ := Nat.le_trans LW.size (Nat.le_trans E.size LE.size)
     exact ow_move rfl ⟨Below.refl _ _, Left.of rfl⟩
   · intro vs X wq K
     have LE := K.1
     have XN := K.2.1
     have SQ := Nat.le_trans LW.size (Nat.le_trans E.size LE.size)
     obtain ⟨_, e4, k4⟩ := K.dep 4 rfl rfl rfl
     refine ow_set 54 (.int .i64 11) rfl e4 ?_
     exact ow_shl (z := 2048) rfl rfl (by decide) (by kernel_rfl) ⟨Below.refl _ _, Left.of rfl⟩
   · intro vs X wq K
     have LE := K.1
     have XN := K.2.1
     have SQ := Nat.le_trans LW.size (Nat.le_trans E.size LE.size)
     obtain ⟨_, e5, k5⟩ := K.dep 5 rfl rfl rfl
     refine ow_set 55 (.int .i64 2048) rfl e5 ?_
     exact ow_sub (z := 2047) rfl rfl (by kernel_rfl) ⟨Below.refl _ _, Left.of rfl⟩
   · intro vs X wq K
     have LE := K.1
     have XN := K.2.1
     have SQ := Nat.le_trans LW.size (Nat.le_trans E.size LE.size)
     obtain ⟨_, e3, k3⟩ := K.dep 3 rfl rfl rfl
     refine ow_set 53 (.int .i64 2048) rfl e3 ?_
     obtain ⟨_, e6, k6⟩ := K.dep 6 rfl rfl rfl
     refine ow_set 56 (.int .i64 2047) rfl e6 ?_
     exact ow_and (z := 0) rfl rfl (by kernel_rfl) ⟨Below.refl _ _, Left.of rfl⟩
   · intro vs X wq K
     have LE := K.1
     have XN := K.2.1
     have SQ := Nat.le_trans LW.size (Nat.le_trans E.size LE.size)
     obtain ⟨_, e7, k7⟩ := K.dep 7 rfl rfl rfl
     refine ow_set 57 (.int .i64 0) rfl e7 ?_
     exact ow_assign rfl ⟨Below.refl _ _, Left.of rfl⟩
 intro vs w1 LE AO AL AF AA
 have LOdst := Odst
 replace Odst := owns_extN (w := World.drew _) Odst LE NotIn.nil
 replace E := E.drew.trans (LE.mono OY)
 obtain ⟨_, e8, k8⟩ := AL.2.2.2.2.2.2.2.2.1
 refine ew_sub (τ := [(0, _), (2, _), (3, _), (8, _), (9, _), (10, _), (11, _), (12, _), (13, _), (14, .int .i64 0)]) ⟨rfl, rfl, rfl, rfl, rfl, rfl, rfl, rfl, rfl, congrArg some e8, trivial⟩ ?_
 clear AL AF AA LE AO OY e8 k8 LOdst
 refine ew_next ?_
 refine cw_seq ?_
 refine cw_region ?_
 refine rs_op rfl (ow_move rfl ?_)
 refine rs_op rfl (ow_move rfl ?_)
 refine rs_op rfl (ow_shl (z := 4503599627370496) rfl rfl (by decide) (by kernel_rfl) ?_)
 refine rs_op rfl (ow_sub (z := 4503599627370495) rfl rfl (by kernel_rfl) ?_)
 refine rs_op rfl (ow_and (z := 0) rfl rfl (by kernel_rfl) ?_)
 refine rs_op rfl (ow_assign rfl ?_)
 refine rs_nil ?_
 refine ew_next ?_
 refine cw_seq ?_
 refine cw_seq ?_
 refine cw_region ?_
 refine rs_op rfl (ow_move rfl ?_)
 refine rs_op rfl (ow_move rfl ?_)
 refine rs_op rfl (ow_shl (z := 2048) rfl rfl (by decide) (by kernel_rfl) ?_)
 refine rs_op rfl (ow_sub (z := 2047) rfl rfl (by kernel_rfl) ?_)
 refine rs_op rfl (ow_eql rfl rfl ?_)
 refine rs_nil ?_
 refine ew_next ?_
 refine cw_else rfl ?_
 refine cw_skip ?_
 refine ew_next ?_
 refine cw_seq ?_
 refine cw_seq ?_
 refine cw_region ?_
 refine rs_op rfl (ow_move rfl ?_)
 refine rs_op rfl (ow_eql rfl rfl ?_)
 refine rs_nil ?_
 refine ew_next ?_
 refine cw_then rfl ?_
 refine cw_region ?_
 refine rs_op rfl (ow_move rfl ?_)
 refine rs_op rfl (ow_add (z := 1) rfl rfl (by kernel_rfl) ?_)
 refine rs_op rfl (ow_assign rfl ?_)
 refine rs_nil ?_
 refine ew_next ?_
 refine cw_seq ?_
 refine cw_region ?_
 refine rs_op rfl (ow_move rfl ?_)
 refine rs_op rfl (ow_move rfl ?_)
 refine rs_op rfl (ow_add (z := (-1022)) rfl rfl (by kernel_rfl) ?_)
 refine rs_op rfl (ow_assign rfl ?_)
 refine rs_nil ?_
 refine ew_next ?_
 refine cw_seq ?_
 refine cw_seq ?_
 refine cw_region ?_
 refine rs_op rfl (ow_move rfl ?_)
 refine rs_op rfl (ow_eql rfl rfl ?_)
 refine rs_nil ?_
 refine ew_next ?_
 refine cw_else rfl ?_
 refine cw_skip ?_
 refine ew_next ?_
 refine cw_seq ?_
 refine cw_seq ?_
 refine cw_region ?_
 refine rs_op rfl (ow_move rfl ?_)
 refine rs_op rfl (ow_eql rfl rfl ?_)
 refine rs_op rfl (ow_move rfl ?_)
 refine rs_op rfl (ow_on rfl (ow_move rfl ?_))
 refine rs_op rfl (ow_on rfl (ow_eql rfl rfl ?_))
 refine rs_op rfl (ow_pickF rfl rfl ?_)
 refine rs_nil ?_
 refine ew_next ?_
 refine cw_else rfl ?_
 refine cw_skip ?_
 refine ew_next ?_
 refine cw_seq ?_
 refine cw_seq ?_
 refine cw_region ?_
 refine rs_op rfl (ow_move rfl ?_)
 refine rs_op rfl (ow_eql rfl rfl ?_)
 refine rs_nil ?_
 refine ew_next ?_
 refine cw_then rfl ?_
 refine cw_seq ?_
 refine cw_region ?_
 refine rs_op rfl (ow_move rfl ?_)
 refine rs_op rfl (ow_move rfl ?_)
 refine rs_op rfl (ow_move rfl ?_)
 refine rs_op rfl (ow_move rfl ?_)
 refine rs_op rfl (ow_move rfl ?_)
 refine rs_op rfl (ow_lss rfl rfl ?_)
 refine rs_op rfl (ow_enter en154 rfl ((efg_ze _ base A c (Nat.le_trans HB (Nat.le_trans LW.size E.size)) Odst).mono ?_))
 rintro e w2 ⟨A1, c1, rfl, On, En, KN⟩
 refine ⟨_, rfl, ?_⟩
 replace KN : ∀ q9, ((Value.slice A1 6 c1).ownBlock) = some q9 → ((Value.slice A 0 c).ownBlock) = some q9 ∨ w1.heap.size ≤ q9 := KN
 have HY : ∀ q9, (Mut [((Value.slice A1 6 c1).ownBlock)]) q9 → (Mut [((Value.slice A 0 c).ownBlock)]) q9 ∨ w.heap.size ≤ q9 := (Mut.grow Mut.none_ (fun k e => (KN k e).elim (fun e => Or.inl (Mut.head k e)) (fun h => Or.inr (Nat.le_trans E.size h))))
 replace E := E.step1 En Mut.head
 replace HF := HF.turn E HY
 have XT := fun q9 (h : (Mut [((Value.slice A1 6 c1).ownBlock)]) q9) => (HY q9 h).elim (XLW q9) (fun h => Or.inr (Nat.le_trans LW.size h))
 replace LW := LW.step E XLW
 replace XLW := XT
 clear XT
 replace E := Ext.refl (Mut [((Value.slice A1 6 c1).ownBlock)]) w2
 clear HY
 replace Odst : World.ownsRow w2 base 5 1 (.slice A1 6 c1) 6 ([.int .u8 45, .int .u8 48, .int .u8 101, .int .u8 43, .int .u8 48, .int .u8 48]) := On
 clear On KN En
 refine rs_op rfl (ow_assign rfl ?_)
 refine rs_nil ?_
 refine ew_next ?_
 refine cw_ret ?_
 refine ew_then_ret ?_
 refine ew_ret (rs := [.tmp 8]) (vs := [_]) rfl ⟨rfl, trivial⟩ ?_
 exact ⟨_, _, rfl, Odst, (LW.step E XLW), kn_of XLW⟩
theorem ftoa_zf : Calls Tryz.prog 124 #[.slice A 0 c, .float .f64 9223372036854775808, .int .u8 102, .int .i64 (-1)] w (RetRowB w base (Value.slice A 0 c).ownBlock 2 [.int .u8 45, .int .u8 48]) := by
 refine calls_cw Tryz.func124 rfl Tryz.ntmps124 rfl ?_
 have Odst : World.ownsRow w base 5 1 (.slice A 0 c) 0 ([]) := ho
 have HF : Per (Mut [((Value.slice A 0 c).ownBlock)]) w (fun _ => True) := Per.true_
 have LW := Ext.refl (Mut [((Value.slice A 0 c).ownBlock)]) w
 have XLW : ∀ q9, (Mut [((Value.slice A 0 c).ownBlock)]) q9 → (Mut [((Value.slice A 0 c).ownBlock)]) q9 ∨ w.heap.size ≤ q9 := fun _ h => Or.inl h
 have E := Ext.refl (Mut [((Value.slice A 0 c).ownBlock)]) w
 refine cw_seq ?_
 refine cw_region ?_
 refine rs_op rfl (ow_assign rfl ?_)
 refine rs_nil ?_
 refine ew_next ?_
 refine cw_seq ?_
 refine cw_region ?_
 refine rs_op rfl (ow_assign rfl ?_)
 refine rs_nil ?_
 refine ew_next ?_
 refine cw_seq ?_
 refine cw_region ?_
 refine rs_op rfl (ow_assign rfl ?_)
 refine rs_op rfl (ow_assign rfl ?_)
 refine rs_op rfl (ow_assign rfl ?_)
 refine rs_nil ?_
 refine ew_next ?_
 refine cw_seq ?_
 refine cw_block ?_
 refine cw_seq ?_
 refine cw_region ?_
 refine rs_op rfl (ow_eql rfl rfl ?_)
 refine rs_op rfl (ow_assign rfl ?_)
 refine rs_nil ?_
 refine ew_next ?_
 refine cw_else rfl ?_
 refine cw_seq ?_
 refine cw_region ?_
 refine rs_op rfl (ow_eql rfl rfl ?_)
 refine rs_op rfl (ow_assign rfl ?_)
 refine rs_nil ?_
 refine ew_next ?_
 refine cw_then rfl ?_
 refine cw_seq ?_
 refine cw_region ?_
 refine rs_op rfl (ow_move rfl ?_)
 refine rs_op rfl (ow_bits ex151 rfl ?_)
 refine rs_op rfl (ow_assign rfl ?_)
 refine rs_nil ?_
 refine ew_next ?_
 refine cw_seq ?_
 refine cw_region ?_
 refine rs_op rfl (ow_assign rfl ?_)
 refine rs_nil ?_
 refine ew_next ?_
 refine cw_seq ?_
 refine cw_region ?_
 refine rs_op rfl (ow_assign rfl ?_)
 refine rs_nil ?_
 refine ew_next ?_
 refine cw_region ?_
 refine rs_op rfl (ow_assign rfl ?_)
 refine rs_nil ?_
 refine ew_block_normal ?_
 refine ew_next ?_
 refine cw_seq ?_
 refine cw_region ?_
 refine rs_op rfl (ow_move rfl ?_)
 refine rs_op rfl (ow_move rfl ?_)
 refine rs_op rfl (ow_move rfl ?_)
 refine rs_op rfl (ow_add (z := 63) rfl rfl (by kernel_rfl) ?_)
 refine rs_op rfl (ow_shr (z := 1) rfl rfl (by decide) (by kernel_rfl) ?_)
 refine rs_op rfl (ow_neq rfl rfl ?_)
 refine rs_op rfl (ow_assign rfl ?_)
 refine rs_nil ?_
 refine ew_next ?_
 refine cw_seq ?_
 have OY : ∀ q9, (Mut (outM [])) q9 → q9 < (World.drew w).heap.size → (Mut [((Value.slice A 0 c).ownBlock)]) q9 := fun k h _ => (Mut.none_) k h
 refine cw_drawn (Mut [((Value.slice A 0 c).ownBlock)]) (Mut.grow Mut.none_ (owns_lt Odst)) [] [] (fxAt [Fx.of (.int .u64 9223372036854775808),
  Fx.of (.int .i64 52),
  Fx.of (.int .u64 2048),
  Fx.of (.int .i64 2048),
  Fx.of (.int .i64 11),
  Fx.of (.int .i64 2048),
  Fx.of (.int .i64 2047),
  Fx.of (.int .i64 0),
  Fx.of (.int .i64 0)]) mixed rfl trivial (fun _ h => by cases h) ?_ ?_
 · refine ⟨?_, ?_, ?_, ?_, ?_, ?_, ?_, ?_, ?_, trivial⟩
   · intro vs X wq K
     have LE := K.1
     have XN := K.2.1
     have SQ := Nat.le_trans LW.size (Nat.le_trans E.size LE.size)
     exact ow_move rfl ⟨Below.refl _ _, Left.of rfl⟩
   · intro vs X wq K
     have LE := K.1
     have XN := K.2.1
     have SQ := Nat.le_trans LW.size (Nat.le_trans E.size LE.size)
     exact ow_move rfl ⟨Below.refl _ _, Left.of rfl⟩
   · intro vs X wq K
     have LE := K.1
     have XN := K.2.1
     have SQ := Nat.le_trans LW.size (Nat.le_trans E.size LE.size)
     obtain ⟨_, e0, k0⟩ := K.dep 0 rfl rfl rfl
     refine ow_set 50 (.int .u64 9223372036854775808) rfl e0 ?_
     obtain ⟨_, e1, k1⟩ := K.dep 1 rfl rfl rfl
     refine ow_set 51 (.int .i64 52) rfl e1 ?_
     exact ow_shr (z := 2048) rfl rfl (by decide) (by kernel_rfl) ⟨Below.refl _ _, Left.of rfl⟩
   · intro vs X wq K
     have LE := K.1
     have XN := K.2.1
     have SQ := Nat.le_trans LW.size (Nat.le_trans E.size LE.size)
     obtain ⟨_, e2, k2⟩ := K.dep 2 rfl rfl rfl
     refine ow_set 52 (.int .u64 2048) rfl e2 ?_
     exact ow_conv (z := 2048) Tryz.underlying3 Tryz.underlying32 rfl (by kernel_rfl) ⟨Below.refl _ _, Left.of rfl⟩
   · intro vs X wq K
     have LE := K.1
     have XN := K.2.1
     have SQ := Nat.le_trans LW.size (Nat.le_trans E.size LE.size)
     exact ow_move rfl ⟨Below.refl _ _, Left.of rfl⟩
   · intro vs X wq K
     have LE := K.1
     have XN := K.2.1
     have SQ := Nat.le_trans LW.size (Nat.le_trans E.size LE.size)
     obtain ⟨_, e4, k4⟩ := K.dep 4 rfl rfl rfl
     refine ow_set 54 (.int .i64 11) rfl e4 ?_
     exact ow_shl (z := 2048) rfl rfl (by decide) (by kernel_rfl) ⟨Below.refl _ _, Left.of rfl⟩
   · intro vs X wq K
     have LE := K.1
     have XN := K.2.1
     have SQ := Nat.le_trans LW.size (Nat.le_trans E.size LE.size)
     obtain ⟨_, e5, k5⟩ := K.dep 5 rfl rfl rfl
     refine ow_set 55 (.int .i64 2048) rfl e5 ?_
     exact ow_sub (z := 2047) rfl rfl (by kernel_rfl) ⟨Below.refl _ _, Left.of rfl⟩
   · intro vs X wq K
     have LE := K.1
     have XN := K.2.1
     have SQ := Nat.le_trans LW.size (Nat.le_trans E.size LE.size)
     obtain ⟨_, e3, k3⟩ := K.dep 3 rfl rfl rfl
     refine ow_set 53 (.int .i64 2048) rfl e3 ?_
     obtain ⟨_, e6, k6⟩ := K.dep 6 rfl rfl rfl
     refine ow_set 56 (.int .i64 2047) rfl e6 ?_
     exact ow_and (z := 0) rfl rfl (by kernel_rfl) ⟨Below.refl _ _, Left.of rfl⟩
   · intro vs X wq K
     have LE := K.1
     have XN := K.2.1
     have SQ := Nat.le_trans LW.size (Nat.le_trans E.size LE.size)
     obtain ⟨_, e7, k7⟩ := K.dep 7 rfl rfl rfl
     refine ow_set 57 (.int .i64 0) rfl e7 ?_
     exact ow_assign rfl ⟨Below.refl _ _, Left.of rfl⟩
 intro vs w1 LE AO AL AF AA
 have LOdst := Odst
 replace Odst := owns_extN (w := World.drew _) Odst LE NotIn.nil
 replace E := E.drew.trans (LE.mono OY)
 obtain ⟨_, e8, k8⟩ := AL.2.2.2.2.2.2.2.2.1
 refine ew_sub (τ := [(0, _), (2, _), (3, _), (8, _), (9, _), (10, _), (11, _), (12, _), (13, _), (14, .int .i64 0)]) ⟨rfl, rfl, rfl, rfl, rfl, rfl, rfl, rfl, rfl, congrArg some e8, trivial⟩ ?_
 clear AL AF AA LE AO OY e8 k8 LOdst
 refine ew_next ?_
 refine cw_seq ?_
 refine cw_region ?_
 refine rs_op rfl (ow_move rfl ?_)
 refine rs_op rfl (ow_move rfl ?_)
 refine rs_op rfl (ow_shl (z := 4503599627370496) rfl rfl (by decide) (by kernel_rfl) ?_)
 refine rs_op rfl (ow_sub (z := 4503599627370495) rfl rfl (by kernel_rfl) ?_)
 refine rs_op rfl (ow_and (z := 0) rfl rfl (by kernel_rfl) ?_)
 refine rs_op rfl (ow_assign rfl ?_)
 refine rs_nil ?_
 refine ew_next ?_
 refine cw_seq ?_
 refine cw_seq ?_
 refine cw_region ?_
 refine rs_op rfl (ow_move rfl ?_)
 refine rs_op rfl (ow_move rfl ?_)
 refine rs_op rfl (ow_shl (z := 2048) rfl rfl (by decide) (by kernel_rfl) ?_)
 refine rs_op rfl (ow_sub (z := 2047) rfl rfl (by kernel_rfl) ?_)
 refine rs_op rfl (ow_eql rfl rfl ?_)
 refine rs_nil ?_
 refine ew_next ?_
 refine cw_else rfl ?_
 refine cw_skip ?_
 refine ew_next ?_
 refine cw_seq ?_
 refine cw_seq ?_
 refine cw_region ?_
 refine rs_op rfl (ow_move rfl ?_)
 refine rs_op rfl (ow_eql rfl rfl ?_)
 refine rs_nil ?_
 refine ew_next ?_
 refine cw_then rfl ?_
 refine cw_region ?_
 refine rs_op rfl (ow_move rfl ?_)
 refine rs_op rfl (ow_add (z := 1) rfl rfl (by kernel_rfl) ?_)
 refine rs_op rfl (ow_assign rfl ?_)
 refine rs_nil ?_
 refine ew_next ?_
 refine cw_seq ?_
 refine cw_region ?_
 refine rs_op rfl (ow_move rfl ?_)
 refine rs_op rfl (ow_move rfl ?_)
 refine rs_op rfl (ow_add (z := (-1022)) rfl rfl (by kernel_rfl) ?_)
 refine rs_op rfl (ow_assign rfl ?_)
 refine rs_nil ?_
 refine ew_next ?_
 refine cw_seq ?_
 refine cw_seq ?_
 refine cw_region ?_
 refine rs_op rfl (ow_move rfl ?_)
 refine rs_op rfl (ow_eql rfl rfl ?_)
 refine rs_nil ?_
 refine ew_next ?_
 refine cw_else rfl ?_
 refine cw_skip ?_
 refine ew_next ?_
 refine cw_seq ?_
 refine cw_seq ?_
 refine cw_region ?_
 refine rs_op rfl (ow_move rfl ?_)
 refine rs_op rfl (ow_eql rfl rfl ?_)
 refine rs_op rfl (ow_move rfl ?_)
 refine rs_op rfl (ow_on rfl (ow_move rfl ?_))
 refine rs_op rfl (ow_on rfl (ow_eql rfl rfl ?_))
 refine rs_op rfl (ow_pickF rfl rfl ?_)
 refine rs_nil ?_
 refine ew_next ?_
 refine cw_else rfl ?_
 refine cw_skip ?_
 refine ew_next ?_
 refine cw_seq ?_
 refine cw_seq ?_
 refine cw_region ?_
 refine rs_op rfl (ow_move rfl ?_)
 refine rs_op rfl (ow_eql rfl rfl ?_)
 refine rs_nil ?_
 refine ew_next ?_
 refine cw_then rfl ?_
 refine cw_seq ?_
 refine cw_region ?_
 refine rs_op rfl (ow_move rfl ?_)
 refine rs_op rfl (ow_move rfl ?_)
 refine rs_op rfl (ow_move rfl ?_)
 refine rs_op rfl (ow_move rfl ?_)
 refine rs_op rfl (ow_move rfl ?_)
 refine rs_op rfl (ow_lss rfl rfl ?_)
 refine rs_op rfl (ow_enter en154 rfl ((efg_zf _ base A c (Nat.le_trans HB (Nat.le_trans LW.size E.size)) Odst).mono ?_))
 rintro e w2 ⟨A1, c1, rfl, On, En, KN⟩
 refine ⟨_, rfl, ?_⟩
 replace KN : ∀ q9, ((Value.slice A1 2 c1).ownBlock) = some q9 → ((Value.slice A 0 c).ownBlock) = some q9 ∨ w1.heap.size ≤ q9 := KN
 have HY : ∀ q9, (Mut [((Value.slice A1 2 c1).ownBlock)]) q9 → (Mut [((Value.slice A 0 c).ownBlock)]) q9 ∨ w.heap.size ≤ q9 := (Mut.grow Mut.none_ (fun k e => (KN k e).elim (fun e => Or.inl (Mut.head k e)) (fun h => Or.inr (Nat.le_trans E.size h))))
 replace E := E.step1 En Mut.head
 replace HF := HF.turn E HY
 have XT := fun q9 (h : (Mut [((Value.slice A1 2 c1).ownBlock)]) q9) => (HY q9 h).elim (XLW q9) (fun h => Or.inr (Nat.le_trans LW.size h))
 replace LW := LW.step E XLW
 replace XLW := XT
 clear XT
 replace E := Ext.refl (Mut [((Value.slice A1 2 c1).ownBlock)]) w2
 clear HY
 replace Odst : World.ownsRow w2 base 5 1 (.slice A1 2 c1) 2 ([.int .u8 45, .int .u8 48]) := On
 clear On KN En
 refine rs_op rfl (ow_assign rfl ?_)
 refine rs_nil ?_
 refine ew_next ?_
 refine cw_ret ?_
 refine ew_then_ret ?_
 refine ew_ret (rs := [.tmp 8]) (vs := [_]) rfl ⟨rfl, trivial⟩ ?_
 exact ⟨_, _, rfl, Odst, (LW.step E XLW), kn_of XLW⟩
end
theorem ct69_4 : Gives 69 #[.float .f64 9223372036854775808] (.float .f64 0) := by
 intro w
 refine calls_cw Tryz.func69 rfl Tryz.ntmps69 rfl ?_
 have HF : Per (No) w (fun _ => True) := Per.true_
 have LW := Ext.refl (No) w
 have XLW : ∀ q9, (No) q9 → (No) q9 ∨ w.heap.size ≤ q9 := fun _ h => Or.inl h
 have E := Ext.refl (No) w
 refine cw_seq ?_
 refine cw_region ?_
 refine rs_op rfl (ow_assign rfl ?_)
 refine rs_nil ?_
 refine ew_next ?_
 refine cw_seq ?_
 refine cw_region ?_
 refine rs_op rfl (ow_move rfl ?_)
 refine rs_op rfl (ow_bits ex46 rfl ?_)
 refine rs_op rfl (ow_andNot (z := 0) rfl rfl (by kernel_rfl) ?_)
 refine rs_op rfl (ow_frombits (b := 0) ex48 rfl ?_)
 refine rs_op rfl (ow_assign rfl ?_)
 refine rs_nil ?_
 refine ew_next ?_
 refine cw_ret ?_
 refine ew_ret (rs := [.tmp 2]) (vs := [.float .f64 0]) rfl ⟨rfl, trivial⟩ ?_
 exact ⟨rfl, (LW.step E XLW).toBelow⟩
theorem ct49_4 : Gives 49 #[.float .f64 9223372036854775808, .int .i64 0] (.bool false) := by
 intro w
 refine calls_cw Tryz.func49 rfl Tryz.ntmps49 rfl ?_
 have HF : Per (No) w (fun _ => True) := Per.true_
 have LW := Ext.refl (No) w
 have XLW : ∀ q9, (No) q9 → (No) q9 ∨ w.heap.size ≤ q9 := fun _ h => Or.inl h
 have E := Ext.refl (No) w
 refine cw_seq ?_
 refine cw_region ?_
 refine rs_op rfl (ow_assign rfl ?_)
 refine rs_nil ?_
 refine ew_next ?_
 refine cw_seq ?_
 refine cw_seq ?_
 refine cw_region ?_
 refine rs_op rfl (ow_move rfl ?_)
 refine rs_op rfl (ow_eql rfl rfl ?_)
 refine rs_nil ?_
 refine ew_next ?_
 refine cw_then rfl ?_
 refine cw_region ?_
 refine rs_op rfl (ow_move rfl ?_)
 refine rs_op rfl (ow_enter en69 rfl ((ct69_4 _).mono ?_))
 rintro e w1 ⟨rfl, hb⟩
 refine ⟨_, rfl, ?_⟩
 have Ec := Ext.of_below hb No
 replace E := E.trans Ec.no
 clear hb Ec
 refine rs_op rfl (ow_assign rfl ?_)
 refine rs_nil ?_
 refine ew_next ?_
 refine cw_seq ?_
 refine cw_region ?_
 refine rs_op rfl (ow_move rfl ?_)
 refine rs_op rfl (ow_fgtr rfl rfl ?_)
 refine rs_set 14 (.bool false) rfl (by kernel_rfl : (.bool (ford 0 9218868437227405311 == some .gt) : Value) = _) ?_
 refine rs_op rfl (ow_assign rfl ?_)
 refine rs_nil ?_
 refine ew_next ?_
 refine cw_ret ?_
 refine ew_ret (rs := [.tmp 4]) (vs := [.bool false]) rfl ⟨rfl, trivial⟩ ?_
 exact ⟨rfl, (LW.step E XLW).toBelow⟩
theorem ct90_7 : Gives 90 #[.string ⟨#[45, 48, 101, 43, 48, 48]⟩, .int .u8 101] (.int .i64 2) := by
 intro w
 refine calls_cw Tryz.func90 rfl Tryz.ntmps90 rfl ?_
 have HF : Per (No) w (fun _ => True) := Per.true_
 have LW := Ext.refl (No) w
 have XLW : ∀ q9, (No) q9 → (No) q9 ∨ w.heap.size ≤ q9 := fun _ h => Or.inl h
 have E := Ext.refl (No) w
 refine cw_seq ?_
 refine cw_region ?_
 refine rs_op rfl (ow_assign rfl ?_)
 refine rs_nil ?_
 refine ew_next ?_
 refine cw_seq ?_
 refine cw_region ?_
 refine rs_op rfl (ow_move rfl ?_)
 refine rs_op rfl (ow_move rfl ?_)
 refine rs_op rfl (ow_ext ex125 rfl (run_indexByte_string _ _ _) ?_)
 refine rs_set 7 (.int .i64 2) rfl (by kernel_rfl : (.int .i64 (firstIdx ⟨#[45, 48, 101, 43, 48, 48]⟩ (101 : Int).toNat.toUInt8) : Value) = _) ?_
 refine rs_op rfl (ow_assign rfl ?_)
 refine rs_nil ?_
 refine ew_next ?_
 refine cw_ret ?_
 refine ew_ret (rs := [.tmp 4]) (vs := [.int .i64 2]) rfl ⟨rfl, trivial⟩ ?_
 exact ⟨rfl, (LW.step E XLW).toBelow⟩
theorem ct51_7 : Gives 51 #[.string ⟨#[45, 48, 101, 43, 48, 48]⟩, .int .u8 101] (.int .i64 2) := by
 intro w
 refine calls_cw Tryz.func51 rfl Tryz.ntmps51 rfl ?_
 have HF : Per (No) w (fun _ => True) := Per.true_
 have LW := Ext.refl (No) w
 have XLW : ∀ q9, (No) q9 → (No) q9 ∨ w.heap.size ≤ q9 := fun _ h => Or.inl h
 have E := Ext.refl (No) w
 refine cw_seq ?_
 refine cw_region ?_
 refine rs_op rfl (ow_assign rfl ?_)
 refine rs_nil ?_
 refine ew_next ?_
 refine cw_seq ?_
 refine cw_region ?_
 refine rs_op rfl (ow_move rfl ?_)
 refine rs_op rfl (ow_move rfl ?_)
 refine rs_op rfl (ow_enter en90 rfl ((ct90_7 _).mono ?_))
 rintro e w1 ⟨rfl, hb⟩
 refine ⟨_, rfl, ?_⟩
 have Ec := Ext.of_below hb No
 replace E := E.trans Ec.no
 clear hb Ec
 refine rs_op rfl (ow_assign rfl ?_)
 refine rs_nil ?_
 refine ew_next ?_
 refine cw_ret ?_
 refine ew_ret (rs := [.tmp 4]) (vs := [.int .i64 2]) rfl ⟨rfl, trivial⟩ ?_
 exact ⟨rfl, (LW.step E XLW).toBelow⟩
theorem ct91_9 : Gives 91 #[.string ⟨#[43, 48, 48]⟩] (.tuple #[.int .i64 0, .nilIface]) := by
 intro w
 refine calls_cw Tryz.func91 rfl Tryz.ntmps91 rfl ?_
 have HF : Per (No) w (fun _ => True) := Per.true_
 have LW := Ext.refl (No) w
 have XLW : ∀ q9, (No) q9 → (No) q9 ∨ w.heap.size ≤ q9 := fun _ h => Or.inl h
 have E := Ext.refl (No) w
 refine cw_seq ?_
 refine cw_region ?_
 refine rs_op rfl (ow_assign rfl ?_)
 refine rs_op rfl (ow_assign rfl ?_)
 refine rs_nil ?_
 refine ew_next ?_
 refine cw_seq ?_
 refine cw_region ?_
 refine rs_op rfl (ow_move rfl ?_)
 refine rs_op rfl (ow_lenS Tryz.underlying9 rfl ?_)
 refine rs_op rfl (ow_assign rfl ?_)
 refine rs_nil ?_
 refine ew_next ?_
 refine cw_seq ?_
 refine cw_seq ?_
 refine cw_region ?_
 refine rs_op rfl (ow_move rfl ?_)
 refine rs_op rfl (ow_off rfl ?_)
 refine rs_op rfl (ow_off rfl ?_)
 refine rs_op rfl (ow_off rfl ?_)
 refine rs_op rfl (ow_offU rfl rfl ?_)
 refine rs_op rfl (ow_offU rfl rfl ?_)
 refine rs_op rfl (ow_off rfl ?_)
 refine rs_op rfl (ow_pickF rfl rfl ?_)
 refine rs_op rfl (ow_move rfl ?_)
 refine rs_op rfl (ow_on rfl (ow_move rfl ?_))
 refine rs_op rfl (ow_on rfl (ow_move rfl ?_))
 refine rs_op rfl (ow_on rfl (ow_lss rfl rfl ?_))
 refine rs_op rfl (ow_on rfl (ow_move rfl ?_))
 refine rs_op rfl (ow_on rfl (ow_move rfl ?_))
 refine rs_op rfl (ow_on rfl (ow_lss rfl rfl ?_))
 refine rs_op rfl (ow_on rfl (ow_pickT rfl rfl ?_))
 refine rs_op rfl (ow_on rfl (ow_pickT rfl rfl ?_))
 refine rs_op rfl (ow_pickF rfl rfl ?_)
 refine rs_nil ?_
 refine ew_next ?_
 refine cw_then rfl ?_
 refine cw_seq ?_
 refine cw_region ?_
 refine rs_op rfl (ow_move rfl ?_)
 refine rs_op rfl (ow_assign rfl ?_)
 refine rs_nil ?_
 refine ew_next ?_
 refine cw_seq ?_
 refine cw_seq ?_
 refine cw_region ?_
 refine rs_op rfl (ow_move rfl ?_)
 refine rs_op rfl (ow_indexSL (j := 0) (b := 43) Tryz.underlying9 rfl rfl rfl (by kernel_rfl) ?_)
 refine rs_op rfl (ow_eql rfl rfl ?_)
 refine rs_op rfl (ow_move rfl ?_)
 refine rs_op rfl (ow_on rfl (ow_move rfl ?_))
 refine rs_op rfl (ow_on rfl (ow_indexSL (j := 0) (b := 43) Tryz.underlying9 rfl rfl rfl (by kernel_rfl) ?_))
 refine rs_op rfl (ow_on rfl (ow_eql rfl rfl ?_))
 refine rs_op rfl (ow_pickF rfl rfl ?_)
 refine rs_nil ?_
 refine ew_next ?_
 refine cw_then rfl ?_
 refine cw_seq ?_
 refine cw_region ?_
 refine rs_op rfl (ow_move rfl ?_)
 refine rs_op rfl (ow_sliceS (l := 1) (h := 3) Tryz.underlying9 rfl ⟨_, rfl⟩ rfl (by decide) (by decide) ?_)
 refine rs_set 41 (.string ⟨#[48, 48]⟩) rfl (by kernel_rfl : (.string ((⟨#[43, 48, 48]⟩ : ByteArray).extract 1 3) : Value) = _) ?_
 refine rs_op rfl (ow_assign rfl ?_)
 refine rs_nil ?_
 refine ew_next ?_
 refine cw_seq ?_
 refine cw_region ?_
 refine rs_op rfl (ow_move rfl ?_)
 refine rs_op rfl (ow_lenS Tryz.underlying9 rfl ?_)
 refine rs_op rfl (ow_lss rfl rfl ?_)
 refine rs_nil ?_
 refine ew_next ?_
 refine cw_else rfl ?_
 refine cw_skip ?_
 refine ew_next ?_
 refine cw_seq ?_
 refine cw_region ?_
 refine rs_op rfl (ow_assign rfl ?_)
 refine rs_nil ?_
 refine ew_next ?_
 refine cw_seq ?_
 refine cw_seq ?_
 refine cw_region ?_
 refine rs_op rfl (ow_move rfl ?_)
 refine rs_op rfl (ow_strBytes (n := 2) (xs := [.int .u8 48, .int .u8 48]) Tryz.underlying9 Tryz.underlying97 Tryz.underlying5 rfl rfl rfl ?_)
 intro gb1 cb1 w2 Rb1 Eb1 Gb1
 replace E := E.trans Eb1.no
 clear Eb1
 replace HF := HF.on E
 replace LW := LW.step E XLW
 replace E := Ext.refl (No) w2
 replace HF := HF.and (Per.rowL Rb1)
 refine rs_op rfl (ow_len Tryz.underlying97 rfl ?_)
 refine rs_set 48 (.int .i64 2) rfl (by kernel_rfl : (.int .i64 (2 : Nat) : Value) = _) ?_
 refine rs_op rfl (ow_move rfl ?_)
 refine rs_nil ?_
 refine ew_next ?_
 refine cw_block ?_
 refine cw_unroll ?_
 refine cw_seq ?_
 refine cw_region ?_
 refine rs_op rfl (ow_lss rfl rfl ?_)
 refine rs_nil ?_
 refine ew_next ?_
 refine cw_seq ?_
 refine cw_then rfl ?_
 refine cw_skip ?_
 refine ew_next ?_
 refine cw_seq ?_
 refine cw_block ?_
 refine cw_seq ?_
 refine cw_region ?_
 refine rs_op rfl (ow_indexAddr1 (j := 0) Tryz.underlying97 sz5 rfl rfl rfl (by decide) ?_)
 refine rs_op rfl (ow_load1 Tryz.underlying5 rfl rfl ((HF.on E).here.2 0 _ rfl) ?_)
 refine rs_op rfl (ow_assign rfl ?_)
 refine rs_nil ?_
 refine ew_next ?_
 refine cw_seq ?_
 refine cw_region ?_
 refine rs_op rfl (ow_move rfl ?_)
 refine rs_op rfl (ow_sub (z := 0) rfl rfl (by kernel_rfl) ?_)
 refine rs_op rfl (ow_assign rfl ?_)
 refine rs_nil ?_
 refine ew_next ?_
 refine cw_seq ?_
 refine cw_seq ?_
 refine cw_region ?_
 refine rs_op rfl (ow_move rfl ?_)
 refine rs_op rfl (ow_gtr rfl rfl ?_)
 refine rs_nil ?_
 refine ew_next ?_
 refine cw_else rfl ?_
 refine cw_skip ?_
 refine ew_next ?_
 refine cw_region ?_
 refine rs_op rfl (ow_move rfl ?_)
 refine rs_op rfl (ow_mul (z := 0) rfl rfl (by kernel_rfl) ?_)
 refine rs_op rfl (ow_move rfl ?_)
 refine rs_op rfl (ow_conv (z := 0) Tryz.underlying3 Tryz.underlying5 rfl (by kernel_rfl) ?_)
 refine rs_op rfl (ow_add (z := 0) rfl rfl (by kernel_rfl) ?_)
 refine rs_op rfl (ow_assign rfl ?_)
 refine rs_nil ?_
 refine ew_block_normal ?_
 refine ew_next ?_
 refine cw_region ?_
 refine rs_op rfl (ow_add (z := 1) rfl rfl (by kernel_rfl) ?_)
 refine rs_op rfl (ow_move rfl ?_)
 refine rs_nil ?_
 refine ew_again ?_
 refine cw_seq ?_
 refine cw_region ?_
 refine rs_op rfl (ow_lss rfl rfl ?_)
 refine rs_nil ?_
 refine ew_next ?_
 refine cw_seq ?_
 refine cw_then rfl ?_
 refine cw_skip ?_
 refine ew_next ?_
 refine cw_seq ?_
 refine cw_block ?_
 refine cw_seq ?_
 refine cw_region ?_
 refine rs_op rfl (ow_indexAddr1 (j := 1) Tryz.underlying97 sz5 rfl rfl rfl (by decide) ?_)
 refine rs_op rfl (ow_load1 Tryz.underlying5 rfl rfl ((HF.on E).here.2 1 _ rfl) ?_)
 refine rs_op rfl (ow_assign rfl ?_)
 refine rs_nil ?_
 refine ew_next ?_
 refine cw_seq ?_
 refine cw_region ?_
 refine rs_op rfl (ow_move rfl ?_)
 refine rs_op rfl (ow_sub (z := 0) rfl rfl (by kernel_rfl) ?_)
 refine rs_op rfl (ow_assign rfl ?_)
 refine rs_nil ?_
 refine ew_next ?_
 refine cw_seq ?_
 refine cw_seq ?_
 refine cw_region ?_
 refine rs_op rfl (ow_move rfl ?_)
 refine rs_op rfl (ow_gtr rfl rfl ?_)
 refine rs_nil ?_
 refine ew_next ?_
 refine cw_else rfl ?_
 refine cw_skip ?_
 refine ew_next ?_
 refine cw_region ?_
 refine rs_op rfl (ow_move rfl ?_)
 refine rs_op rfl (ow_mul (z := 0) rfl rfl (by kernel_rfl) ?_)
 refine rs_op rfl (ow_move rfl ?_)
 refine rs_op rfl (ow_conv (z := 0) Tryz.underlying3 Tryz.underlying5 rfl (by kernel_rfl) ?_)
 refine rs_op rfl (ow_add (z := 0) rfl rfl (by kernel_rfl) ?_)
 refine rs_op rfl (ow_assign rfl ?_)
 refine rs_nil ?_
 refine ew_block_normal ?_
 refine ew_next ?_
 refine cw_region ?_
 refine rs_op rfl (ow_add (z := 2) rfl rfl (by kernel_rfl) ?_)
 refine rs_op rfl (ow_move rfl ?_)
 refine rs_nil ?_
 refine ew_again ?_
 refine cw_seq ?_
 refine cw_region ?_
 refine rs_op rfl (ow_lss rfl rfl ?_)
 refine rs_nil ?_
 refine ew_next ?_
 refine cw_seq ?_
 refine cw_else rfl ?_
 refine cw_exit ?_
 refine ew_then_exit ?_
 refine ew_then_exit ?_
 refine ew_block_here ?_
 refine ew_next ?_
 refine cw_seq ?_
 refine cw_seq ?_
 refine cw_region ?_
 refine rs_op rfl (ow_move rfl ?_)
 refine rs_op rfl (ow_indexSL (j := 0) (b := 43) Tryz.underlying9 rfl rfl rfl (by kernel_rfl) ?_)
 refine rs_op rfl (ow_eql rfl rfl ?_)
 refine rs_nil ?_
 refine ew_next ?_
 refine cw_else rfl ?_
 refine cw_skip ?_
 refine ew_next ?_
 refine cw_seq ?_
 refine cw_region ?_
 refine rs_op rfl (ow_move rfl ?_)
 refine rs_op rfl (ow_assign rfl ?_)
 refine rs_op rfl (ow_assign rfl ?_)
 refine rs_nil ?_
 refine ew_next ?_
 refine cw_ret ?_
 refine ew_then_ret ?_
 refine ew_ret (rs := [.tmp 2, .tmp 3]) (vs := [.int .i64 0, .nilIface]) rfl ⟨rfl, rfl, trivial⟩ ?_
 exact ⟨rfl, (LW.step E XLW).toBelow⟩
theorem ct52_9 : Gives 52 #[.string ⟨#[43, 48, 48]⟩] (.tuple #[.int .i64 0, .nilIface]) := by
 intro w
 refine calls_cw Tryz.func52 rfl Tryz.ntmps52 rfl ?_
 have HF : Per (No) w (fun _ => True) := Per.true_
 have LW := Ext.refl (No) w
 have XLW : ∀ q9, (No) q9 → (No) q9 ∨ w.heap.size ≤ q9 := fun _ h => Or.inl h
 have E := Ext.refl (No) w
 refine cw_seq ?_
 refine cw_region ?_
 refine rs_op rfl (ow_assign rfl ?_)
 refine rs_op rfl (ow_assign rfl ?_)
 refine rs_nil ?_
 refine ew_next ?_
 refine cw_seq ?_
 refine cw_region ?_
 refine rs_op rfl (ow_move rfl ?_)
 refine rs_op rfl (ow_enter en91 rfl ((ct91_9 _).mono ?_))
 rintro e w1 ⟨rfl, hb⟩
 refine ⟨_, rfl, ?_⟩
 have Ec := Ext.of_below hb No
 replace E := E.trans Ec.no
 clear hb Ec
 refine rs_op rfl (ow_move rfl ?_)
 refine rs_op rfl (ow_extract rfl rfl ?_)
 refine rs_op rfl (ow_extract rfl rfl ?_)
 refine rs_op rfl (ow_assign rfl ?_)
 refine rs_op rfl (ow_assign rfl ?_)
 refine rs_nil ?_
 refine ew_next ?_
 refine cw_seq ?_
 refine cw_seq ?_
 refine cw_region ?_
 refine rs_op rfl (ow_move rfl ?_)
 refine rs_op rfl (ow_neqN Tryz.underlying81 rfl ?_)
 refine rs_nil ?_
 refine ew_next ?_
 refine cw_else rfl ?_
 refine cw_skip ?_
 refine ew_next ?_
 refine cw_seq ?_
 refine cw_region ?_
 refine rs_op rfl (ow_move rfl ?_)
 refine rs_op rfl (ow_assign rfl ?_)
 refine rs_op rfl (ow_assign rfl ?_)
 refine rs_nil ?_
 refine ew_next ?_
 refine cw_ret ?_
 refine ew_ret (rs := [.tmp 2, .tmp 3]) (vs := [.int .i64 0, .nilIface]) rfl ⟨rfl, rfl, trivial⟩ ?_
 exact ⟨rfl, (LW.step E XLW).toBelow⟩
theorem ct90_14 : Gives 90 #[.string ⟨#[45, 48]⟩, .int .u8 46] (.int .i64 (-1)) := by
 intro w
 refine calls_cw Tryz.func90 rfl Tryz.ntmps90 rfl ?_
 have HF : Per (No) w (fun _ => True) := Per.true_
 have LW := Ext.refl (No) w
 have XLW : ∀ q9, (No) q9 → (No) q9 ∨ w.heap.size ≤ q9 := fun _ h => Or.inl h
 have E := Ext.refl (No) w
 refine cw_seq ?_
 refine cw_region ?_
 refine rs_op rfl (ow_assign rfl ?_)
 refine rs_nil ?_
 refine ew_next ?_
 refine cw_seq ?_
 refine cw_region ?_
 refine rs_op rfl (ow_move rfl ?_)
 refine rs_op rfl (ow_move rfl ?_)
 refine rs_op rfl (ow_ext ex125 rfl (run_indexByte_string _ _ _) ?_)
 refine rs_set 7 (.int .i64 (-1)) rfl (by kernel_rfl : (.int .i64 (firstIdx ⟨#[45, 48]⟩ (46 : Int).toNat.toUInt8) : Value) = _) ?_
 refine rs_op rfl (ow_assign rfl ?_)
 refine rs_nil ?_
 refine ew_next ?_
 refine cw_ret ?_
 refine ew_ret (rs := [.tmp 4]) (vs := [.int .i64 (-1)]) rfl ⟨rfl, trivial⟩ ?_
 exact ⟨rfl, (LW.step E XLW).toBelow⟩
theorem ct127_14 : Gives 127 #[.string ⟨#[45, 48]⟩, .string ⟨#[46]⟩] (.int .i64 (-1)) := by
 intro w
 refine calls_cw Tryz.func127 rfl Tryz.ntmps127 rfl ?_
 have HF : Per (No) w (fun _ => True) := Per.true_
 have LW := Ext.refl (No) w
 have XLW : ∀ q9, (No) q9 → (No) q9 ∨ w.heap.size ≤ q9 := fun _ h => Or.inl h
 have E := Ext.refl (No) w
 refine cw_seq ?_
 refine cw_region ?_
 refine rs_op rfl (ow_assign rfl ?_)
 refine rs_nil ?_
 refine ew_next ?_
 refine cw_seq ?_
 refine cw_region ?_
 refine rs_op rfl (ow_move rfl ?_)
 refine rs_op rfl (ow_lenS Tryz.underlying9 rfl ?_)
 refine rs_op rfl (ow_assign rfl ?_)
 refine rs_nil ?_
 refine ew_next ?_
 refine cw_seq ?_
 refine cw_block ?_
 refine cw_seq ?_
 refine cw_region ?_
 refine rs_op rfl (ow_move rfl ?_)
 refine rs_op rfl (ow_eql rfl rfl ?_)
 refine rs_op rfl (ow_move rfl ?_)
 refine rs_op rfl (ow_on rfl (ow_move rfl ?_))
 refine rs_op rfl (ow_on rfl (ow_move rfl ?_))
 refine rs_op rfl (ow_on rfl (ow_eqlS rfl rfl ?_))
 refine rs_set 22 (.bool false) rfl (by simp only [bytes_list]; rfl : (.bool ((⟨#[46]⟩ : ByteArray).toList == (⟨#[45, 48]⟩ : ByteArray).toList) : Value) = _) ?_
 refine rs_op rfl (ow_pickF rfl rfl ?_)
 refine rs_op rfl (ow_assign rfl ?_)
 refine rs_nil ?_
 refine ew_next ?_
 refine cw_else rfl ?_
 refine cw_seq ?_
 refine cw_region ?_
 refine rs_op rfl (ow_move rfl ?_)
 refine rs_op rfl (ow_eql rfl rfl ?_)
 refine rs_op rfl (ow_assign rfl ?_)
 refine rs_nil ?_
 refine ew_next ?_
 refine cw_then rfl ?_
 refine cw_seq ?_
 refine cw_region ?_
 refine rs_op rfl (ow_move rfl ?_)
 refine rs_op rfl (ow_move rfl ?_)
 refine rs_op rfl (ow_indexSL (j := 0) (b := 46) Tryz.underlying9 rfl rfl rfl (by kernel_rfl) ?_)
 refine rs_op rfl (ow_enter en90 rfl ((ct90_14 _).mono ?_))
 rintro e w1 ⟨rfl, hb⟩
 refine ⟨_, rfl, ?_⟩
 have Ec := Ext.of_below hb No
 replace E := E.trans Ec.no
 clear hb Ec
 refine rs_op rfl (ow_assign rfl ?_)
 refine rs_nil ?_
 refine ew_next ?_
 refine cw_ret ?_
 refine ew_block_ret ?_
 refine ew_then_ret ?_
 refine ew_ret (rs := [.tmp 4]) (vs := [.int .i64 (-1)]) rfl ⟨rfl, trivial⟩ ?_
 exact ⟨rfl, (LW.step E XLW).toBelow⟩
theorem ct92_14 : Gives 92 #[.string ⟨#[45, 48]⟩, .string ⟨#[46]⟩] (.int .i64 (-1)) := by
 intro w
 refine calls_cw Tryz.func92 rfl Tryz.ntmps92 rfl ?_
 have HF : Per (No) w (fun _ => True) := Per.true_
 have LW := Ext.refl (No) w
 have XLW : ∀ q9, (No) q9 → (No) q9 ∨ w.heap.size ≤ q9 := fun _ h => Or.inl h
 have E := Ext.refl (No) w
 refine cw_seq ?_
 refine cw_region ?_
 refine rs_op rfl (ow_assign rfl ?_)
 refine rs_nil ?_
 refine ew_next ?_
 refine cw_seq ?_
 refine cw_region ?_
 refine rs_op rfl (ow_move rfl ?_)
 refine rs_op rfl (ow_move rfl ?_)
 refine rs_op rfl (ow_enter en127 rfl ((ct127_14 _).mono ?_))
 rintro e w1 ⟨rfl, hb⟩
 refine ⟨_, rfl, ?_⟩
 have Ec := Ext.of_below hb No
 replace E := E.trans Ec.no
 clear hb Ec
 refine rs_op rfl (ow_assign rfl ?_)
 refine rs_nil ?_
 refine ew_next ?_
 refine cw_ret ?_
 refine ew_ret (rs := [.tmp 4]) (vs := [.int .i64 (-1)]) rfl ⟨rfl, trivial⟩ ?_
 exact ⟨rfl, (LW.step E XLW).toBelow⟩
theorem ct53_14 : Gives 53 #[.string ⟨#[45, 48]⟩, .string ⟨#[46]⟩] (.bool false) := by
 intro w
 refine calls_cw Tryz.func53 rfl Tryz.ntmps53 rfl ?_
 have HF : Per (No) w (fun _ => True) := Per.true_
 have LW := Ext.refl (No) w
 have XLW : ∀ q9, (No) q9 → (No) q9 ∨ w.heap.size ≤ q9 := fun _ h => Or.inl h
 have E := Ext.refl (No) w
 refine cw_seq ?_
 refine cw_region ?_
 refine rs_op rfl (ow_assign rfl ?_)
 refine rs_nil ?_
 refine ew_next ?_
 refine cw_seq ?_
 refine cw_region ?_
 refine rs_op rfl (ow_move rfl ?_)
 refine rs_op rfl (ow_move rfl ?_)
 refine rs_op rfl (ow_enter en92 rfl ((ct92_14 _).mono ?_))
 rintro e w1 ⟨rfl, hb⟩
 refine ⟨_, rfl, ?_⟩
 have Ec := Ext.of_below hb No
 replace E := E.trans Ec.no
 clear hb Ec
 refine rs_op rfl (ow_geq rfl rfl ?_)
 refine rs_op rfl (ow_assign rfl ?_)
 refine rs_nil ?_
 refine ew_next ?_
 refine cw_ret ?_
 refine ew_ret (rs := [.tmp 4]) (vs := [.bool false]) rfl ⟨rfl, trivial⟩ ?_
 exact ⟨rfl, (LW.step E XLW).toBelow⟩
section
variable (w : World)
theorem format_ze : Calls Tryz.prog 89 #[.float .f64 9223372036854775808, .int .u8 101, .int .i64 (-1), .int .i64 64] w fun e w' => e = .returned (.string ⟨#[45, 48, 101, 43, 48, 48]⟩) ∧ Below w.heap.size w w' := by
 refine calls_cw Tryz.func89 rfl Tryz.ntmps89 rfl ?_
 have HF : Per (No) w (fun _ => True) := Per.true_
 have LW := Ext.refl (No) w
 have XLW : ∀ q9, (No) q9 → (No) q9 ∨ w.heap.size ≤ q9 := fun _ h => Or.inl h
 have E := Ext.refl (No) w
 refine cw_seq ?_
 refine cw_region ?_
 refine rs_op rfl (ow_assign rfl ?_)
 refine rs_nil ?_
 refine ew_next ?_
 refine cw_seq ?_
 refine cw_seq ?_
 refine cw_region ?_
 refine rs_op rfl (ow_move rfl ?_)
 refine rs_op rfl (ow_eql rfl rfl ?_)
 refine rs_nil ?_
 refine ew_next ?_
 refine cw_else rfl ?_
 refine cw_skip ?_
 refine ew_next ?_
 refine cw_seq ?_
 refine cw_seq ?_
 refine cw_region ?_
 refine rs_op rfl (ow_move rfl ?_)
 refine rs_op rfl (ow_eql rfl rfl ?_)
 refine rs_nil ?_
 refine ew_next ?_
 refine cw_then rfl ?_
 refine cw_seq ?_
 refine cw_region ?_
 refine rs_op rfl (ow_move rfl ?_)
 refine rs_op rfl (ow_add (z := 3) rfl rfl (by kernel_rfl) ?_)
 refine rs_op rfl (ow_max rfl rfl ?_)
 refine rs_set 25 (.int .i64 24) rfl (by kernel_rfl : (.int .i64 (if (24 : Int) > 3 then 24 else 3) : Value) = _) ?_
 have XC : ∀ q9, (No) q9 → q9 < w.heap.size := Mut.none_
 have SC := Nat.le_trans LW.size E.size
 have SE := E.size
 refine rs_op rfl (ow_make0 (n := 24) (base := w.heap.size) Tryz.underlying97 inf5 rfl rfl rfl rfl (by decide) (by decide) SC (by decide) ?_)
 intro gmk1 w2 Nmk1 Emk1 Gmk1
 replace E := E.trans Emk1.no
 clear Emk1
 have Omk1 : World.ownsRow w2 w.heap.size 5 1 (.slice (some ⟨gmk1, 0, none⟩) 0 24) 0 ([]) := Nmk1
 replace HF := HF.cons (fun k e => Nat.le_trans SE ((some_ge Gmk1) k e))
 replace E := E.cons ((Value.slice (some ⟨gmk1, 0, none⟩) 0 24).ownBlock)
 replace XLW := Mut.grow XLW (fun k e => Or.inr (Nat.le_trans LW.size ((fun k e => Nat.le_trans SE ((some_ge Gmk1) k e)) k e)))
 clear XC
 refine rs_op rfl (ow_move rfl ?_)
 refine rs_op rfl (ow_move rfl ?_)
 refine rs_op rfl (ow_move rfl ?_)
 refine rs_op rfl (ow_enter en124 rfl ((ftoa_ze _ w.heap.size (some ⟨gmk1, 0, none⟩) 24 (Nat.le_trans LW.size E.size) Omk1).mono ?_))
 rintro e w3 ⟨A1, c1, rfl, On, En, KN⟩
 refine ⟨_, rfl, ?_⟩
 replace KN : ∀ q9, ((Value.slice A1 6 c1).ownBlock) = some q9 → ((Value.slice (some ⟨gmk1, 0, none⟩) 0 24).ownBlock) = some q9 ∨ w2.heap.size ≤ q9 := KN
 have HY : ∀ q9, (Mut [((Value.slice A1 6 c1).ownBlock)]) q9 → (Mut [((Value.slice (some ⟨gmk1, 0, none⟩) 0 24).ownBlock)]) q9 ∨ w.heap.size ≤ q9 := (Mut.grow Mut.none_ (fun k e => (KN k e).elim (fun e => Or.inl (Mut.head k e)) (fun h => Or.inr (Nat.le_trans E.size h))))
 replace E := E.step1 En Mut.head
 replace HF := HF.turn E HY
 have XT := fun q9 (h : (Mut [((Value.slice A1 6 c1).ownBlock)]) q9) => (HY q9 h).elim (XLW q9) (fun h => Or.inr (Nat.le_trans LW.size h))
 replace LW := LW.step E XLW
 replace XLW := XT
 clear XT
 replace E := Ext.refl (Mut [((Value.slice A1 6 c1).ownBlock)]) w3
 clear HY
 replace Omk1 : World.ownsRow w3 w.heap.size 5 1 (.slice A1 6 c1) 6 ([.int .u8 45, .int .u8 48, .int .u8 101, .int .u8 43, .int .u8 48, .int .u8 48]) := On
 clear On KN En
 refine rs_op rfl (ow_bytesStr (l := [45, 48, 101, 43, 48, 48]) Tryz.underlying97 Tryz.underlying5 Tryz.underlying9 rfl (own_bytes Omk1 rfl) ?_)
 refine rs_op rfl (ow_assign rfl ?_)
 refine rs_nil ?_
 refine ew_next ?_
 refine cw_ret ?_
 refine ew_then_ret ?_
 refine ew_ret (rs := [.tmp 8]) (vs := [_]) rfl ⟨rfl, trivial⟩ ?_
 exact ⟨rfl, (LW.step E XLW).toBelow⟩
theorem format_ze' : Calls Tryz.prog 50 #[.float .f64 9223372036854775808, .int .u8 101, .int .i64 (-1), .int .i64 64] w fun e w' => e = .returned (.string ⟨#[45, 48, 101, 43, 48, 48]⟩) ∧ Below w.heap.size w w' := by
 refine calls_cw Tryz.func50 rfl Tryz.ntmps50 rfl ?_
 have HF : Per (No) w (fun _ => True) := Per.true_
 have LW := Ext.refl (No) w
 have XLW : ∀ q9, (No) q9 → (No) q9 ∨ w.heap.size ≤ q9 := fun _ h => Or.inl h
 have E := Ext.refl (No) w
 refine cw_seq ?_
 refine cw_region ?_
 refine rs_op rfl (ow_assign rfl ?_)
 refine rs_nil ?_
 refine ew_next ?_
 refine cw_seq ?_
 refine cw_region ?_
 refine rs_op rfl (ow_move rfl ?_)
 refine rs_op rfl (ow_move rfl ?_)
 refine rs_op rfl (ow_move rfl ?_)
 refine rs_op rfl (ow_move rfl ?_)
 refine rs_op rfl (ow_enter en89 rfl ((format_ze _).mono ?_))
 rintro e w1 ⟨rfl, hb⟩
 refine ⟨_, rfl, ?_⟩
 have Ec := Ext.of_below hb No
 replace E := E.trans Ec.no
 clear hb Ec
 refine rs_op rfl (ow_assign rfl ?_)
 refine rs_nil ?_
 refine ew_next ?_
 refine cw_ret ?_
 refine ew_ret (rs := [.tmp 8]) (vs := [_]) rfl ⟨rfl, trivial⟩ ?_
 exact ⟨rfl, (LW.step E XLW).toBelow⟩
theorem format_zf : Calls Tryz.prog 89 #[.float .f64 9223372036854775808, .int .u8 102, .int .i64 (-1), .int .i64 64] w fun e w' => e = .returned (.string ⟨#[45, 48]⟩) ∧ Below w.heap.size w w' := by
 refine calls_cw Tryz.func89 rfl Tryz.ntmps89 rfl ?_
 have HF : Per (No) w (fun _ => True) := Per.true_
 have LW := Ext.refl (No) w
 have XLW : ∀ q9, (No) q9 → (No) q9 ∨ w.heap.size ≤ q9 := fun _ h => Or.inl h
 have E := Ext.refl (No) w
 refine cw_seq ?_
 refine cw_region ?_
 refine rs_op rfl (ow_assign rfl ?_)
 refine rs_nil ?_
 refine ew_next ?_
 refine cw_seq ?_
 refine cw_seq ?_
 refine cw_region ?_
 refine rs_op rfl (ow_move rfl ?_)
 refine rs_op rfl (ow_eql rfl rfl ?_)
 refine rs_nil ?_
 refine ew_next ?_
 refine cw_else rfl ?_
 refine cw_skip ?_
 refine ew_next ?_
 refine cw_seq ?_
 refine cw_seq ?_
 refine cw_region ?_
 refine rs_op rfl (ow_move rfl ?_)
 refine rs_op rfl (ow_eql rfl rfl ?_)
 refine rs_nil ?_
 refine ew_next ?_
 refine cw_then rfl ?_
 refine cw_seq ?_
 refine cw_region ?_
 refine rs_op rfl (ow_move rfl ?_)
 refine rs_op rfl (ow_add (z := 3) rfl rfl (by kernel_rfl) ?_)
 refine rs_op rfl (ow_max rfl rfl ?_)
 refine rs_set 25 (.int .i64 24) rfl (by kernel_rfl : (.int .i64 (if (24 : Int) > 3 then 24 else 3) : Value) = _) ?_
 have XC : ∀ q9, (No) q9 → q9 < w.heap.size := Mut.none_
 have SC := Nat.le_trans LW.size E.size
 have SE := E.size
 refine rs_op rfl (ow_make0 (n := 24) (base := w.heap.size) Tryz.underlying97 inf5 rfl rfl rfl rfl (by decide) (by decide) SC (by decide) ?_)
 intro gmk1 w2 Nmk1 Emk1 Gmk1
 replace E := E.trans Emk1.no
 clear Emk1
 have Omk1 : World.ownsRow w2 w.heap.size 5 1 (.slice (some ⟨gmk1, 0, none⟩) 0 24) 0 ([]) := Nmk1
 replace HF := HF.cons (fun k e => Nat.le_trans SE ((some_ge Gmk1) k e))
 replace E := E.cons ((Value.slice (some ⟨gmk1, 0, none⟩) 0 24).ownBlock)
 replace XLW := Mut.grow XLW (fun k e => Or.inr (Nat.le_trans LW.size ((fun k e => Nat.le_trans SE ((some_ge Gmk1) k e)) k e)))
 clear XC
 refine rs_op rfl (ow_move rfl ?_)
 refine rs_op rfl (ow_move rfl ?_)
 refine rs_op rfl (ow_move rfl ?_)
 refine rs_op rfl (ow_enter en124 rfl ((ftoa_zf _ w.heap.size (some ⟨gmk1, 0, none⟩) 24 (Nat.le_trans LW.size E.size) Omk1).mono ?_))
 rintro e w3 ⟨A1, c1, rfl, On, En, KN⟩
 refine ⟨_, rfl, ?_⟩
 replace KN : ∀ q9, ((Value.slice A1 2 c1).ownBlock) = some q9 → ((Value.slice (some ⟨gmk1, 0, none⟩) 0 24).ownBlock) = some q9 ∨ w2.heap.size ≤ q9 := KN
 have HY : ∀ q9, (Mut [((Value.slice A1 2 c1).ownBlock)]) q9 → (Mut [((Value.slice (some ⟨gmk1, 0, none⟩) 0 24).ownBlock)]) q9 ∨ w.heap.size ≤ q9 := (Mut.grow Mut.none_ (fun k e => (KN k e).elim (fun e => Or.inl (Mut.head k e)) (fun h => Or.inr (Nat.le_trans E.size h))))
 replace E := E.step1 En Mut.head
 replace HF := HF.turn E HY
 have XT := fun q9 (h : (Mut [((Value.slice A1 2 c1).ownBlock)]) q9) => (HY q9 h).elim (XLW q9) (fun h => Or.inr (Nat.le_trans LW.size h))
 replace LW := LW.step E XLW
 replace XLW := XT
 clear XT
 replace E := Ext.refl (Mut [((Value.slice A1 2 c1).ownBlock)]) w3
 clear HY
 replace Omk1 : World.ownsRow w3 w.heap.size 5 1 (.slice A1 2 c1) 2 ([.int .u8 45, .int .u8 48]) := On
 clear On KN En
 refine rs_op rfl (ow_bytesStr (l := [45, 48]) Tryz.underlying97 Tryz.underlying5 Tryz.underlying9 rfl (own_bytes Omk1 rfl) ?_)
 refine rs_op rfl (ow_assign rfl ?_)
 refine rs_nil ?_
 refine ew_next ?_
 refine cw_ret ?_
 refine ew_then_ret ?_
 refine ew_ret (rs := [.tmp 8]) (vs := [_]) rfl ⟨rfl, trivial⟩ ?_
 exact ⟨rfl, (LW.step E XLW).toBelow⟩
theorem format_zf' : Calls Tryz.prog 50 #[.float .f64 9223372036854775808, .int .u8 102, .int .i64 (-1), .int .i64 64] w fun e w' => e = .returned (.string ⟨#[45, 48]⟩) ∧ Below w.heap.size w w' := by
 refine calls_cw Tryz.func50 rfl Tryz.ntmps50 rfl ?_
 have HF : Per (No) w (fun _ => True) := Per.true_
 have LW := Ext.refl (No) w
 have XLW : ∀ q9, (No) q9 → (No) q9 ∨ w.heap.size ≤ q9 := fun _ h => Or.inl h
 have E := Ext.refl (No) w
 refine cw_seq ?_
 refine cw_region ?_
 refine rs_op rfl (ow_assign rfl ?_)
 refine rs_nil ?_
 refine ew_next ?_
 refine cw_seq ?_
 refine cw_region ?_
 refine rs_op rfl (ow_move rfl ?_)
 refine rs_op rfl (ow_move rfl ?_)
 refine rs_op rfl (ow_move rfl ?_)
 refine rs_op rfl (ow_move rfl ?_)
 refine rs_op rfl (ow_enter en89 rfl ((format_zf _).mono ?_))
 rintro e w1 ⟨rfl, hb⟩
 refine ⟨_, rfl, ?_⟩
 have Ec := Ext.of_below hb No
 replace E := E.trans Ec.no
 clear hb Ec
 refine rs_op rfl (ow_assign rfl ?_)
 refine rs_nil ?_
 refine ew_next ?_
 refine cw_ret ?_
 refine ew_ret (rs := [.tmp 8]) (vs := [_]) rfl ⟨rfl, trivial⟩ ?_
 exact ⟨rfl, (LW.step E XLW).toBelow⟩
theorem text_z : Calls Tryz.prog 15 #[.int .u64 9223372036854775808] w fun e w' => e = .returned (.string ⟨#[45, 48, 46, 48]⟩) ∧ Below w.heap.size w w' := by
 refine calls_cw Tryz.func15 rfl Tryz.ntmps15 rfl ?_
 have HF : Per (No) w (fun _ => True) := Per.true_
 have LW := Ext.refl (No) w
 have XLW : ∀ q9, (No) q9 → (No) q9 ∨ w.heap.size ≤ q9 := fun _ h => Or.inl h
 have E := Ext.refl (No) w
 refine cw_seq ?_
 refine cw_region ?_
 refine rs_op rfl (ow_assign rfl ?_)
 refine rs_nil ?_
 refine ew_next ?_
 refine cw_seq ?_
 refine cw_region ?_
 refine rs_op rfl (ow_move rfl ?_)
 refine rs_op rfl (ow_frombits (b := 9223372036854775808) ex48 rfl ?_)
 refine rs_op rfl (ow_assign rfl ?_)
 refine rs_nil ?_
 refine ew_next ?_
 refine cw_seq ?_
 refine cw_block ?_
 refine cw_seq ?_
 refine cw_region ?_
 refine rs_op rfl (ow_move rfl ?_)
 refine rs_op rfl (ow_move rfl ?_)
 refine rs_op rfl (ow_fneq rfl rfl ?_)
 refine rs_set 13 (.bool false) rfl (by kernel_rfl : (.bool (ford 9223372036854775808 9223372036854775808 != some .eq) : Value) = _) ?_
 refine rs_op rfl (ow_assign rfl ?_)
 refine rs_nil ?_
 refine ew_next ?_
 refine cw_else rfl ?_
 refine cw_seq ?_
 refine cw_region ?_
 refine rs_op rfl (ow_move rfl ?_)
 refine rs_op rfl (ow_enter en49 rfl ((ct49_4 _).mono ?_))
 rintro e w1 ⟨rfl, hb⟩
 refine ⟨_, rfl, ?_⟩
 have Ec := Ext.of_below hb No
 replace E := E.trans Ec.no
 clear hb Ec
 refine rs_op rfl (ow_assign rfl ?_)
 refine rs_nil ?_
 refine ew_next ?_
 refine cw_else rfl ?_
 refine cw_skip ?_
 refine ew_block_normal ?_
 refine ew_next ?_
 refine cw_seq ?_
 refine cw_region ?_
 refine rs_op rfl (ow_move rfl ?_)
 refine rs_op rfl (ow_enter en50 rfl ((format_ze' _).mono ?_))
 rintro e w2 ⟨rfl, hb⟩
 refine ⟨_, rfl, ?_⟩
 have Ec := Ext.of_below hb No
 replace E := E.trans Ec.no
 clear hb Ec
 refine rs_op rfl (ow_assign rfl ?_)
 refine rs_nil ?_
 refine ew_next ?_
 refine cw_seq ?_
 refine cw_region ?_
 refine rs_op rfl (ow_move rfl ?_)
 refine rs_op rfl (ow_enter en51 rfl ((ct51_7 _).mono ?_))
 rintro e w3 ⟨rfl, hb⟩
 refine ⟨_, rfl, ?_⟩
 have Ec := Ext.of_below hb No
 replace E := E.trans Ec.no
 clear hb Ec
 refine rs_op rfl (ow_assign rfl ?_)
 refine rs_nil ?_
 refine ew_next ?_
 refine cw_seq ?_
 refine cw_region ?_
 refine rs_op rfl (ow_move rfl ?_)
 refine rs_op rfl (ow_move rfl ?_)
 refine rs_op rfl (ow_add (z := 3) rfl rfl (by kernel_rfl) ?_)
 refine rs_op rfl (ow_sliceS (l := 3) (h := 6) Tryz.underlying9 rfl ⟨_, rfl⟩ rfl (by decide) (by decide) ?_)
 refine rs_set 27 (.string ⟨#[43, 48, 48]⟩) rfl (by kernel_rfl : (.string ((⟨#[45, 48, 101, 43, 48, 48]⟩ : ByteArray).extract 3 6) : Value) = _) ?_
 refine rs_op rfl (ow_enter en52 rfl ((ct52_9 _).mono ?_))
 rintro e w4 ⟨rfl, hb⟩
 refine ⟨_, rfl, ?_⟩
 have Ec := Ext.of_below hb No
 replace E := E.trans Ec.no
 clear hb Ec
 refine rs_op rfl (ow_move rfl ?_)
 refine rs_op rfl (ow_extract rfl rfl ?_)
 refine rs_op rfl (ow_extract rfl rfl ?_)
 refine rs_op rfl (ow_assign rfl ?_)
 refine rs_op rfl (ow_assign rfl ?_)
 refine rs_nil ?_
 refine ew_next ?_
 refine cw_seq ?_
 refine cw_seq ?_
 refine cw_region ?_
 refine rs_op rfl (ow_move rfl ?_)
 refine rs_op rfl (ow_lss rfl rfl ?_)
 refine rs_op rfl (ow_move rfl ?_)
 refine rs_op rfl (ow_on rfl (ow_move rfl ?_))
 refine rs_op rfl (ow_on rfl (ow_gtr rfl rfl ?_))
 refine rs_op rfl (ow_pickF rfl rfl ?_)
 refine rs_nil ?_
 refine ew_next ?_
 refine cw_else rfl ?_
 refine cw_skip ?_
 refine ew_next ?_
 refine cw_seq ?_
 refine cw_region ?_
 refine rs_op rfl (ow_move rfl ?_)
 refine rs_op rfl (ow_enter en50 rfl ((format_zf' _).mono ?_))
 rintro e w5 ⟨rfl, hb⟩
 refine ⟨_, rfl, ?_⟩
 have Ec := Ext.of_below hb No
 replace E := E.trans Ec.no
 clear hb Ec
 refine rs_op rfl (ow_assign rfl ?_)
 refine rs_nil ?_
 refine ew_next ?_
 refine cw_seq ?_
 refine cw_seq ?_
 refine cw_region ?_
 refine rs_op rfl (ow_move rfl ?_)
 refine rs_op rfl (ow_enter en53 rfl ((ct53_14 _).mono ?_))
 rintro e w6 ⟨rfl, hb⟩
 refine ⟨_, rfl, ?_⟩
 have Ec := Ext.of_below hb No
 replace E := E.trans Ec.no
 clear hb Ec
 refine rs_op rfl (ow_not rfl ?_)
 refine rs_nil ?_
 refine ew_next ?_
 refine cw_then rfl ?_
 refine cw_region ?_
 refine rs_op rfl (ow_move rfl ?_)
 refine rs_op rfl (ow_addS rfl rfl (by decide) ?_)
 refine rs_set 44 (.string ⟨#[45, 48, 46, 48]⟩) rfl (by kernel_rfl : (.string ((⟨#[45, 48]⟩ : ByteArray) ++ (⟨#[46, 48]⟩ : ByteArray)) : Value) = _) ?_
 refine rs_op rfl (ow_assign rfl ?_)
 refine rs_nil ?_
 refine ew_next ?_
 refine cw_seq ?_
 refine cw_region ?_
 refine rs_op rfl (ow_move rfl ?_)
 refine rs_op rfl (ow_assign rfl ?_)
 refine rs_nil ?_
 refine ew_next ?_
 refine cw_ret ?_
 refine ew_ret (rs := [.tmp 2]) (vs := [_]) rfl ⟨rfl, trivial⟩ ?_
 exact ⟨rfl, (LW.step E XLW).toBelow⟩
end
end Go.Proofs.YtjdcjdohghkcgaaGreatDoor
namespace Go.Proofs.YtjdcjdohghkcgaaGreatDoor
open Go.RowKit
set_option maxRecDepth 100000
/-- The cells of the table of powers that the text of 1 looks at. -/
def Ten16 (w : World) : Prop := w.cell? ⟨13, 728, none⟩ = some (.int .u64 10240000000000000000) ∧ w.cell? ⟨13, 729, none⟩ = some (.int .u64 0)
theorem co70_1 : Gives 70 #[.int .u64 9223372036854775296, .int .u64 10240000000000000000] (.tuple #[.int .u64 5119999999999999715, .int .u64 14442061007222210560]) := by
 intro w
 refine calls_cw Tryz.func70 rfl Tryz.ntmps70 rfl ?_
 have HF : Per (No) w (fun _ => True) := Per.true_
 have LW := Ext.refl (No) w
 have XLW : ∀ q9, (No) q9 → (No) q9 ∨ w.heap.size ≤ q9 := fun _ h => Or.inl h
 have E := Ext.refl (No) w
 refine cw_seq ?_
 refine cw_region ?_
 refine rs_op rfl (ow_assign rfl ?_)
 refine rs_op rfl (ow_assign rfl ?_)
 refine rs_nil ?_
 refine ew_next ?_
 refine cw_seq ?_
 refine cw_region ?_
 refine rs_op rfl (ow_move rfl ?_)
 refine rs_op rfl (ow_and (z := 4294966784) rfl rfl (by kernel_rfl) ?_)
 refine rs_op rfl (ow_assign rfl ?_)
 refine rs_nil ?_
 refine ew_next ?_
 refine cw_seq ?_
 refine cw_region ?_
 refine rs_op rfl (ow_move rfl ?_)
 refine rs_op rfl (ow_shr (z := 2147483647) rfl rfl (by decide) (by kernel_rfl) ?_)
 refine rs_op rfl (ow_assign rfl ?_)
 refine rs_nil ?_
 refine ew_next ?_
 refine cw_seq ?_
 refine cw_region ?_
 refine rs_op rfl (ow_move rfl ?_)
 refine rs_op rfl (ow_and (z := 67108864) rfl rfl (by kernel_rfl) ?_)
 refine rs_op rfl (ow_assign rfl ?_)
 refine rs_nil ?_
 refine ew_next ?_
 refine cw_seq ?_
 refine cw_region ?_
 refine rs_op rfl (ow_move rfl ?_)
 refine rs_op rfl (ow_shr (z := 2384185791) rfl rfl (by decide) (by kernel_rfl) ?_)
 refine rs_op rfl (ow_assign rfl ?_)
 refine rs_nil ?_
 refine ew_next ?_
 refine cw_seq ?_
 refine cw_region ?_
 refine rs_op rfl (ow_move rfl ?_)
 refine rs_op rfl (ow_move rfl ?_)
 refine rs_op rfl (ow_mul (z := 288230341791973376) rfl rfl (by kernel_rfl) ?_)
 refine rs_op rfl (ow_assign rfl ?_)
 refine rs_nil ?_
 refine ew_next ?_
 refine cw_seq ?_
 refine cw_region ?_
 refine rs_op rfl (ow_move rfl ?_)
 refine rs_op rfl (ow_move rfl ?_)
 refine rs_op rfl (ow_mul (z := 144115188008747008) rfl rfl (by kernel_rfl) ?_)
 refine rs_op rfl (ow_move rfl ?_)
 refine rs_op rfl (ow_shr (z := 67108856) rfl rfl (by decide) (by kernel_rfl) ?_)
 refine rs_op rfl (ow_add (z := 144115188075855864) rfl rfl (by kernel_rfl) ?_)
 refine rs_op rfl (ow_assign rfl ?_)
 refine rs_nil ?_
 refine ew_next ?_
 refine cw_seq ?_
 refine cw_region ?_
 refine rs_op rfl (ow_move rfl ?_)
 refine rs_op rfl (ow_and (z := 4294967288) rfl rfl (by kernel_rfl) ?_)
 refine rs_op rfl (ow_assign rfl ?_)
 refine rs_nil ?_
 refine ew_next ?_
 refine cw_seq ?_
 refine cw_region ?_
 refine rs_op rfl (ow_move rfl ?_)
 refine rs_op rfl (ow_shr (z := 33554431) rfl rfl (by decide) (by kernel_rfl) ?_)
 refine rs_op rfl (ow_assign rfl ?_)
 refine rs_nil ?_
 refine ew_next ?_
 refine cw_seq ?_
 refine cw_region ?_
 refine rs_op rfl (ow_move rfl ?_)
 refine rs_op rfl (ow_move rfl ?_)
 refine rs_op rfl (ow_move rfl ?_)
 refine rs_op rfl (ow_mul (z := 10239998779229766144) rfl rfl (by kernel_rfl) ?_)
 refine rs_op rfl (ow_add (z := 10239998783524733432) rfl rfl (by kernel_rfl) ?_)
 refine rs_op rfl (ow_assign rfl ?_)
 refine rs_nil ?_
 refine ew_next ?_
 refine cw_seq ?_
 refine cw_region ?_
 refine rs_op rfl (ow_move rfl ?_)
 refine rs_op rfl (ow_move rfl ?_)
 refine rs_op rfl (ow_mul (z := 5119999997582259777) rfl rfl (by kernel_rfl) ?_)
 refine rs_op rfl (ow_move rfl ?_)
 refine rs_op rfl (ow_add (z := 5119999997615814208) rfl rfl (by kernel_rfl) ?_)
 refine rs_op rfl (ow_move rfl ?_)
 refine rs_op rfl (ow_shr (z := 2384185507) rfl rfl (by decide) (by kernel_rfl) ?_)
 refine rs_op rfl (ow_add (z := 5119999999999999715) rfl rfl (by kernel_rfl) ?_)
 refine rs_op rfl (ow_assign rfl ?_)
 refine rs_nil ?_
 refine ew_next ?_
 refine cw_seq ?_
 refine cw_region ?_
 refine rs_op rfl (ow_move rfl ?_)
 refine rs_op rfl (ow_move rfl ?_)
 refine rs_op rfl (ow_mul (z := 14442061007222210560) rfl rfl (by kernel_rfl) ?_)
 refine rs_op rfl (ow_assign rfl ?_)
 refine rs_nil ?_
 refine ew_next ?_
 refine cw_ret ?_
 refine ew_ret (rs := [.tmp 4, .tmp 5]) (vs := [.int .u64 5119999999999999715, .int .u64 14442061007222210560]) rfl ⟨rfl, rfl, trivial⟩ ?_
 exact ⟨rfl, (LW.step E XLW).toBelow⟩
theorem co70_2 : Gives 70 #[.int .u64 9223372036854776832, .int .u64 10240000000000000000] (.tuple #[.int .u64 5120000000000000568, .int .u64 8009366132974682112]) := by
 intro w
 refine calls_cw Tryz.func70 rfl Tryz.ntmps70 rfl ?_
 have HF : Per (No) w (fun _ => True) := Per.true_
 have LW := Ext.refl (No) w
 have XLW : ∀ q9, (No) q9 → (No) q9 ∨ w.heap.size ≤ q9 := fun _ h => Or.inl h
 have E := Ext.refl (No) w
 refine cw_seq ?_
 refine cw_region ?_
 refine rs_op rfl (ow_assign rfl ?_)
 refine rs_op rfl (ow_assign rfl ?_)
 refine rs_nil ?_
 refine ew_next ?_
 refine cw_seq ?_
 refine cw_region ?_
 refine rs_op rfl (ow_move rfl ?_)
 refine rs_op rfl (ow_and (z := 1024) rfl rfl (by kernel_rfl) ?_)
 refine rs_op rfl (ow_assign rfl ?_)
 refine rs_nil ?_
 refine ew_next ?_
 refine cw_seq ?_
 refine cw_region ?_
 refine rs_op rfl (ow_move rfl ?_)
 refine rs_op rfl (ow_shr (z := 2147483648) rfl rfl (by decide) (by kernel_rfl) ?_)
 refine rs_op rfl (ow_assign rfl ?_)
 refine rs_nil ?_
 refine ew_next ?_
 refine cw_seq ?_
 refine cw_region ?_
 refine rs_op rfl (ow_move rfl ?_)
 refine rs_op rfl (ow_and (z := 67108864) rfl rfl (by kernel_rfl) ?_)
 refine rs_op rfl (ow_assign rfl ?_)
 refine rs_nil ?_
 refine ew_next ?_
 refine cw_seq ?_
 refine cw_region ?_
 refine rs_op rfl (ow_move rfl ?_)
 refine rs_op rfl (ow_shr (z := 2384185791) rfl rfl (by decide) (by kernel_rfl) ?_)
 refine rs_op rfl (ow_assign rfl ?_)
 refine rs_nil ?_
 refine ew_next ?_
 refine cw_seq ?_
 refine cw_region ?_
 refine rs_op rfl (ow_move rfl ?_)
 refine rs_op rfl (ow_move rfl ?_)
 refine rs_op rfl (ow_mul (z := 68719476736) rfl rfl (by kernel_rfl) ?_)
 refine rs_op rfl (ow_assign rfl ?_)
 refine rs_nil ?_
 refine ew_next ?_
 refine cw_seq ?_
 refine cw_region ?_
 refine rs_op rfl (ow_move rfl ?_)
 refine rs_op rfl (ow_move rfl ?_)
 refine rs_op rfl (ow_mul (z := 144115188075855872) rfl rfl (by kernel_rfl) ?_)
 refine rs_op rfl (ow_move rfl ?_)
 refine rs_op rfl (ow_shr (z := 16) rfl rfl (by decide) (by kernel_rfl) ?_)
 refine rs_op rfl (ow_add (z := 144115188075855888) rfl rfl (by kernel_rfl) ?_)
 refine rs_op rfl (ow_assign rfl ?_)
 refine rs_nil ?_
 refine ew_next ?_
 refine cw_seq ?_
 refine cw_region ?_
 refine rs_op rfl (ow_move rfl ?_)
 refine rs_op rfl (ow_and (z := 16) rfl rfl (by kernel_rfl) ?_)
 refine rs_op rfl (ow_assign rfl ?_)
 refine rs_nil ?_
 refine ew_next ?_
 refine cw_seq ?_
 refine cw_region ?_
 refine rs_op rfl (ow_move rfl ?_)
 refine rs_op rfl (ow_shr (z := 33554432) rfl rfl (by decide) (by kernel_rfl) ?_)
 refine rs_op rfl (ow_assign rfl ?_)
 refine rs_nil ?_
 refine ew_next ?_
 refine cw_seq ?_
 refine cw_region ?_
 refine rs_op rfl (ow_move rfl ?_)
 refine rs_op rfl (ow_move rfl ?_)
 refine rs_op rfl (ow_move rfl ?_)
 refine rs_op rfl (ow_mul (z := 2441406249984) rfl rfl (by kernel_rfl) ?_)
 refine rs_op rfl (ow_add (z := 2441406250000) rfl rfl (by kernel_rfl) ?_)
 refine rs_op rfl (ow_assign rfl ?_)
 refine rs_nil ?_
 refine ew_next ?_
 refine cw_seq ?_
 refine cw_region ?_
 refine rs_op rfl (ow_move rfl ?_)
 refine rs_op rfl (ow_move rfl ?_)
 refine rs_op rfl (ow_mul (z := 5119999999966445568) rfl rfl (by kernel_rfl) ?_)
 refine rs_op rfl (ow_move rfl ?_)
 refine rs_op rfl (ow_add (z := 5120000000000000000) rfl rfl (by kernel_rfl) ?_)
 refine rs_op rfl (ow_move rfl ?_)
 refine rs_op rfl (ow_shr (z := 568) rfl rfl (by decide) (by kernel_rfl) ?_)
 refine rs_op rfl (ow_add (z := 5120000000000000568) rfl rfl (by kernel_rfl) ?_)
 refine rs_op rfl (ow_assign rfl ?_)
 refine rs_nil ?_
 refine ew_next ?_
 refine cw_seq ?_
 refine cw_region ?_
 refine rs_op rfl (ow_move rfl ?_)
 refine rs_op rfl (ow_move rfl ?_)
 refine rs_op rfl (ow_mul (z := 8009366132974682112) rfl rfl (by kernel_rfl) ?_)
 refine rs_op rfl (ow_assign rfl ?_)
 refine rs_nil ?_
 refine ew_next ?_
 refine cw_ret ?_
 refine ew_ret (rs := [.tmp 4, .tmp 5]) (vs := [.int .u64 5120000000000000568, .int .u64 8009366132974682112]) rfl ⟨rfl, rfl, trivial⟩ ?_
 exact ⟨rfl, (LW.step E XLW).toBelow⟩
theorem co191_3 : Gives 191 #[.int .i64 (-52)] (.int .i64 (-16)) := by
 intro w
 refine calls_cw Tryz.func191 rfl Tryz.ntmps191 rfl ?_
 have HF : Per (No) w (fun _ => True) := Per.true_
 have LW := Ext.refl (No) w
 have XLW : ∀ q9, (No) q9 → (No) q9 ∨ w.heap.size ≤ q9 := fun _ h => Or.inl h
 have E := Ext.refl (No) w
 refine cw_seq ?_
 refine cw_region ?_
 refine rs_op rfl (ow_assign rfl ?_)
 refine rs_nil ?_
 refine ew_next ?_
 refine cw_seq ?_
 refine cw_region ?_
 refine rs_op rfl (ow_move rfl ?_)
 refine rs_op rfl (ow_mul (z := (-32827860)) rfl rfl (by kernel_rfl) ?_)
 refine rs_op rfl (ow_sub (z := (-33089523)) rfl rfl (by kernel_rfl) ?_)
 refine rs_op rfl (ow_shr (z := (-16)) rfl rfl (by decide) (by kernel_rfl) ?_)
 refine rs_op rfl (ow_assign rfl ?_)
 refine rs_nil ?_
 refine ew_next ?_
 refine cw_ret ?_
 refine ew_ret (rs := [.tmp 2]) (vs := [.int .i64 (-16)]) rfl ⟨rfl, trivial⟩ ?_
 exact ⟨rfl, (LW.step E XLW).toBelow⟩
theorem co193_4 : Gives 193 #[.int .i64 16] (.int .i64 53) := by
 intro w
 refine calls_cw Tryz.func193 rfl Tryz.ntmps193 rfl ?_
 have HF : Per (No) w (fun _ => True) := Per.true_
 have LW := Ext.refl (No) w
 have XLW : ∀ q9, (No) q9 → (No) q9 ∨ w.heap.size ≤ q9 := fun _ h => Or.inl h
 have E := Ext.refl (No) w
 refine cw_seq ?_
 refine cw_region ?_
 refine rs_op rfl (ow_assign rfl ?_)
 refine rs_nil ?_
 refine ew_next ?_
 refine cw_seq ?_
 refine cw_region ?_
 refine rs_op rfl (ow_move rfl ?_)
 refine rs_op rfl (ow_mul (z := 1741648) rfl rfl (by kernel_rfl) ?_)
 refine rs_op rfl (ow_shr (z := 53) rfl rfl (by decide) (by kernel_rfl) ?_)
 refine rs_op rfl (ow_assign rfl ?_)
 refine rs_nil ?_
 refine ew_next ?_
 refine cw_ret ?_
 refine ew_ret (rs := [.tmp 2]) (vs := [.int .i64 53]) rfl ⟨rfl, trivial⟩ ?_
 exact ⟨rfl, (LW.step E XLW).toBelow⟩
theorem co195_5 : Gives 195 #[.int .u64 39999999999999997, .int .i64 0] (.int .u64 39999999999999997) := by
 intro w
 refine calls_cw Tryz.func195 rfl Tryz.ntmps195 rfl ?_
 have HF : Per (No) w (fun _ => True) := Per.true_
 have LW := Ext.refl (No) w
 have XLW : ∀ q9, (No) q9 → (No) q9 ∨ w.heap.size ≤ q9 := fun _ h => Or.inl h
 have E := Ext.refl (No) w
 refine cw_seq ?_
 refine cw_region ?_
 refine rs_op rfl (ow_assign rfl ?_)
 refine rs_nil ?_
 refine ew_next ?_
 refine cw_seq ?_
 refine cw_region ?_
 refine rs_op rfl (ow_move rfl ?_)
 refine rs_op rfl (ow_move rfl ?_)
 refine rs_op rfl (ow_conv (z := 0) Tryz.underlying232 Tryz.underlying3 rfl (by kernel_rfl) ?_)
 refine rs_op rfl (ow_add (z := 39999999999999997) rfl rfl (by kernel_rfl) ?_)
 refine rs_op rfl (ow_assign rfl ?_)
 refine rs_nil ?_
 refine ew_next ?_
 refine cw_ret ?_
 refine ew_ret (rs := [.tmp 4]) (vs := [.int .u64 39999999999999997]) rfl ⟨rfl, trivial⟩ ?_
 exact ⟨rfl, (LW.step E XLW).toBelow⟩
theorem co196_6 : Gives 196 #[.int .u64 39999999999999997] (.int .u64 10000000000000000) := by
 intro w
 refine calls_cw Tryz.func196 rfl Tryz.ntmps196 rfl ?_
 have HF : Per (No) w (fun _ => True) := Per.true_
 have LW := Ext.refl (No) w
 have XLW : ∀ q9, (No) q9 → (No) q9 ∨ w.heap.size ≤ q9 := fun _ h => Or.inl h
 have E := Ext.refl (No) w
 refine cw_seq ?_
 refine cw_region ?_
 refine rs_op rfl (ow_assign rfl ?_)
 refine rs_nil ?_
 refine ew_next ?_
 refine cw_seq ?_
 refine cw_region ?_
 refine rs_op rfl (ow_move rfl ?_)
 refine rs_op rfl (ow_add (z := 40000000000000000) rfl rfl (by kernel_rfl) ?_)
 refine rs_op rfl (ow_shr (z := 10000000000000000) rfl rfl (by decide) (by kernel_rfl) ?_)
 refine rs_op rfl (ow_assign rfl ?_)
 refine rs_nil ?_
 refine ew_next ?_
 refine cw_ret ?_
 refine ew_ret (rs := [.tmp 2]) (vs := [.int .u64 10000000000000000]) rfl ⟨rfl, trivial⟩ ?_
 exact ⟨rfl, (LW.step E XLW).toBelow⟩
theorem co195_7 : Gives 195 #[.int .u64 40000000000000005, .int .i64 0] (.int .u64 40000000000000005) := by
 intro w
 refine calls_cw Tryz.func195 rfl Tryz.ntmps195 rfl ?_
 have HF : Per (No) w (fun _ => True) := Per.true_
 have LW := Ext.refl (No) w
 have XLW : ∀ q9, (No) q9 → (No) q9 ∨ w.heap.size ≤ q9 := fun _ h => Or.inl h
 have E := Ext.refl (No) w
 refine cw_seq ?_
 refine cw_region ?_
 refine rs_op rfl (ow_assign rfl ?_)
 refine rs_nil ?_
 refine ew_next ?_
 refine cw_seq ?_
 refine cw_region ?_
 refine rs_op rfl (ow_move rfl ?_)
 refine rs_op rfl (ow_move rfl ?_)
 refine rs_op rfl (ow_conv (z := 0) Tryz.underlying232 Tryz.underlying3 rfl (by kernel_rfl) ?_)
 refine rs_op rfl (ow_add (z := 40000000000000005) rfl rfl (by kernel_rfl) ?_)
 refine rs_op rfl (ow_assign rfl ?_)
 refine rs_nil ?_
 refine ew_next ?_
 refine cw_ret ?_
 refine ew_ret (rs := [.tmp 4]) (vs := [.int .u64 40000000000000005]) rfl ⟨rfl, trivial⟩ ?_
 exact ⟨rfl, (LW.step E XLW).toBelow⟩
theorem co197_8 : Gives 197 #[.int .u64 40000000000000005] (.int .u64 10000000000000001) := by
 intro w
 refine calls_cw Tryz.func197 rfl Tryz.ntmps197 rfl ?_
 have HF : Per (No) w (fun _ => True) := Per.true_
 have LW := Ext.refl (No) w
 have XLW : ∀ q9, (No) q9 → (No) q9 ∨ w.heap.size ≤ q9 := fun _ h => Or.inl h
 have E := Ext.refl (No) w
 refine cw_seq ?_
 refine cw_region ?_
 refine rs_op rfl (ow_assign rfl ?_)
 refine rs_nil ?_
 refine ew_next ?_
 refine cw_seq ?_
 refine cw_region ?_
 refine rs_op rfl (ow_move rfl ?_)
 refine rs_op rfl (ow_add (z := 40000000000000005) rfl rfl (by kernel_rfl) ?_)
 refine rs_op rfl (ow_shr (z := 10000000000000001) rfl rfl (by decide) (by kernel_rfl) ?_)
 refine rs_op rfl (ow_assign rfl ?_)
 refine rs_nil ?_
 refine ew_next ?_
 refine cw_ret ?_
 refine ew_ret (rs := [.tmp 2]) (vs := [.int .u64 10000000000000001]) rfl ⟨rfl, trivial⟩ ?_
 exact ⟨rfl, (LW.step E XLW).toBelow⟩
section
variable (w : World)
theorem prescale_1 (gp : Nat) (hB : Blk w gp 229 #[.int .u64 0, .int .u64 0, .int .i64 0]) (ht : Ten16 w) (hne : gp ≠ 13) :
 Calls Tryz.prog 192 #[.pointer (some ⟨gp, 0, none⟩), .int .i64 (-63), .int .i64 16, .int .i64 53] w fun e w' => e = .returned (.tuple #[]) ∧ Blk w' gp 229 #[.int .u64 10240000000000000000, .int .u64 0, .int .i64 7] ∧ Ext (Mut [some gp]) w w' := by
 have hn : ¬ Mut [some gp] 13 := fun h => h.elim (fun e => hne (Option.some.inj e).symm) (fun e => e.elim)
 refine calls_cw Tryz.func192 rfl Tryz.ntmps192 rfl ?_
 have Bp := hB
 have HF : Per (Mut [(some gp)]) w (fun _ => True) := Per.true_
 have LW := Ext.refl (Mut [(some gp)]) w
 have XLW : ∀ q9, (Mut [(some gp)]) q9 → (Mut [(some gp)]) q9 ∨ w.heap.size ≤ q9 := fun _ h => Or.inl h
 have E := Ext.refl (Mut [(some gp)]) w
 replace HF := HF.on E
 replace LW := LW.step E XLW
 replace E := Ext.refl (Mut [(some gp)]) w
 replace HF := HF.and ((fun b hb => (hb.cell (p := ⟨13, 728, none⟩) (World.block_lt_of_cell? w _ ht.1) hn).trans ht.1 : Per (Mut [some gp]) w (fun b => b.cell? ⟨13, 728, none⟩ = some (.int .u64 10240000000000000000))))
 replace HF := HF.on E
 replace LW := LW.step E XLW
 replace E := Ext.refl (Mut [(some gp)]) w
 replace HF := HF.and ((fun b hb => (hb.cell (p := ⟨13, 729, none⟩) (World.block_lt_of_cell? w _ ht.2) hn).trans ht.2 : Per (Mut [some gp]) w (fun b => b.cell? ⟨13, 729, none⟩ = some (.int .u64 0))))
 refine cw_seq ?_
 refine cw_region ?_
 refine rs_op rfl (ow_move rfl ?_)
 refine rs_op rfl (ow_move rfl ?_)
 refine rs_op rfl (ow_sub (z := 364) rfl rfl (by kernel_rfl) ?_)
 refine rs_op rfl (ow_indexAddrG (j := 364) Tryz.underlying254 sz253 rfl rfl rfl (by decide) ?_)
 refine rs_op rfl (ow_fieldAddr Tryz.underlying253 rfl sz32 (by decide) rfl ?_)
 refine rs_op rfl (ow_load1 Tryz.underlying32 rfl rfl (HF.on E).here.1.2 ?_)
 refine rs_op rfl (ow_nilCheck rfl ?_)
 refine rs_op rfl (ow_fieldAddr Tryz.underlying229 rfl sz32 (by decide) rfl ?_)
 refine rs_op0 (ow_storeM sz32 rfl rfl Bp rfl rfl (Nat.le_of_ble_eq_true rfl) ?_)
 intro w1 Bx Ep
 replace Bp := Bx
 clear Bx
 replace E := E.step1 Ep Mut.head
 clear Ep
 refine rs_nil ?_
 refine ew_next ?_
 refine cw_seq ?_
 refine cw_region ?_
 refine rs_op rfl (ow_move rfl ?_)
 refine rs_op rfl (ow_move rfl ?_)
 refine rs_op rfl (ow_sub (z := 364) rfl rfl (by kernel_rfl) ?_)
 refine rs_op rfl (ow_indexAddrG (j := 364) Tryz.underlying254 sz253 rfl rfl rfl (by decide) ?_)
 refine rs_op rfl (ow_fieldAddr Tryz.underlying253 rfl sz32 (by decide) rfl ?_)
 refine rs_op rfl (ow_load1 Tryz.underlying32 rfl rfl (HF.on E).here.2 ?_)
 refine rs_op rfl (ow_nilCheck rfl ?_)
 refine rs_op rfl (ow_fieldAddr Tryz.underlying229 rfl sz32 (by decide) rfl ?_)
 refine rs_op0 (ow_storeM sz32 rfl rfl Bp rfl rfl (Nat.le_of_ble_eq_true rfl) ?_)
 intro w2 Bx Ep
 replace Bp := Bx
 clear Bx
 replace E := E.step1 Ep Mut.head
 clear Ep
 refine rs_nil ?_
 refine ew_next ?_
 refine cw_region ?_
 refine rs_op rfl (ow_move rfl ?_)
 refine rs_op rfl (ow_move rfl ?_)
 refine rs_op rfl (ow_move rfl ?_)
 refine rs_op rfl (ow_add (z := (-10)) rfl rfl (by kernel_rfl) ?_)
 refine rs_op rfl (ow_add (z := (-7)) rfl rfl (by kernel_rfl) ?_)
 refine rs_op rfl (ow_neg (z := 7) rfl (by kernel_rfl) ?_)
 refine rs_op rfl (ow_nilCheck rfl ?_)
 refine rs_op rfl (ow_fieldAddr Tryz.underlying229 rfl sz3 (by decide) rfl ?_)
 refine rs_op0 (ow_storeM sz3 rfl rfl Bp rfl rfl (Nat.le_of_ble_eq_true rfl) ?_)
 intro w3 Bx Ep
 replace Bp := Bx
 clear Bx
 replace E := E.step1 Ep Mut.head
 clear Ep
 replace HF := HF.on E
 replace LW := LW.step E XLW
 have SB : ∀ q9, No q9 → Mut [(some gp)] q9 := (Mut.skip Mut.nil_)
 replace HF := HF.less SB
 replace XLW := fun k h => XLW k (SB k h)
 clear SB
 replace E := Ext.refl (No) w3
 replace HF := HF.and (Per.blkN Bp NotIn.nil)
 clear Bp
 refine rs_nil ?_
 refine ew_end rfl ?_
 exact ⟨rfl, (HF.on E).here.2, (LW.step E XLW)⟩
theorem uscale_a (gp : Nat) (hB : Blk w gp 229 #[.int .u64 10240000000000000000, .int .u64 0, .int .i64 7]) : Calls Tryz.prog 194 #[.int .u64 9223372036854775296, .pointer (some ⟨gp, 0, none⟩)] w fun e w' => e = .returned (.int .u64 39999999999999997) ∧ Below w.heap.size w w' := by
 refine calls_cw Tryz.func194 rfl Tryz.ntmps194 rfl ?_
 have HF : Per (No) w (fun _ => True) := Per.true_
 have LW := Ext.refl (No) w
 have XLW : ∀ q9, (No) q9 → (No) q9 ∨ w.heap.size ≤ q9 := fun _ h => Or.inl h
 have E := Ext.refl (No) w
 replace HF := HF.on E
 replace LW := LW.step E XLW
 replace E := Ext.refl (No) w
 replace HF := HF.and (Per.blk hB (fun h => h.elim))
 refine cw_seq ?_
 refine cw_region ?_
 refine rs_op rfl (ow_assign rfl ?_)
 refine rs_nil ?_
 refine ew_next ?_
 refine cw_seq ?_
 refine cw_region ?_
 refine rs_op rfl (ow_move rfl ?_)
 refine rs_op rfl (ow_move rfl ?_)
 refine rs_op rfl (ow_nilCheck rfl ?_)
 refine rs_op rfl (ow_fieldAddr Tryz.underlying229 rfl sz32 (by decide) rfl ?_)
 refine rs_op rfl (ow_loadF Tryz.underlying32 rfl rfl (HF.on E).here.2 rfl ?_)
 refine rs_op rfl (ow_enter en70 rfl ((co70_1 _).mono ?_))
 rintro e w1 ⟨rfl, hb⟩
 refine ⟨_, rfl, ?_⟩
 have Ec := Ext.of_below hb No
 replace E := E.trans Ec.no
 clear hb Ec
 refine rs_op rfl (ow_move rfl ?_)
 refine rs_op rfl (ow_extract rfl rfl ?_)
 refine rs_op rfl (ow_extract rfl rfl ?_)
 refine rs_op rfl (ow_assign rfl ?_)
 refine rs_op rfl (ow_assign rfl ?_)
 refine rs_nil ?_
 refine ew_next ?_
 refine cw_seq ?_
 refine cw_region ?_
 refine rs_op rfl (ow_move rfl ?_)
 refine rs_op rfl (ow_nilCheck rfl ?_)
 refine rs_op rfl (ow_fieldAddr Tryz.underlying229 rfl sz3 (by decide) rfl ?_)
 refine rs_op rfl (ow_loadF Tryz.underlying3 rfl rfl (HF.on E).here.2 rfl ?_)
 refine rs_op rfl (ow_and (z := 7) rfl rfl (by kernel_rfl) ?_)
 refine rs_op rfl (ow_assign rfl ?_)
 refine rs_nil ?_
 refine ew_next ?_
 refine cw_seq ?_
 refine cw_seq ?_
 refine cw_region ?_
 refine rs_op rfl (ow_move rfl ?_)
 refine rs_op rfl (ow_move rfl ?_)
 refine rs_op rfl (ow_shr (z := 39999999999999997) rfl rfl (by decide) (by kernel_rfl) ?_)
 refine rs_op rfl (ow_move rfl ?_)
 refine rs_op rfl (ow_shl (z := 5119999999999999616) rfl rfl (by decide) (by kernel_rfl) ?_)
 refine rs_op rfl (ow_move rfl ?_)
 refine rs_op rfl (ow_neq rfl rfl ?_)
 refine rs_nil ?_
 refine ew_next ?_
 refine cw_then rfl ?_
 refine cw_seq ?_
 refine cw_region ?_
 refine rs_op rfl (ow_move rfl ?_)
 refine rs_op rfl (ow_move rfl ?_)
 refine rs_op rfl (ow_shr (z := 39999999999999997) rfl rfl (by decide) (by kernel_rfl) ?_)
 refine rs_op rfl (ow_or (z := 39999999999999997) rfl rfl (by kernel_rfl) ?_)
 refine rs_op rfl (ow_assign rfl ?_)
 refine rs_nil ?_
 refine ew_next ?_
 refine cw_ret ?_
 refine ew_then_ret ?_
 refine ew_ret (rs := [.tmp 4]) (vs := [_]) rfl ⟨rfl, trivial⟩ ?_
 exact ⟨rfl, (LW.step E XLW).toBelow⟩
theorem uscale_b (gp : Nat) (hB : Blk w gp 229 #[.int .u64 10240000000000000000, .int .u64 0, .int .i64 7]) : Calls Tryz.prog 194 #[.int .u64 9223372036854776832, .pointer (some ⟨gp, 0, none⟩)] w fun e w' => e = .returned (.int .u64 40000000000000005) ∧ Below w.heap.size w w' := by
 refine calls_cw Tryz.func194 rfl Tryz.ntmps194 rfl ?_
 have HF : Per (No) w (fun _ => True) := Per.true_
 have LW := Ext.refl (No) w
 have XLW : ∀ q9, (No) q9 → (No) q9 ∨ w.heap.size ≤ q9 := fun _ h => Or.inl h
 have E := Ext.refl (No) w
 replace HF := HF.on E
 replace LW := LW.step E XLW
 replace E := Ext.refl (No) w
 replace HF := HF.and (Per.blk hB (fun h => h.elim))
 refine cw_seq ?_
 refine cw_region ?_
 refine rs_op rfl (ow_assign rfl ?_)
 refine rs_nil ?_
 refine ew_next ?_
 refine cw_seq ?_
 refine cw_region ?_
 refine rs_op rfl (ow_move rfl ?_)
 refine rs_op rfl (ow_move rfl ?_)
 refine rs_op rfl (ow_nilCheck rfl ?_)
 refine rs_op rfl (ow_fieldAddr Tryz.underlying229 rfl sz32 (by decide) rfl ?_)
 refine rs_op rfl (ow_loadF Tryz.underlying32 rfl rfl (HF.on E).here.2 rfl ?_)
 refine rs_op rfl (ow_enter en70 rfl ((co70_2 _).mono ?_))
 rintro e w1 ⟨rfl, hb⟩
 refine ⟨_, rfl, ?_⟩
 have Ec := Ext.of_below hb No
 replace E := E.trans Ec.no
 clear hb Ec
 refine rs_op rfl (ow_move rfl ?_)
 refine rs_op rfl (ow_extract rfl rfl ?_)
 refine rs_op rfl (ow_extract rfl rfl ?_)
 refine rs_op rfl (ow_assign rfl ?_)
 refine rs_op rfl (ow_assign rfl ?_)
 refine rs_nil ?_
 refine ew_next ?_
 refine cw_seq ?_
 refine cw_region ?_
 refine rs_op rfl (ow_move rfl ?_)
 refine rs_op rfl (ow_nilCheck rfl ?_)
 refine rs_op rfl (ow_fieldAddr Tryz.underlying229 rfl sz3 (by decide) rfl ?_)
 refine rs_op rfl (ow_loadF Tryz.underlying3 rfl rfl (HF.on E).here.2 rfl ?_)
 refine rs_op rfl (ow_and (z := 7) rfl rfl (by kernel_rfl) ?_)
 refine rs_op rfl (ow_assign rfl ?_)
 refine rs_nil ?_
 refine ew_next ?_
 refine cw_seq ?_
 refine cw_seq ?_
 refine cw_region ?_
 refine rs_op rfl (ow_move rfl ?_)
 refine rs_op rfl (ow_move rfl ?_)
 refine rs_op rfl (ow_shr (z := 40000000000000004) rfl rfl (by decide) (by kernel_rfl) ?_)
 refine rs_op rfl (ow_move rfl ?_)
 refine rs_op rfl (ow_shl (z := 5120000000000000512) rfl rfl (by decide) (by kernel_rfl) ?_)
 refine rs_op rfl (ow_move rfl ?_)
 refine rs_op rfl (ow_neq rfl rfl ?_)
 refine rs_nil ?_
 refine ew_next ?_
 refine cw_then rfl ?_
 refine cw_seq ?_
 refine cw_region ?_
 refine rs_op rfl (ow_move rfl ?_)
 refine rs_op rfl (ow_move rfl ?_)
 refine rs_op rfl (ow_shr (z := 40000000000000004) rfl rfl (by decide) (by kernel_rfl) ?_)
 refine rs_op rfl (ow_or (z := 40000000000000005) rfl rfl (by kernel_rfl) ?_)
 refine rs_op rfl (ow_assign rfl ?_)
 refine rs_nil ?_
 refine ew_next ?_
 refine cw_ret ?_
 refine ew_then_ret ?_
 refine ew_ret (rs := [.tmp 4]) (vs := [_]) rfl ⟨rfl, trivial⟩ ?_
 exact ⟨rfl, (LW.step E XLW).toBelow⟩
theorem short_1 (ht : ∀ b, Below w.heap.size w b → Ten16 b) (hg : 13 < w.heap.size) : Calls Tryz.prog 164 #[.int .u64 9223372036854775808, .int .i64 (-63)] w fun e w' => e = .returned (.tuple #[.int .u64 1000000000000000, .int .i64 (-15)]) ∧ Below w.heap.size w w' := by
 refine calls_cw Tryz.func164 rfl Tryz.ntmps164 rfl ?_
 have HF : Per (No) w (fun _ => True) := Per.true_
 have LW := Ext.refl (No) w
 have XLW : ∀ q9, (No) q9 → (No) q9 ∨ w.heap.size ≤ q9 := fun _ h => Or.inl h
 have E := Ext.refl (No) w
 refine cw_seq ?_
 refine cw_region ?_
 refine rs_op rfl (ow_assign rfl ?_)
 refine rs_op rfl (ow_assign rfl ?_)
 refine rs_nil ?_
 refine ew_next ?_
 refine cw_seq ?_
 refine cw_region ?_
 refine rs_op rfl (ow_assign rfl ?_)
 refine rs_op rfl (ow_assign rfl ?_)
 refine rs_nil ?_
 refine ew_next ?_
 refine cw_seq ?_
 refine cw_seq ?_
 refine cw_region ?_
 refine rs_op rfl (ow_mul (z := 64) rfl rfl (by kernel_rfl) ?_)
 refine rs_nil ?_
 refine ew_next ?_
 refine cw_block ?_
 refine cw_seq ?_
 refine cw_region ?_
 refine rs_op rfl (ow_eql rfl rfl ?_)
 refine rs_op rfl (ow_assign rfl ?_)
 refine rs_nil ?_
 refine ew_next ?_
 refine cw_else rfl ?_
 refine cw_seq ?_
 refine cw_region ?_
 refine rs_op rfl (ow_eql rfl rfl ?_)
 refine rs_op rfl (ow_assign rfl ?_)
 refine rs_nil ?_
 refine ew_next ?_
 refine cw_then rfl ?_
 refine cw_seq ?_
 refine cw_region ?_
 refine rs_op rfl (ow_assign rfl ?_)
 refine rs_nil ?_
 refine ew_next ?_
 refine cw_region ?_
 refine rs_op rfl (ow_assign rfl ?_)
 refine rs_nil ?_
 refine ew_block_normal ?_
 refine ew_next ?_
 refine cw_seq ?_
 refine cw_region ?_
 refine rs_op rfl (ow_assign rfl ?_)
 refine rs_op rfl (ow_assign rfl ?_)
 refine rs_nil ?_
 refine ew_next ?_
 refine cw_seq ?_
 refine cw_region ?_
 refine rs_op rfl (ow_assign rfl ?_)
 refine rs_nil ?_
 refine ew_next ?_
 refine cw_seq ?_
 refine cw_region ?_
 refine rs_op rfl (ow_move rfl ?_)
 refine rs_op rfl (ow_sub (z := 11) rfl rfl (by kernel_rfl) ?_)
 refine rs_op rfl (ow_assign rfl ?_)
 refine rs_nil ?_
 refine ew_next ?_
 refine cw_seq ?_
 refine cw_seq ?_
 refine cw_region ?_
 refine rs_op rfl (ow_move rfl ?_)
 refine rs_op rfl (ow_eql rfl rfl ?_)
 refine rs_op rfl (ow_move rfl ?_)
 refine rs_op rfl (ow_on rfl (ow_move rfl ?_))
 refine rs_op rfl (ow_on rfl (ow_move rfl ?_))
 refine rs_op rfl (ow_on rfl (ow_gtr rfl rfl ?_))
 refine rs_op rfl (ow_pickT rfl rfl ?_)
 refine rs_nil ?_
 refine ew_next ?_
 refine cw_then rfl ?_
 refine cw_seq ?_
 refine cw_region ?_
 refine rs_op rfl (ow_move rfl ?_)
 refine rs_op rfl (ow_move rfl ?_)
 refine rs_op rfl (ow_add (z := (-52)) rfl rfl (by kernel_rfl) ?_)
 refine rs_op rfl (ow_enter en191 rfl ((co191_3 _).mono ?_))
 rintro e w1 ⟨rfl, hb⟩
 refine ⟨_, rfl, ?_⟩
 have Ec := Ext.of_below hb No
 replace E := E.trans Ec.no
 clear hb Ec
 refine rs_op rfl (ow_neg (z := 16) rfl (by kernel_rfl) ?_)
 refine rs_op rfl (ow_assign rfl ?_)
 refine rs_nil ?_
 refine ew_next ?_
 refine cw_seq ?_
 refine cw_region ?_
 refine rs_op rfl (ow_move rfl ?_)
 refine rs_op rfl (ow_move rfl ?_)
 refine rs_op rfl (ow_sub (z := 9) rfl rfl (by kernel_rfl) ?_)
 refine rs_op rfl (ow_shl (z := 512) rfl rfl (by decide) (by kernel_rfl) ?_)
 refine rs_op rfl (ow_sub (z := 9223372036854775296) rfl rfl (by kernel_rfl) ?_)
 refine rs_op rfl (ow_assign rfl ?_)
 refine rs_nil ?_
 refine ew_next ?_
 refine cw_seq ?_
 refine cw_region ?_
 refine rs_op rfl (ow_move rfl ?_)
 refine rs_op rfl (ow_move rfl ?_)
 refine rs_op rfl (ow_sub (z := 10) rfl rfl (by kernel_rfl) ?_)
 refine rs_op rfl (ow_shl (z := 1024) rfl rfl (by decide) (by kernel_rfl) ?_)
 refine rs_op rfl (ow_add (z := 9223372036854776832) rfl rfl (by kernel_rfl) ?_)
 refine rs_op rfl (ow_assign rfl ?_)
 refine rs_nil ?_
 refine ew_next ?_
 refine cw_region ?_
 refine rs_op rfl (ow_move rfl ?_)
 refine rs_op rfl (ow_move rfl ?_)
 refine rs_op rfl (ow_shr (z := 4503599627370496) rfl rfl (by decide) (by kernel_rfl) ?_)
 refine rs_op rfl (ow_conv (z := 4503599627370496) Tryz.underlying3 Tryz.underlying32 rfl (by kernel_rfl) ?_)
 refine rs_op rfl (ow_and (z := 0) rfl rfl (by kernel_rfl) ?_)
 refine rs_op rfl (ow_assign rfl ?_)
 refine rs_nil ?_
 refine ew_next ?_
 refine cw_seq ?_
 refine cw_region ?_
 refine rs_op rfl (ow_allocB zr229 ?_)
 intro gb2 w3 Bb2 Eb2 Gb2
 have Gb2 : _ ≤ gb2 := Nat.le_trans E.size Gb2
 have GLb2 := Nat.le_trans LW.size Gb2
 replace E := E.trans Eb2.no
 clear Eb2
 replace HF := HF.cons (some_ge Gb2)
 replace E := E.cons (some gb2)
 replace XLW := Mut.grow XLW (fun k e => Or.inr (Nat.le_trans LW.size ((some_ge Gb2) k e)))
 refine rs_nil ?_
 refine ew_next ?_
 refine cw_seq ?_
 refine cw_region ?_
 refine rs_op rfl (ow_move rfl ?_)
 refine rs_op rfl (ow_move rfl ?_)
 refine rs_op rfl (ow_move rfl ?_)
 refine rs_op rfl (ow_enter en193 rfl ((co193_4 _).mono ?_))
 rintro e w4 ⟨rfl, hb⟩
 refine ⟨_, rfl, ?_⟩
 have Ec := Ext.of_below hb No
 replace Bb2 := Bb2.extN Ec NotIn.nil
 replace E := E.trans Ec.no
 clear hb Ec
 refine rs_op rfl (ow_enter en192 rfl ((prescale_1 _ gb2 Bb2 (ht _ (LW.step E XLW).toBelow) (by omega)).mono ?_))
 rintro e w5 ⟨rfl, hB, hE⟩
 refine ⟨_, rfl, ?_⟩
 replace Bb2 := hB
 clear hB
 replace E := E.step1 hE Mut.head
 clear hE
 refine rs_nil ?_
 refine ew_next ?_
 refine cw_seq ?_
 refine cw_region ?_
 refine rs_op rfl (ow_move rfl ?_)
 replace HF := HF.on E
 replace LW := LW.step E XLW
 have SB : ∀ q9, No q9 → Mut [(some gb2)] q9 := (Mut.skip Mut.nil_)
 replace HF := HF.less SB
 replace XLW := fun k h => XLW k (SB k h)
 clear SB
 replace E := Ext.refl (No) w5
 replace HF := HF.and (Per.blkN Bb2 NotIn.nil)
 clear Bb2
 refine rs_op rfl (ow_enter en194 rfl ((uscale_a _ gb2 (HF.on E).here.2).mono ?_))
 rintro e w6 ⟨rfl, hb⟩
 refine ⟨_, rfl, ?_⟩
 have Ec := Ext.of_below hb No
 replace E := E.trans Ec.no
 clear hb Ec
 refine rs_op rfl (ow_move rfl ?_)
 refine rs_op rfl (ow_enter en195 rfl ((co195_5 _).mono ?_))
 rintro e w7 ⟨rfl, hb⟩
 refine ⟨_, rfl, ?_⟩
 have Ec := Ext.of_below hb No
 replace E := E.trans Ec.no
 clear hb Ec
 refine rs_op rfl (ow_enter en196 rfl ((co196_6 _).mono ?_))
 rintro e w8 ⟨rfl, hb⟩
 refine ⟨_, rfl, ?_⟩
 have Ec := Ext.of_below hb No
 replace E := E.trans Ec.no
 clear hb Ec
 refine rs_op rfl (ow_assign rfl ?_)
 refine rs_nil ?_
 refine ew_next ?_
 refine cw_seq ?_
 refine cw_region ?_
 refine rs_op rfl (ow_move rfl ?_)
 refine rs_op rfl (ow_enter en194 rfl ((uscale_b _ gb2 (HF.on E).here.2).mono ?_))
 rintro e w9 ⟨rfl, hb⟩
 refine ⟨_, rfl, ?_⟩
 have Ec := Ext.of_below hb No
 replace E := E.trans Ec.no
 clear hb Ec
 refine rs_op rfl (ow_move rfl ?_)
 refine rs_op rfl (ow_neg (z := 0) rfl (by kernel_rfl) ?_)
 refine rs_op rfl (ow_enter en195 rfl ((co195_7 _).mono ?_))
 rintro e w10 ⟨rfl, hb⟩
 refine ⟨_, rfl, ?_⟩
 have Ec := Ext.of_below hb No
 replace E := E.trans Ec.no
 clear hb Ec
 refine rs_op rfl (ow_enter en197 rfl ((co197_8 _).mono ?_))
 rintro e w11 ⟨rfl, hb⟩
 refine ⟨_, rfl, ?_⟩
 have Ec := Ext.of_below hb No
 replace E := E.trans Ec.no
 clear hb Ec
 refine rs_op rfl (ow_assign rfl ?_)
 refine rs_nil ?_
 refine ew_next ?_
 refine cw_seq ?_
 refine cw_seq ?_
 refine cw_region ?_
 refine rs_op rfl (ow_move rfl ?_)
 refine rs_op rfl (ow_quo (z := 1000000000000000) rfl rfl (by decide) (by kernel_rfl) ?_)
 refine rs_op rfl (ow_assign rfl ?_)
 refine rs_nil ?_
 refine ew_next ?_
 refine cw_seq ?_
 refine cw_region ?_
 refine rs_op rfl (ow_move rfl ?_)
 refine rs_op rfl (ow_mul (z := 10000000000000000) rfl rfl (by kernel_rfl) ?_)
 refine rs_op rfl (ow_move rfl ?_)
 refine rs_op rfl (ow_geq rfl rfl ?_)
 refine rs_nil ?_
 refine ew_next ?_
 refine cw_then rfl ?_
 refine cw_seq ?_
 refine cw_region ?_
 refine rs_op rfl (ow_move rfl ?_)
 refine rs_op rfl (ow_move rfl ?_)
 refine rs_op rfl (ow_sub (z := 15) rfl rfl (by kernel_rfl) ?_)
 refine rs_op rfl (ow_neg (z := (-15)) rfl (by kernel_rfl) ?_)
 refine rs_op rfl (ow_assign rfl ?_)
 refine rs_op rfl (ow_assign rfl ?_)
 refine rs_nil ?_
 refine ew_next ?_
 refine cw_ret ?_
 refine ew_then_ret ?_
 refine ew_ret (rs := [.tmp 4, .tmp 5]) (vs := [_, _]) rfl ⟨rfl, rfl, trivial⟩ ?_
 exact ⟨rfl, (LW.step E XLW).toBelow⟩
end
end Go.Proofs.YtjdcjdohghkcgaaGreatDoor
namespace Go.Proofs.YtjdcjdohghkcgaaGreatDoor
open Go.RowKit
set_option maxRecDepth 100000
theorem putRow_ext (w : World) (g off : Nat) (dk : Array UInt8) (n : Nat) : Ext (Mut [some g]) w ((Sort.putRow (fun (b : UInt8) => Value.int .u8 (b.toNat : Int)) w g off dk).drewN n) := by
 refine ⟨rfl, rfl, rfl, ?_, ?_⟩
 · simp [Sort.putRow, Sort.mapBlock, World.drewN]
 · intro i hi hx
   have hne : g ≠ i := fun e => hx (Or.inl (congrArg some e.symm))
   simp [Sort.putRow, Sort.mapBlock, World.drewN, Array.getElem?_modify, hne]
theorem fmt16 (w : World) (g : Nat) (hB0 : Blk w g 185 (Array.replicate 32 (.int .u8 0))) :
 Calls Tryz.prog 170 #[.slice (some ⟨g, 0, none⟩) 16 32, .int .u64 1000000000000000] w fun e w' => e = .returned (.tuple #[]) ∧
  Blk w' g 185 #[.int .u8 49, .int .u8 48, .int .u8 48, .int .u8 48, .int .u8 48, .int .u8 48, .int .u8 48, .int .u8 48, .int .u8 48, .int .u8 48, .int .u8 48, .int .u8 48, .int .u8 48, .int .u8 48, .int .u8 48, .int .u8 48, .int .u8 0, .int .u8 0, .int .u8 0, .int .u8 0, .int .u8 0, .int .u8 0, .int .u8 0, .int .u8 0, .int .u8 0, .int .u8 0, .int .u8 0, .int .u8 0, .int .u8 0, .int .u8 0, .int .u8 0, .int .u8 0] ∧ Ext (Mut [some g]) w w' := by
 have hn : Lib.nDigits 1000000000000000 = 16 := by kernel_rfl
 have hsz : (Array.replicate 16 (0 : UInt8)).size = 16 := by simp
 have hH : Sort.Holds (fun (b : UInt8) => Value.int .u8 (b.toNat : Int)) w g 0 (Array.replicate 16 0) := by
  intro j hj
  rw [hsz] at hj
  have hj24 : j < 32 := by omega
  refine ⟨?_, ?_⟩
  · rw [hB0.cell]
    simp [hj, hj24]
  · unfold World.frozen?
    simp [show w.heap[g]? = some (.cells (Array.replicate 32 (.int .u8 0)) 185 (0, 0)) from hB0]
 have h := Tryz.internal_strconv_formatBase10 g 0 32 1000000000000000 (Array.replicate 16 0) w hH (by rw [hsz]; decide) (by decide) (by rw [hsz]; decide)
 rw [hsz] at h
 refine h.mono fun e w' ⟨he, n, v', dk, hw, hF⟩ => ⟨he, ?_⟩
 have hdk : dk = #[49, 48, 48, 48, 48, 48, 48, 48, 48, 48, 48, 48, 48, 48, 48, 48] := by
  have hl : Lib.decDigits 1000000000000000 = [49, 48, 48, 48, 48, 48, 48, 48, 48, 48, 48, 48, 48, 48, 48, 48] := by kernel_rfl
  have hs : dk.size = 16 := hF.size
  refine Array.ext (by rw [hs]; rfl) fun j h1 h2 => ?_
  rw [← hn] at hF
  have := Lib.row_is_numeral hF j (by rw [hl]; rw [hs] at h1; exact h1)
  have h3 : dk[j]! = dk[j] := getElem!_pos dk j h1
  have h4 := List.getElem_of_eq hl (i := j) (by rw [hl]; rw [hs] at h1; exact h1)
  rw [← h3, ← this, h4]
  rfl
 subst hw
 subst hdk
 refine ⟨?_, putRow_ext w g 0 _ n⟩
 show (Array.modify w.heap g _)[g]? = _
 rw [Array.getElem?_modify, if_pos rfl, show w.heap[g]? = some (.cells (Array.replicate 32 (.int .u8 0)) 185 (0, 0)) from hB0]
 rfl
theorem set_1 (w : World) (gp : Nat) (hB : Blk w gp 185 #[.int .u8 0, .int .u8 0, .int .u8 0, .int .u8 0, .int .u8 0, .int .u8 0, .int .u8 0, .int .u8 0, .int .u8 0, .int .u8 0, .int .u8 0, .int .u8 0, .int .u8 0, .int .u8 0, .int .u8 0, .int .u8 0, .int .u8 0, .int .u8 0, .int .u8 0, .int .u8 0, .int .u8 0, .int .u8 0, .int .u8 0, .int .u8 0, .int .u8 0, .int .u8 0, .int .u8 0, .int .u8 0, .int .u8 0, .int .u8 0, .int .u8 0, .int .u8 0]) : Calls Tryz.prog 157 #[.slice (some ⟨gp, 0, none⟩) 32 32, .int .u64 1000000000000000, .int .i64 (-15), .int .i64 16] w fun e w' => e = .returned (.tuple #[.int .i64 1, .int .i64 1]) ∧ Blk w' gp 185 #[.int .u8 49, .int .u8 48, .int .u8 48, .int .u8 48, .int .u8 48, .int .u8 48, .int .u8 48, .int .u8 48, .int .u8 48, .int .u8 48, .int .u8 48, .int .u8 48, .int .u8 48, .int .u8 48, .int .u8 48, .int .u8 48, .int .u8 0, .int .u8 0, .int .u8 0, .int .u8 0, .int .u8 0, .int .u8 0, .int .u8 0, .int .u8 0, .int .u8 0, .int .u8 0, .int .u8 0, .int .u8 0, .int .u8 0, .int .u8 0, .int .u8 0, .int .u8 0] ∧ Ext (Mut [some gp]) w w' := by
 refine calls_cw Tryz.func157 rfl Tryz.ntmps157 rfl ?_
 have Bp := hB
 have HF : Per (Mut [(some gp)]) w (fun _ => True) := Per.true_
 have LW := Ext.refl (Mut [(some gp)]) w
 have XLW : ∀ q9, (Mut [(some gp)]) q9 → (Mut [(some gp)]) q9 ∨ w.heap.size ≤ q9 := fun _ h => Or.inl h
 have E := Ext.refl (Mut [(some gp)]) w
 refine cw_seq ?_
 refine cw_region ?_
 refine rs_op rfl (ow_assign rfl ?_)
 refine rs_op rfl (ow_assign rfl ?_)
 refine rs_nil ?_
 refine ew_next ?_
 refine cw_seq ?_
 refine cw_seq ?_
 refine cw_region ?_
 refine rs_op rfl (ow_move rfl ?_)
 refine rs_op rfl (ow_move rfl ?_)
 refine rs_op rfl (ow_len Tryz.underlying97 rfl ?_)
 refine rs_set 12 (.int .i64 32) rfl (by kernel_rfl : (.int .i64 (32 : Nat) : Value) = _) ?_
 refine rs_op rfl (ow_leq rfl rfl ?_)
 refine rs_nil ?_
 refine ew_next ?_
 refine cw_then rfl ?_
 refine cw_seq ?_
 refine cw_region ?_
 refine rs_op rfl (ow_move rfl ?_)
 refine rs_op rfl (ow_move rfl ?_)
 refine rs_op rfl (ow_sliceH (h := 16) Tryz.underlying97 sz5 rfl rfl rfl (by decide) ?_)
 refine rs_op rfl (ow_move rfl ?_)
 refine rs_op rfl (ow_enter en170 rfl ((fmt16 _ gp Bp).mono ?_))
 rintro e w1 ⟨rfl, hB, hE⟩
 refine ⟨_, rfl, ?_⟩
 replace Bp := hB
 clear hB
 replace E := E.step1 hE Mut.head
 clear hE
 refine rs_nil ?_
 refine ew_next ?_
 refine cw_seq ?_
 refine cw_region ?_
 refine rs_op rfl (ow_move rfl ?_)
 refine rs_op rfl (ow_move rfl ?_)
 refine rs_op rfl (ow_add (z := 1) rfl rfl (by kernel_rfl) ?_)
 refine rs_op rfl (ow_assign rfl ?_)
 refine rs_nil ?_
 refine ew_next ?_
 refine cw_block ?_
 refine cw_unroll ?_
 refine cw_seq ?_
 refine cw_seq ?_
 refine cw_region ?_
 refine rs_op rfl (ow_move rfl ?_)
 refine rs_op rfl (ow_gtr rfl rfl ?_)
 refine rs_op rfl (ow_move rfl ?_)
 refine rs_op rfl (ow_on rfl (ow_move rfl ?_))
 refine rs_op rfl (ow_on rfl (ow_move rfl ?_))
 refine rs_op rfl (ow_on rfl (ow_sub (z := 15) rfl rfl (by kernel_rfl) ?_))
 refine rs_op rfl (ow_on rfl (ow_indexAddr1 (j := 15) Tryz.underlying97 sz5 rfl rfl rfl (by decide) ?_))
 refine rs_op rfl (ow_on rfl (ow_loadF Tryz.underlying5 rfl rfl Bp rfl ?_))
 refine rs_op rfl (ow_on rfl (ow_eql rfl rfl ?_))
 refine rs_op rfl (ow_pickT rfl rfl ?_)
 refine rs_nil ?_
 refine ew_next ?_
 refine cw_then rfl ?_
 refine cw_skip ?_
 refine ew_next ?_
 refine cw_block ?_
 refine cw_region ?_
 refine rs_op rfl (ow_move rfl ?_)
 refine rs_op rfl (ow_sub (z := 15) rfl rfl (by kernel_rfl) ?_)
 refine rs_op rfl (ow_assign rfl ?_)
 refine rs_nil ?_
 refine ew_block_normal ?_
 refine ew_again ?_
 refine cw_seq ?_
 refine cw_seq ?_
 refine cw_region ?_
 refine rs_op rfl (ow_move rfl ?_)
 refine rs_op rfl (ow_gtr rfl rfl ?_)
 refine rs_op rfl (ow_move rfl ?_)
 refine rs_op rfl (ow_on rfl (ow_move rfl ?_))
 refine rs_op rfl (ow_on rfl (ow_move rfl ?_))
 refine rs_op rfl (ow_on rfl (ow_sub (z := 14) rfl rfl (by kernel_rfl) ?_))
 refine rs_op rfl (ow_on rfl (ow_indexAddr1 (j := 14) Tryz.underlying97 sz5 rfl rfl rfl (by decide) ?_))
 refine rs_op rfl (ow_on rfl (ow_loadF Tryz.underlying5 rfl rfl Bp rfl ?_))
 refine rs_op rfl (ow_on rfl (ow_eql rfl rfl ?_))
 refine rs_op rfl (ow_pickT rfl rfl ?_)
 refine rs_nil ?_
 refine ew_next ?_
 refine cw_then rfl ?_
 refine cw_skip ?_
 refine ew_next ?_
 refine cw_block ?_
 refine cw_region ?_
 refine rs_op rfl (ow_move rfl ?_)
 refine rs_op rfl (ow_sub (z := 14) rfl rfl (by kernel_rfl) ?_)
 refine rs_op rfl (ow_assign rfl ?_)
 refine rs_nil ?_
 refine ew_block_normal ?_
 refine ew_again ?_
 refine cw_seq ?_
 refine cw_seq ?_
 refine cw_region ?_
 refine rs_op rfl (ow_move rfl ?_)
 refine rs_op rfl (ow_gtr rfl rfl ?_)
 refine rs_op rfl (ow_move rfl ?_)
 refine rs_op rfl (ow_on rfl (ow_move rfl ?_))
 refine rs_op rfl (ow_on rfl (ow_move rfl ?_))
 refine rs_op rfl (ow_on rfl (ow_sub (z := 13) rfl rfl (by kernel_rfl) ?_))
 refine rs_op rfl (ow_on rfl (ow_indexAddr1 (j := 13) Tryz.underlying97 sz5 rfl rfl rfl (by decide) ?_))
 refine rs_op rfl (ow_on rfl (ow_loadF Tryz.underlying5 rfl rfl Bp rfl ?_))
 refine rs_op rfl (ow_on rfl (ow_eql rfl rfl ?_))
 refine rs_op rfl (ow_pickT rfl rfl ?_)
 refine rs_nil ?_
 refine ew_next ?_
 refine cw_then rfl ?_
 refine cw_skip ?_
 refine ew_next ?_
 refine cw_block ?_
 refine cw_region ?_
 refine rs_op rfl (ow_move rfl ?_)
 refine rs_op rfl (ow_sub (z := 13) rfl rfl (by kernel_rfl) ?_)
 refine rs_op rfl (ow_assign rfl ?_)
 refine rs_nil ?_
 refine ew_block_normal ?_
 refine ew_again ?_
 refine cw_seq ?_
 refine cw_seq ?_
 refine cw_region ?_
 refine rs_op rfl (ow_move rfl ?_)
 refine rs_op rfl (ow_gtr rfl rfl ?_)
 refine rs_op rfl (ow_move rfl ?_)
 refine rs_op rfl (ow_on rfl (ow_move rfl ?_))
 refine rs_op rfl (ow_on rfl (ow_move rfl ?_))
 refine rs_op rfl (ow_on rfl (ow_sub (z := 12) rfl rfl (by kernel_rfl) ?_))
 refine rs_op rfl (ow_on rfl (ow_indexAddr1 (j := 12) Tryz.underlying97 sz5 rfl rfl rfl (by decide) ?_))
 refine rs_op rfl (ow_on rfl (ow_loadF Tryz.underlying5 rfl rfl Bp rfl ?_))
 refine rs_op rfl (ow_on rfl (ow_eql rfl rfl ?_))
 refine rs_op rfl (ow_pickT rfl rfl ?_)
 refine rs_nil ?_
 refine ew_next ?_
 refine cw_then rfl ?_
 refine cw_skip ?_
 refine ew_next ?_
 refine cw_block ?_
 refine cw_region ?_
 refine rs_op rfl (ow_move rfl ?_)
 refine rs_op rfl (ow_sub (z := 12) rfl rfl (by kernel_rfl) ?_)
 refine rs_op rfl (ow_assign rfl ?_)
 refine rs_nil ?_
 refine ew_block_normal ?_
 refine ew_again ?_
 refine cw_seq ?_
 refine cw_seq ?_
 refine cw_region ?_
 refine rs_op rfl (ow_move rfl ?_)
 refine rs_op rfl (ow_gtr rfl rfl ?_)
 refine rs_op rfl (ow_move rfl ?_)
 refine rs_op rfl (ow_on rfl (ow_move rfl ?_))
 refine rs_op rfl (ow_on rfl (ow_move rfl ?_))
 refine rs_op rfl (ow_on rfl (ow_sub (z := 11) rfl rfl (by kernel_rfl) ?_))
 refine rs_op rfl (ow_on rfl (ow_indexAddr1 (j := 11) Tryz.underlying97 sz5 rfl rfl rfl (by decide) ?_))
 refine rs_op rfl (ow_on rfl (ow_loadF Tryz.underlying5 rfl rfl Bp rfl ?_))
 refine rs_op rfl (ow_on rfl (ow_eql rfl rfl ?_))
 refine rs_op rfl (ow_pickT rfl rfl ?_)
 refine rs_nil ?_
 refine ew_next ?_
 refine cw_then rfl ?_
 refine cw_skip ?_
 refine ew_next ?_
 refine cw_block ?_
 refine cw_region ?_
 refine rs_op rfl (ow_move rfl ?_)
 refine rs_op rfl (ow_sub (z := 11) rfl rfl (by kernel_rfl) ?_)
 refine rs_op rfl (ow_assign rfl ?_)
 refine rs_nil ?_
 refine ew_block_normal ?_
 refine ew_again ?_
 refine cw_seq ?_
 refine cw_seq ?_
 refine cw_region ?_
 refine rs_op rfl (ow_move rfl ?_)
 refine rs_op rfl (ow_gtr rfl rfl ?_)
 refine rs_op rfl (ow_move rfl ?_)
 refine rs_op rfl (ow_on rfl (ow_move rfl ?_))
 refine rs_op rfl (ow_on rfl (ow_move rfl ?_))
 refine rs_op rfl (ow_on rfl (ow_sub (z := 10) rfl rfl (by kernel_rfl) ?_))
 refine rs_op rfl (ow_on rfl (ow_indexAddr1 (j := 10) Tryz.underlying97 sz5 rfl rfl rfl (by decide) ?_))
 refine rs_op rfl (ow_on rfl (ow_loadF Tryz.underlying5 rfl rfl Bp rfl ?_))
 refine rs_op rfl (ow_on rfl (ow_eql rfl rfl ?_))
 refine rs_op rfl (ow_pickT rfl rfl ?_)
 refine rs_nil ?_
 refine ew_next ?_
 refine cw_then rfl ?_
 refine cw_skip ?_
 refine ew_next ?_
 refine cw_block ?_
 refine cw_region ?_
 refine rs_op rfl (ow_move rfl ?_)
 refine rs_op rfl (ow_sub (z := 10) rfl rfl (by kernel_rfl) ?_)
 refine rs_op rfl (ow_assign rfl ?_)
 refine rs_nil ?_
 refine ew_block_normal ?_
 refine ew_again ?_
 refine cw_seq ?_
 refine cw_seq ?_
 refine cw_region ?_
 refine rs_op rfl (ow_move rfl ?_)
 refine rs_op rfl (ow_gtr rfl rfl ?_)
 refine rs_op rfl (ow_move rfl ?_)
 refine rs_op rfl (ow_on rfl (ow_move rfl ?_))
 refine rs_op rfl (ow_on rfl (ow_move rfl ?_))
 refine rs_op rfl (ow_on rfl (ow_sub (z := 9) rfl rfl (by kernel_rfl) ?_))
 refine rs_op rfl (ow_on rfl (ow_indexAddr1 (j := 9) Tryz.underlying97 sz5 rfl rfl rfl (by decide) ?_))
 refine rs_op rfl (ow_on rfl (ow_loadF Tryz.underlying5 rfl rfl Bp rfl ?_))
 refine rs_op rfl (ow_on rfl (ow_eql rfl rfl ?_))
 refine rs_op rfl (ow_pickT rfl rfl ?_)
 refine rs_nil ?_
 refine ew_next ?_
 refine cw_then rfl ?_
 refine cw_skip ?_
 refine ew_next ?_
 refine cw_block ?_
 refine cw_region ?_
 refine rs_op rfl (ow_move rfl ?_)
 refine rs_op rfl (ow_sub (z := 9) rfl rfl (by kernel_rfl) ?_)
 refine rs_op rfl (ow_assign rfl ?_)
 refine rs_nil ?_
 refine ew_block_normal ?_
 refine ew_again ?_
 refine cw_seq ?_
 refine cw_seq ?_
 refine cw_region ?_
 refine rs_op rfl (ow_move rfl ?_)
 refine rs_op rfl (ow_gtr rfl rfl ?_)
 refine rs_op rfl (ow_move rfl ?_)
 refine rs_op rfl (ow_on rfl (ow_move rfl ?_))
 refine rs_op rfl (ow_on rfl (ow_move rfl ?_))
 refine rs_op rfl (ow_on rfl (ow_sub (z := 8) rfl rfl (by kernel_rfl) ?_))
 refine rs_op rfl (ow_on rfl (ow_indexAddr1 (j := 8) Tryz.underlying97 sz5 rfl rfl rfl (by decide) ?_))
 refine rs_op rfl (ow_on rfl (ow_loadF Tryz.underlying5 rfl rfl Bp rfl ?_))
 refine rs_op rfl (ow_on rfl (ow_eql rfl rfl ?_))
 refine rs_op rfl (ow_pickT rfl rfl ?_)
 refine rs_nil ?_
 refine ew_next ?_
 refine cw_then rfl ?_
 refine cw_skip ?_
 refine ew_next ?_
 refine cw_block ?_
 refine cw_region ?_
 refine rs_op rfl (ow_move rfl ?_)
 refine rs_op rfl (ow_sub (z := 8) rfl rfl (by kernel_rfl) ?_)
 refine rs_op rfl (ow_assign rfl ?_)
 refine rs_nil ?_
 refine ew_block_normal ?_
 refine ew_again ?_
 refine cw_seq ?_
 refine cw_seq ?_
 refine cw_region ?_
 refine rs_op rfl (ow_move rfl ?_)
 refine rs_op rfl (ow_gtr rfl rfl ?_)
 refine rs_op rfl (ow_move rfl ?_)
 refine rs_op rfl (ow_on rfl (ow_move rfl ?_))
 refine rs_op rfl (ow_on rfl (ow_move rfl ?_))
 refine rs_op rfl (ow_on rfl (ow_sub (z := 7) rfl rfl (by kernel_rfl) ?_))
 refine rs_op rfl (ow_on rfl (ow_indexAddr1 (j := 7) Tryz.underlying97 sz5 rfl rfl rfl (by decide) ?_))
 refine rs_op rfl (ow_on rfl (ow_loadF Tryz.underlying5 rfl rfl Bp rfl ?_))
 refine rs_op rfl (ow_on rfl (ow_eql rfl rfl ?_))
 refine rs_op rfl (ow_pickT rfl rfl ?_)
 refine rs_nil ?_
 refine ew_next ?_
 refine cw_then rfl ?_
 refine cw_skip ?_
 refine ew_next ?_
 refine cw_block ?_
 refine cw_region ?_
 refine rs_op rfl (ow_move rfl ?_)
 refine rs_op rfl (ow_sub (z := 7) rfl rfl (by kernel_rfl) ?_)
 refine rs_op rfl (ow_assign rfl ?_)
 refine rs_nil ?_
 refine ew_block_normal ?_
 refine ew_again ?_
 refine cw_seq ?_
 refine cw_seq ?_
 refine cw_region ?_
 refine rs_op rfl (ow_move rfl ?_)
 refine rs_op rfl (ow_gtr rfl rfl ?_)
 refine rs_op rfl (ow_move rfl ?_)
 refine rs_op rfl (ow_on rfl (ow_move rfl ?_))
 refine rs_op rfl (ow_on rfl (ow_move rfl ?_))
 refine rs_op rfl (ow_on rfl (ow_sub (z := 6) rfl rfl (by kernel_rfl) ?_))
 refine rs_op rfl (ow_on rfl (ow_indexAddr1 (j := 6) Tryz.underlying97 sz5 rfl rfl rfl (by decide) ?_))
 refine rs_op rfl (ow_on rfl (ow_loadF Tryz.underlying5 rfl rfl Bp rfl ?_))
 refine rs_op rfl (ow_on rfl (ow_eql rfl rfl ?_))
 refine rs_op rfl (ow_pickT rfl rfl ?_)
 refine rs_nil ?_
 refine ew_next ?_
 refine cw_then rfl ?_
 refine cw_skip ?_
 refine ew_next ?_
 refine cw_block ?_
 refine cw_region ?_
 refine rs_op rfl (ow_move rfl ?_)
 refine rs_op rfl (ow_sub (z := 6) rfl rfl (by kernel_rfl) ?_)
 refine rs_op rfl (ow_assign rfl ?_)
 refine rs_nil ?_
 refine ew_block_normal ?_
 refine ew_again ?_
 refine cw_seq ?_
 refine cw_seq ?_
 refine cw_region ?_
 refine rs_op rfl (ow_move rfl ?_)
 refine rs_op rfl (ow_gtr rfl rfl ?_)
 refine rs_op rfl (ow_move rfl ?_)
 refine rs_op rfl (ow_on rfl (ow_move rfl ?_))
 refine rs_op rfl (ow_on rfl (ow_move rfl ?_))
 refine rs_op rfl (ow_on rfl (ow_sub (z := 5) rfl rfl (by kernel_rfl) ?_))
 refine rs_op rfl (ow_on rfl (ow_indexAddr1 (j := 5) Tryz.underlying97 sz5 rfl rfl rfl (by decide) ?_))
 refine rs_op rfl (ow_on rfl (ow_loadF Tryz.underlying5 rfl rfl Bp rfl ?_))
 refine rs_op rfl (ow_on rfl (ow_eql rfl rfl ?_))
 refine rs_op rfl (ow_pickT rfl rfl ?_)
 refine rs_nil ?_
 refine ew_next ?_
 refine cw_then rfl ?_
 refine cw_skip ?_
 refine ew_next ?_
 refine cw_block ?_
 refine cw_region ?_
 refine rs_op rfl (ow_move rfl ?_)
 refine rs_op rfl (ow_sub (z := 5) rfl rfl (by kernel_rfl) ?_)
 refine rs_op rfl (ow_assign rfl ?_)
 refine rs_nil ?_
 refine ew_block_normal ?_
 refine ew_again ?_
 refine cw_seq ?_
 refine cw_seq ?_
 refine cw_region ?_
 refine rs_op rfl (ow_move rfl ?_)
 refine rs_op rfl (ow_gtr rfl rfl ?_)
 refine rs_op rfl (ow_move rfl ?_)
 refine rs_op rfl (ow_on rfl (ow_move rfl ?_))
 refine rs_op rfl (ow_on rfl (ow_move rfl ?_))
 refine rs_op rfl (ow_on rfl (ow_sub (z := 4) rfl rfl (by kernel_rfl) ?_))
 refine rs_op rfl (ow_on rfl (ow_indexAddr1 (j := 4) Tryz.underlying97 sz5 rfl rfl rfl (by decide) ?_))
 refine rs_op rfl (ow_on rfl (ow_loadF Tryz.underlying5 rfl rfl Bp rfl ?_))
 refine rs_op rfl (ow_on rfl (ow_eql rfl rfl ?_))
 refine rs_op rfl (ow_pickT rfl rfl ?_)
 refine rs_nil ?_
 refine ew_next ?_
 refine cw_then rfl ?_
 refine cw_skip ?_
 refine ew_next ?_
 refine cw_block ?_
 refine cw_region ?_
 refine rs_op rfl (ow_move rfl ?_)
 refine rs_op rfl (ow_sub (z := 4) rfl rfl (by kernel_rfl) ?_)
 refine rs_op rfl (ow_assign rfl ?_)
 refine rs_nil ?_
 refine ew_block_normal ?_
 refine ew_again ?_
 refine cw_seq ?_
 refine cw_seq ?_
 refine cw_region ?_
 refine rs_op rfl (ow_move rfl ?_)
 refine rs_op rfl (ow_gtr rfl rfl ?_)
 refine rs_op rfl (ow_move rfl ?_)
 refine rs_op rfl (ow_on rfl (ow_move rfl ?_))
 refine rs_op rfl (ow_on rfl (ow_move rfl ?_))
 refine rs_op rfl (ow_on rfl (ow_sub (z := 3) rfl rfl (by kernel_rfl) ?_))
 refine rs_op rfl (ow_on rfl (ow_indexAddr1 (j := 3) Tryz.underlying97 sz5 rfl rfl rfl (by decide) ?_))
 refine rs_op rfl (ow_on rfl (ow_loadF Tryz.underlying5 rfl rfl Bp rfl ?_))
 refine rs_op rfl (ow_on rfl (ow_eql rfl rfl ?_))
 refine rs_op rfl (ow_pickT rfl rfl ?_)
 refine rs_nil ?_
 refine ew_next ?_
 refine cw_then rfl ?_
 refine cw_skip ?_
 refine ew_next ?_
 refine cw_block ?_
 refine cw_region ?_
 refine rs_op rfl (ow_move rfl ?_)
 refine rs_op rfl (ow_sub (z := 3) rfl rfl (by kernel_rfl) ?_)
 refine rs_op rfl (ow_assign rfl ?_)
 refine rs_nil ?_
 refine ew_block_normal ?_
 refine ew_again ?_
 refine cw_seq ?_
 refine cw_seq ?_
 refine cw_region ?_
 refine rs_op rfl (ow_move rfl ?_)
 refine rs_op rfl (ow_gtr rfl rfl ?_)
 refine rs_op rfl (ow_move rfl ?_)
 refine rs_op rfl (ow_on rfl (ow_move rfl ?_))
 refine rs_op rfl (ow_on rfl (ow_move rfl ?_))
 refine rs_op rfl (ow_on rfl (ow_sub (z := 2) rfl rfl (by kernel_rfl) ?_))
 refine rs_op rfl (ow_on rfl (ow_indexAddr1 (j := 2) Tryz.underlying97 sz5 rfl rfl rfl (by decide) ?_))
 refine rs_op rfl (ow_on rfl (ow_loadF Tryz.underlying5 rfl rfl Bp rfl ?_))
 refine rs_op rfl (ow_on rfl (ow_eql rfl rfl ?_))
 refine rs_op rfl (ow_pickT rfl rfl ?_)
 refine rs_nil ?_
 refine ew_next ?_
 refine cw_then rfl ?_
 refine cw_skip ?_
 refine ew_next ?_
 refine cw_block ?_
 refine cw_region ?_
 refine rs_op rfl (ow_move rfl ?_)
 refine rs_op rfl (ow_sub (z := 2) rfl rfl (by kernel_rfl) ?_)
 refine rs_op rfl (ow_assign rfl ?_)
 refine rs_nil ?_
 refine ew_block_normal ?_
 refine ew_again ?_
 refine cw_seq ?_
 refine cw_seq ?_
 refine cw_region ?_
 refine rs_op rfl (ow_move rfl ?_)
 refine rs_op rfl (ow_gtr rfl rfl ?_)
 refine rs_op rfl (ow_move rfl ?_)
 refine rs_op rfl (ow_on rfl (ow_move rfl ?_))
 refine rs_op rfl (ow_on rfl (ow_move rfl ?_))
 refine rs_op rfl (ow_on rfl (ow_sub (z := 1) rfl rfl (by kernel_rfl) ?_))
 refine rs_op rfl (ow_on rfl (ow_indexAddr1 (j := 1) Tryz.underlying97 sz5 rfl rfl rfl (by decide) ?_))
 refine rs_op rfl (ow_on rfl (ow_loadF Tryz.underlying5 rfl rfl Bp rfl ?_))
 refine rs_op rfl (ow_on rfl (ow_eql rfl rfl ?_))
 refine rs_op rfl (ow_pickT rfl rfl ?_)
 refine rs_nil ?_
 refine ew_next ?_
 refine cw_then rfl ?_
 refine cw_skip ?_
 refine ew_next ?_
 refine cw_block ?_
 refine cw_region ?_
 refine rs_op rfl (ow_move rfl ?_)
 refine rs_op rfl (ow_sub (z := 1) rfl rfl (by kernel_rfl) ?_)
 refine rs_op rfl (ow_assign rfl ?_)
 refine rs_nil ?_
 refine ew_block_normal ?_
 refine ew_again ?_
 refine cw_seq ?_
 refine cw_seq ?_
 refine cw_region ?_
 refine rs_op rfl (ow_move rfl ?_)
 refine rs_op rfl (ow_gtr rfl rfl ?_)
 refine rs_op rfl (ow_move rfl ?_)
 refine rs_op rfl (ow_on rfl (ow_move rfl ?_))
 refine rs_op rfl (ow_on rfl (ow_move rfl ?_))
 refine rs_op rfl (ow_on rfl (ow_sub (z := 0) rfl rfl (by kernel_rfl) ?_))
 refine rs_op rfl (ow_on rfl (ow_indexAddr1 (j := 0) Tryz.underlying97 sz5 rfl rfl rfl (by decide) ?_))
 refine rs_op rfl (ow_on rfl (ow_loadF Tryz.underlying5 rfl rfl Bp rfl ?_))
 refine rs_op rfl (ow_on rfl (ow_eql rfl rfl ?_))
 refine rs_op rfl (ow_pickT rfl rfl ?_)
 refine rs_nil ?_
 refine ew_next ?_
 refine cw_else rfl ?_
 refine cw_exit ?_
 refine ew_then_exit ?_
 refine ew_then_exit ?_
 refine ew_block_here ?_
 refine ew_next ?_
 refine cw_seq ?_
 refine cw_region ?_
 refine rs_op rfl (ow_move rfl ?_)
 refine rs_op rfl (ow_move rfl ?_)
 refine rs_op rfl (ow_assign rfl ?_)
 refine rs_op rfl (ow_assign rfl ?_)
 refine rs_nil ?_
 refine ew_next ?_
 refine cw_ret ?_
 refine ew_ret (rs := [.tmp 8, .tmp 9]) (vs := [_, _]) rfl ⟨rfl, rfl, trivial⟩ ?_
 exact ⟨rfl, Bp, (LW.step E XLW)⟩
end Go.Proofs.YtjdcjdohghkcgaaGreatDoor

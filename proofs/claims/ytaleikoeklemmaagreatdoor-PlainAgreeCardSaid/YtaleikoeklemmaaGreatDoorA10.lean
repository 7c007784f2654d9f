/- Texts of this claim. -/
import Derived.Test.YtaleikoeklemmaaGreatDoorA9
import Derived.Test.YtaleikoeklemmaaGreatDoorProg
import Derived.Lib.ConvBytes
import Derived.Lib.SmallJoins
namespace Go.Proofs.YtaleikoeklemmaaGreatDoor
open Go.RowKit
set_option maxRecDepth 100000
def LoopW (P : Program) (c : Code) (Q : Exit → Act → World → Prop) (a : Act) (w : World) : Prop := ∀ b k cs, ∃ e a' w', Q e a' w' ∧ Arrives P (lone (b.at a (.inLoop c :: k)) cs w) b k cs e a' w'
theorem loopW_of {P : Program} {c : Code} {Q : Exit → Act → World → Prop} {a : Act} {w : World} (h : c.wp P (Exit.then (LoopW P c Q) Q) a w) (b : Frame) (k : List Item) (cs : List Frame) :
 ∃ e a' w', Q e a' w' ∧ Arrives P (lone (b.at a (.code c :: .inLoop c :: k)) cs w) b k cs e a' w' := by
 obtain ⟨e, a₁, w₁, hq, harr⟩ := h b (.inLoop c :: k) cs;cases e with
 | normal =>
  obtain ⟨e₂, a₂, w₂, hq₂, harr₂⟩ := hq b k cs;exact ⟨e₂, a₂, w₂, hq₂, .of_steps harr harr₂⟩
 | exit id => exact ⟨_, a₁, w₁, hq, .pass (x := .inLoop c) rfl (fun _ _ => .inl (by simp)) harr⟩
 | goto l => exact ⟨_, a₁, w₁, hq, .pass (x := .inLoop c) rfl (fun _ _ => .inl (by simp)) harr⟩
 | ret => exact ⟨_, a₁, w₁, hq, .pass (x := .inLoop c) rfl (fun _ _ => .inl (by simp)) harr⟩
 | panic ch => exact ⟨_, a₁, w₁, hq, .pass (x := .inLoop c) rfl (fun _ _ => .inl (by simp)) harr⟩
 | outgrown => exact ⟨_, a₁, w₁, hq, .pass (x := .inLoop c) rfl (fun _ _ => .inl (by simp)) harr⟩
section
variable {P : Program} {N : Nat} {ops : Array Oper} {Q : Exit → Act → World → Prop} {σ : Env} {w : World} {ty : TypeId} {pos : String} {af : Array Edge} {dst : Option Nat} {Post : Value → World → Prop}
theorem zxv {c : Code} (h : CW P N c (Exit.then (LoopW P c Q) Q) σ w) : CW P N (.loop c) Q σ w := fun a ha b k cs => by
 obtain ⟨e, a', w', hq, harr⟩ := loopW_of (h a ha) b k cs;exact ⟨e, a', w', hq, .of_steps (.one step_loop) harr⟩
/-! ### floating-point numbers -/
/-! ### functions that the model gives itself -/
theorem run_f64bits (b : Nat) (w : World) : (Extern.MathFloatBits.float64bits #[.float .f64 b]).run P w = .ok (.int .u64 ((b : Nat) : Int)) w := rfl
theorem run_frombits (b : Nat) (w : World) : (Extern.MathFloatBits.float64frombits #[.int .u64 ((b : Nat) : Int)]).run P w = .ok (.float .f64 b) w := rfl
theorem zdx {f : FuncId} {ts : Array TypeId} {x : Operand} {b : Nat} (hf : Ext_ P f Extern.MathFloatBits.float64bits) (hx : ev σ x = some (.float .f64 b)) (k : Post (.int .u64 ((b : Nat) : Int)) w) : OW P N ops Q ⟨dst, .call ⟨.value (.func f), #[x], ts⟩, ty, pos, af, none⟩ σ w Post :=
 ow_ext (xs := [x]) (args := [.float .f64 b]) hf (by simp [evs, hx]) (run_f64bits b w) k
theorem qf {f : FuncId} {ts : Array TypeId} {x : Operand} {b : Nat} (hf : Ext_ P f Extern.MathFloatBits.float64frombits) (hx : ev σ x = some (.int .u64 ((b : Nat) : Int))) (k : Post (.float .f64 b) w) : OW P N ops Q ⟨dst, .call ⟨.value (.func f), #[x], ts⟩, ty, pos, af, none⟩ σ w Post :=
 ow_ext (xs := [x]) (args := [.int .u64 ((b : Nat) : Int)]) hf (by simp [evs, hx]) (run_frombits b w) k
def gn (way : Ieee.Toward) (b : Nat) : Nat := FloatKind.f64.encode ((FloatKind.f64.decode b).integral way)
theorem ow_round {f : FuncId} {ts : Array TypeId} {x : Operand} {b : Nat} {name : String} {way : Ieee.Toward} (hf : Ext_ P f (Extern.MathFloor.toIntegral name way)) (hx : ev σ x = some (.float .f64 b)) (hn : (FloatKind.f64.decode b).isNaN = false) (k : Post (.float .f64 (gn way b)) w) : OW P N ops Q ⟨dst, .call ⟨.value (.func f), #[x], ts⟩, ty, pos, af, none⟩ σ w Post :=
 ow_ext (xs := [x]) (args := [.float .f64 b]) (v := .float .f64 (gn way b)) (w' := w) hf (by simp [evs, hx]) (by
  have e : Extern.MathFloor.toIntegral name way #[.float .f64 b] = (match FloatKind.f64.decode b with
   | .nan s t => if FloatKind.f64.format.quiet t = t then pure (.float .f64 b) else do
    let kept ← choose (.extern "math.Floor,Ceil,Trunc,RoundToEven.signallingNaN kept" 2)
    pure (.float .f64 (if kept == 1 then b else FloatKind.f64.encode (.nan s (FloatKind.f64.format.quiet t))))
   | d => pure (.float .f64 (FloatKind.f64.encode (d.integral way)))) := rfl
  rw [e];unfold gn;cases h : FloatKind.f64.decode b with
  | nan s t => rw [h] at hn; cases hn
  | infinity s => rfl
  | number s m e => rfl) k
/-! ### strings that are written out -/
theorem bytes_list (a : Array UInt8) : (⟨a⟩ : ByteArray).toList = a.toList := by rw [ByteArray.toList_eq]
theorem ow_indexSL {x i : Operand} {T : TypeId} {s : ByteArray} {q : IntKind} {m : Int} {j : Nat} {b : Nat} (hd : P.underlying T = some .string) (hx : ev σ x = some (.string s)) (hi : ev σ i = some (.int q m)) (hm : m = (j : Int)) (hb : (s.data[j]?).map (·.toNat) = some b)
 (k : Post (.int .u8 (b : Int)) w) : OW P N ops Q ⟨dst, .index T x i, ty, pos, af, none⟩ σ w Post := by
 obtain ⟨c, h1, rfl⟩ := Option.map_eq_some_iff.1 hb;exact ou hd hx hi hm (show s[j]? = some c by
  have h2 : s[j]? = s.data[j]? := rfl;rw [h2, h1]) k
/-! ### an error that is none -/
def RowL (w : World) (g : Nat) (xs : List Value) : Prop := ∀ j v, xs[j]? = some v → w.cell? ⟨g, j, none⟩ = some v
theorem Per.rowL {w : World} {g : Nat} {xs : List Value} (h : RowL w g xs) : Per No w (fun b => RowL b g xs) := fun b hb j v hj => by
 have h1 := h j v hj;rw [hb.cell (p := ⟨g, j, none⟩) (World.block_lt_of_cell? w _ h1) (fun e => e.elim)]; exact h1
theorem yak {S D e : TypeId} {x : Operand} {s : ByteArray} {n : Nat} {xs : List Value} (hS : P.underlying S = some .string) (hD : P.underlying D = some (.slice e)) (he : P.underlying e = some (.int .u8)) (hx : ev σ x = some (.string s)) (hn : s.size = n) (hl : s.data.toList.map (fun b => Value.int .u8 (b.toNat : Int)) = xs)
 (k : ∀ g c w', RowL w' g xs → Ext No w w' → w.heap.size ≤ g → Post (.slice (some ⟨g, 0, none⟩) n c) w') : OW P N ops Q ⟨dst, .convert S D x, ty, pos, af, none⟩ σ w Post :=
 yp (v := .slice (some ⟨w.heap.size, 0, none⟩) s.size (grownCap w s.size 0 e)) (w' := Lib.bytesWorld w e s) (fun ρ ha => by
  simp only [execOp, ha hx, Sem.run_bind, Lib.run_convert_string_bytes w S D e s hS hD he, Result.andThen_ok, Sem.run_pure]) (by
  subst hn;refine k _ _ _ (fun j v hj => ?_) (Ext.of_below (Joins.below_bytesWorld _ _ _ _ (Nat.le_refl _)) No) (Nat.le_refl _);rw [← hl, List.getElem?_map] at hj;obtain ⟨b, hb, rfl⟩ := Option.map_eq_some_iff.1 hj;have hlt : j < s.size := by
   have h1 := (List.getElem?_eq_some_iff.1 hb).1;have h2 : s.data.toList.length = s.size := Array.length_toList;omega
  rw [Lib.bytesWorld_cell w e s j hlt, List.getD_eq_getElem?_getD, hb]; rfl)
end
abbrev Gives (f : FuncId) (args : Array Value) (v : Value) : Prop := ∀ w, Calls Tryz.prog f args w fun e w' => e = .returned v ∧ Below w.heap.size w w'
section
variable {P : Program} {N : Nat} {Q : Exit → Act → World → Prop} {σ : Env} {w : World} {l : List Oper}
def trL (k n : Nat) : Array Bool := (List.replicate k true ++ List.replicate (n - k) false).toArray
def AK (P : Program) (N k : Nat) (l : List Oper) (Q : Exit → Act → World → Prop) (σ : Env) (w : World) : Prop := ∀ a, At N σ a → wpAny P .any l.toArray Q (l.length - k) (trL k l.length) a w
def quiet (o : Oper) : Bool := match o.guard with
 | some _ => false
 | none => match o.op with
  | .move _ => true
  | .assign _ => true
  | .extract _ _ => true
  | _ => false
def seqFrom (l : List Oper) : Nat → Nat → Bool
 | _, 0 => true
 | k, m + 1 => (match Region.ready .any l.toArray (trL k l.length) with
  | [] => false
  | [j] => Nat.beq j k
  | r => memN k r && (match l.toArray[k]? with
   | some o => quiet o
   | none => false) && Region.free .any l.toArray (trL k l.length) k) && seqFrom l (k + 1) m
def covers (ops : Array Oper) : Nat → List Nat → Bool
 | 0, _ => true
 | j + 1, S => memN j S && covers ops j (S ++ vm ops j)
def gateOK (l : List Oper) (m : Nat) : Bool := Nat.ble m l.length && zaq 0 (l.take m) [] && ((l.take m).all fun o => match o.guard with
 | some (g, _) => Nat.blt g m
 | none => true) && (List.range (l.length - m)).all fun t => (vm l.toArray (m + t)).any (fun d => Nat.ble m d) || covers l.toArray m (vm l.toArray (m + t))
end
section
variable {P : Program} {N : Nat} {Q : Exit → Act → World → Prop} {σ : Env} {l : List Oper}
end
section
variable {P : Program} {N : Nat} {Q : Exit → Act → World → Prop} {σ : Env} {w : World} {l : List Oper}
end
section
variable {P : Program} {N : Nat} {ops : Array Oper} {Q : Exit → Act → World → Prop} {σ : Env} {w : World} {ty : TypeId} {pos : String} {af : Array Edge} {dst : Option Nat} {Post : Value → World → Prop}
end
end Go.Proofs.YtaleikoeklemmaaGreatDoor
namespace Go.Proofs.YtaleikoeklemmaaGreatDoor
theorem zev : Ext_ Tryz.prog 53 Extern.MathFloatBits.float64frombits := ⟨_, Tryz.func53, by kernel_rfl, by kernel_rfl, by kernel_rfl, by kernel_rfl⟩
theorem ex81 : Ext_ Tryz.prog 81 Extern.MathFloatBits.float64bits := ⟨_, Tryz.func81, by kernel_rfl, by kernel_rfl, by kernel_rfl, by kernel_rfl⟩
theorem ex117 : Ext_ Tryz.prog 117 (Extern.MathFloor.toIntegral "math.archTrunc" .zero) := ⟨_, Tryz.func117, by kernel_rfl, by kernel_rfl, by kernel_rfl, by kernel_rfl⟩
end Go.Proofs.YtaleikoeklemmaaGreatDoor
namespace Go.Proofs.YtaleikoeklemmaaGreatDoor
open Go.RowKit
set_option maxRecDepth 100000
def qa (m : Nat) : Nat := if isN m then 9221120237041090560 else m
def ansF (z : Option Nat) : Nat := z.getD 9221120237041090560
theorem FRes.bare {op : BinOp} {a b r : Nat} {w w' : World} (h : FRes (fop op a b) r w w') : qa r = ansF (fop op a b) := by
 rcases h with ⟨hz, _⟩ | ⟨hz, hn, _⟩
 · rw [hz]; unfold qa ansF; rw [(fop_num hz).1]; rfl
 · rw [hz]; unfold qa ansF; rw [nan_isN hn]; rfl
theorem vh (m : Nat) : (vf m m != some .eq) = isN m := by
 cases h : isN m with
 | true => rw [kx (.inl h)]; rfl
 | false => rw [zav h h, zlk]; rfl
theorem xi (m : Nat) (h : m < 18446744073709551616) : (BitVec.ofInt 64 (m : Int)).toNat = m := by
 rw [BitVec.toNat_ofInt];omega
theorem zfx {m : Nat} (h : m < 18446744073709551616) : IntKind.u64.wrap (m : Int) = (m : Int) := wrap_u64 (by omega)
theorem zuz {m n : Nat} (hm : m < 18446744073709551616) (hn : n < 18446744073709551616) : IntKind.u64.wrap (BitVec.ofInt IntKind.u64.bits (m : Int) &&& BitVec.ofInt IntKind.u64.bits (n : Int)).toNat = ((m &&& n : Nat) : Int) := by
 have h1 := xi m hm;have h2 := xi n hn;show IntKind.u64.wrap (((BitVec.ofInt 64 (m : Int) &&& BitVec.ofInt 64 (n : Int)).toNat : Nat) : Int) = _
 rw [BitVec.toNat_and, h1, h2];exact zfx (Nat.lt_of_le_of_lt Nat.and_le_left hm)
theorem and_low {m : Nat} (hm : m < 18446744073709551616) : IntKind.u64.wrap (BitVec.ofInt IntKind.u64.bits (m : Int) &&& BitVec.ofInt IntKind.u64.bits 9223372036854775807).toNat = ((rg m : Nat) : Int) := by
 have := zuz (n := 9223372036854775807) hm (by decide);rw [show m &&& 9223372036854775807 = rg m from Nat.and_two_pow_sub_one_eq_mod m 63] at this;exact this
def isZ (b : Nat) : Bool := decide (rg b = 0)
theorem zak (b : Nat) : (vf b 0 == some .eq) = isZ b := by
 cases h : isN b with
 | true =>
  rw [kx (.inl h)];have : isZ b = false := by unfold isN at h; unfold isZ; simp at h ⊢; omega
  rw [this]; rfl
 | false =>
  rw [zav h (by decide)];have h0 : pc 0 = 0 := by decide
  rw [h0, ol, isZ];by_cases hz : rg b = 0
  · have : pc b = 0 := by unfold pc; split <;> omega
    rw [this]; simp [hz]
  · have : pc b ≠ 0 := by unfold pc; split <;> omega
    rw [if_neg this]; split <;> simp [hz] <;> decide
def divV (a b : Nat) : Nat := if isZ b then 0 else ansF (fop .quo a b)
def divE (b : Nat) : Int := if isZ b then 6 else 0
def ordI (x y : Int) : Int := if x < y then -1 else if x > y then 1 else 0
def vr (a b : Nat) : Bool := !(isN a) && !(isN b)
def zeq (a b : Nat) : Int := if vr a b then ordI (pc a) (pc b) else 0
theorem xh {a b : Nat} {o : Ordering} (h : (vf a b == some o) = true) : vr a b = true := by
 unfold vr;cases ha : isN a with
 | true => rw [kx (.inl ha)] at h; cases h
 | false =>
  cases hbq : isN b with
  | true => rw [kx (.inr hbq)] at h; cases h
  | false => rfl
theorem zgv {a b : Nat} (h : vr a b = true) : vf a b = some (ol (pc a) (pc b)) := by
 unfold vr at h;simp at h
 exact zav h.1 h.2
theorem cmpF_lt {a b : Nat} (h : (vf a b == some .lt) = true) : zeq a b = -1 := by
 have ho := xh h;rw [zgv ho] at h;rw [zeq, if_pos ho, ordI];unfold ol at h;split at h
 · rename_i h1; rw [if_pos h1]
 · split at h <;> cases h
theorem cmpF_gt {a b : Nat} (h : (vf a b == some .gt) = true) : zeq a b = 1 := by
 have ho := xh h;rw [zgv ho] at h;rw [zeq, if_pos ho, ordI];unfold ol at h;split at h
 · cases h
 · split at h
   · cases h
   · rename_i h1 h2; rw [if_neg h1, if_pos (by omega)]
theorem cmpF_no {a b : Nat} (h : (vf a b == some .lt) = false) (h2 : (vf a b == some .gt) = false) : zeq a b = 0 ∧ vr a b = (vf a b == some .eq) := by
 cases ho : vr a b with
 | true =>
  rw [zgv ho] at h h2 ⊢;rw [zeq, if_pos ho, ordI];rcases Int.lt_trichotomy (pc a) (pc b) with h1 | h1 | h1
  · rw [zlv h1] at h; cases h
  · rw [h1, zlk]; exact ⟨by rw [if_neg (by omega), if_neg (by omega)], rfl⟩
  · rw [ztv h1] at h2; cases h2
 | false =>
  refine ⟨by rw [zeq, if_neg (by rw [ho]; decide)], ?_⟩;unfold vr at ho;cases ha : isN a with
  | true => rw [kx (.inl ha)]; rfl
  | false =>
   cases hbq : isN b with
   | true => rw [kx (.inr hbq)]; rfl
   | false => rw [ha, hbq] at ho; cases ho
section
variable (w : World)
/-! ### package real -/
theorem bare_any (m : Nat) : Calls Tryz.prog 52 #[.float .f64 m] w fun e w' => e = .returned (.int .u64 ((qa m : Nat) : Int)) ∧ Below w.heap.size w w' := by
 refine zr Tryz.func52 rfl Tryz.ntmps52 rfl ?_;have LW := erx (No) w;have XLW := grx (No) w;have E := erx (No) w;refine srx (anx rfl (zj (srx (mvx rfl (mvx rfl (za rfl (jz rfl rfl (rnx (zu 5 (.bool (isN m)) rfl ((by rw [vh] : (.bool (vf m m != some .eq) : Value) = _)) (yx rfl (fun h => ?_) (fun h => ?_)))))))))))
 ·
  refine srx (anx rfl (zm (zg (zl (rs := [.tmp 2]) (vs := [_]) rfl ⟨rfl, trivial⟩ ?_))));exact ⟨by rw [qa, if_pos h]; rfl, (LW.step E XLW).toBelow⟩
 ·
  refine zq (zk (srx (mvx rfl (za rfl (zdx ex81 rfl (anx rfl (zm (zl (rs := [.tmp 2]) (vs := [_]) rfl ⟨rfl, trivial⟩ ?_))))))));exact ⟨by rw [qa, if_neg (by rw [h]; decide)]; rfl, (LW.step E XLW).toBelow⟩
section
variable (a b : Nat)
theorem neg_any_r : Calls Tryz.prog 30 #[.int .u64 ((a : Nat) : Int)] w fun e w' => e = .returned (.int .u64 ((qa (yj a) : Nat) : Int)) ∧ Below w.heap.size w w' := by
 refine zr Tryz.func30 rfl Tryz.ntmps30 rfl ?_;have LW := erx (No) w;have XLW := grx (No) w;have E := erx (No) w;refine srx (anx rfl (srx (mvx rfl (za rfl (qf (b := a) zev rfl (za rfl (ow_fneg rfl (za rfl (zd en52 rfl ((bare_any _ (yj a)).mono ?_))))))))));rintro e w1 ⟨rfl, hb⟩;refine ⟨_, rfl, ?_⟩;replace E := blx E hb
 refine anx rfl (zm (zl (rs := [.tmp 2]) (vs := [_]) rfl ⟨rfl, trivial⟩ ?_));exact ⟨rfl, (LW.step E XLW).toBelow⟩
theorem cmp_any_r : Calls Tryz.prog 48 #[.int .u64 ((a : Nat) : Int), .int .u64 ((b : Nat) : Int)] w fun e w' => e = .returned (.tuple #[.int .i64 (zeq a b), .bool (vr a b)]) ∧ Below w.heap.size w w' := by
 refine zr Tryz.func48 rfl Tryz.ntmps48 rfl ?_;have LW := erx (No) w;have XLW := grx (No) w;have E := erx (No) w
 refine srx (avx rfl (anx rfl (srx (mvx rfl (za rfl (qf (b := a) zev rfl (mvx rfl (za rfl (qf (b := b) zev rfl (avx rfl (anx rfl (zj (yi (srx (mvx rfl (mvx rfl (za rfl (zkk rfl rfl (anx rfl (yx rfl (fun h => ?_) (fun h => ?_)))))))))))))))))))))
 ·
  refine srx (avx rfl (anx rfl (zm (zv (zg (zl (rs := [.tmp 4, .tmp 5]) (vs := [_, _]) rfl ⟨rfl, rfl, trivial⟩ ?_))))));exact ⟨by rw [cmpF_lt h, xh h]; rfl, (LW.step E XLW).toBelow⟩
 ·
  refine srx (mvx rfl (mvx rfl (za rfl (ow_fgtr rfl rfl (anx rfl (yx rfl (fun h2 => ?_) (fun h2 => ?_)))))))
  ·
   refine srx (avx rfl (anx rfl (zm (zv (zg (zl (rs := [.tmp 4, .tmp 5]) (vs := [_, _]) rfl ⟨rfl, rfl, trivial⟩ ?_))))));exact ⟨by rw [cmpF_gt h2, xh h2]; rfl, (LW.step E XLW).toBelow⟩
  ·
   refine zq (zw (zk (srx (mvx rfl (mvx rfl (za rfl (zkv rfl rfl (avx rfl (anx rfl (zm (zl (rs := [.tmp 4, .tmp 5]) (vs := [_, _]) rfl ⟨rfl, rfl, trivial⟩ ?_)))))))))));exact ⟨by rw [(cmpF_no h h2).1, (cmpF_no h h2).2]; rfl, (LW.step E XLW).toBelow⟩
end
end
/-! ### the document's -/
section
variable (w : World)
section
variable (a : Nat) (ha : a < 18446744073709551616)
include ha
theorem zxz : Calls Tryz.prog 16 #[.int .u64 ((a : Nat) : Int)] w fun e w' => e = .returned (.bool (isN a)) ∧ Below w.heap.size w w' := by
 refine zr Tryz.func16 rfl Tryz.ntmps16 rfl ?_;have LW := erx (No) w;have XLW := grx (No) w;have E := erx (No) w;refine srx (anx rfl (srx (mvx rfl (za rfl (xc rfl rfl (and_low ha) (za rfl (gg rfl rfl (anx rfl (zm (zl (rs := [.tmp 2]) (vs := [_]) rfl ⟨rfl, trivial⟩ ?_))))))))))
 exact ⟨by rw [show isN a = decide (((rg a : Nat) : Int) > 9218868437227405312) from by unfold isN; congr 1; apply propext; omega]; rfl, (LW.step E XLW).toBelow⟩
end
section
variable (a b : Nat) (ha : a < 18446744073709551616) (hbq : b < 18446744073709551616)
include ha hbq
end
end
theorem zdz (m : Nat) : BitVec.ofInt 64 ((m : Nat) : Int) = BitVec.ofNat 64 m := BitVec.ofInt_natCast 64 m
theorem ycx {a : Nat} (ha : a < 18446744073709551616) : IntKind.u64.wrap (BitVec.ofInt IntKind.u64.bits ((a : Nat) : Int) &&& ~~~BitVec.ofInt IntKind.u64.bits 9223372036854775808).toNat = ((rg a : Nat) : Int) := by
 have h := andNot_sign_nat ha;show IntKind.u64.wrap (((BitVec.ofInt 64 ((a : Nat) : Int) &&& ~~~BitVec.ofInt 64 ((9223372036854775808 : Nat) : Int)).toNat : Nat) : Int) = _
 rw [zdz, zdz, h];exact zfx (Nat.lt_trans (rg_lt a) (by decide))
theorem zpx {a : Nat} (ha : a < 18446744073709551616) : IntKind.u64.wrap (BitVec.ofInt IntKind.u64.bits ((a : Nat) : Int) &&& ~~~BitVec.ofInt IntKind.u64.bits 9218868437227405312).toNat = ((a / 9223372036854775808 * 9223372036854775808 + a % 4503599627370496 : Nat) : Int) := by
 have h := andNot_exp_nat ha;show IntKind.u64.wrap (((BitVec.ofInt 64 ((a : Nat) : Int) &&& ~~~BitVec.ofInt 64 ((9218868437227405312 : Nat) : Int)).toNat : Nat) : Int) = _
 rw [zdz, zdz, h];exact zfx (by omega)
theorem zrx {m n : Nat} (hm : m < 18446744073709551616) (hn : n < 18446744073709551616) : IntKind.u64.wrap (BitVec.ofInt IntKind.u64.bits (m : Int) ||| BitVec.ofInt IntKind.u64.bits (n : Int)).toNat = ((m ||| n : Nat) : Int) := by
 have h1 := xi m hm;have h2 := xi n hn;show IntKind.u64.wrap (((BitVec.ofInt 64 (m : Int) ||| BitVec.ofInt 64 (n : Int)).toNat : Nat) : Int) = _
 rw [BitVec.toNat_or, h1, h2];exact zfx (Nat.or_lt_two_pow (n := 64) (by omega) (by omega))
theorem and_sign {a : Nat} (ha : a < 18446744073709551616) : IntKind.u64.wrap (BitVec.ofInt IntKind.u64.bits ((a : Nat) : Int) &&& BitVec.ofInt IntKind.u64.bits 9223372036854775808).toNat = ((if ng a then 9223372036854775808 else 0 : Nat) : Int) := by
 have := zuz (n := 9223372036854775808) ha (by decide);rw [and_sign_nat a ha] at this;exact this
theorem isN_rg (a : Nat) : isN (rg a) = isN a := by unfold isN rg; rw [Nat.mod_mod]
theorem rg_rg (a : Nat) : rg (rg a) = rg a := Nat.mod_mod _ _
theorem ng_rg (a : Nat) : ng (rg a) = false := by
 have := rg_lt a;unfold ng;rw [Nat.div_eq_of_lt this];rfl
theorem pc_rg (a : Nat) : pc (rg a) = ((rg a : Nat) : Int) := by rw [pc, ng_rg, rg_rg]; rfl
theorem ford_rg {a c : Nat} (ha : isN a = false) (hc : isN c = false) : vf (rg a) (rg c) = some (ol ((rg a : Nat) : Int) ((rg c : Nat) : Int)) := by
 rw [zav (by rw [isN_rg]; exact ha) (by rw [isN_rg]; exact hc), pc_rg, pc_rg]
theorem isinf_cond (a : Nat) : (vf (rg a) 9218868437227405311 == some .gt) = decide (rg a = 9218868437227405312) := by
 cases h : isN a with
 | true =>
  rw [kx (.inl (by rw [isN_rg]; exact h))];have : ¬ rg a = 9218868437227405312 := by have := of_decide_eq_true h; omega
  rw [decide_eq_false this]; rfl
 | false =>
  have h2 := ford_rg (c := 9218868437227405311) h (by decide);rw [show rg 9218868437227405311 = 9218868437227405311 from by decide] at h2;have h3 : ¬ 9218868437227405312 < rg a := of_decide_eq_false h;rw [h2];by_cases h4 : rg a = 9218868437227405312
  · rw [h4]; decide
  · rw [decide_eq_false h4, ol];split
    · rfl
    · split
      · rfl
      · omega
theorem sub_cond {a : Nat} (h : isN a = false) : (vf (rg a) 4503599627370496 == some .lt) = decide (rg a < 4503599627370496) := by
 have h2 := ford_rg (c := 4503599627370496) h (by decide);rw [show rg 4503599627370496 = 4503599627370496 from by decide] at h2;rw [h2];by_cases h4 : rg a < 4503599627370496
 · rw [decide_eq_true h4, zlv (by omega)]; rfl
 · rw [decide_eq_false h4, ol, if_neg (by omega)];split <;> rfl
section
variable (w : World) (a : Nat) (ha : a < 18446744073709551616)
include ha
theorem zuk : Calls Tryz.prog 60 #[.float .f64 a] w fun e w' => e = .returned (.float .f64 (rg a)) ∧ Below w.heap.size w w' := by
 refine zr Tryz.func60 rfl Tryz.ntmps60 rfl ?_;have LW := erx (No) w;have XLW := grx (No) w;have E := erx (No) w;refine srx (anx rfl (srx (mvx rfl (za rfl (zdx ex81 rfl (za rfl (ov rfl rfl (ycx ha) (za rfl (qf (b := rg a) zev rfl (anx rfl (zm (zl (rs := [.tmp 2]) (vs := [_]) rfl ⟨rfl, trivial⟩ ?_))))))))))));exact ⟨rfl, (LW.step E XLW).toBelow⟩
theorem vn : Calls Tryz.prog 58 #[.float .f64 a, .int .i64 0] w fun e w' => e = .returned (.bool (decide (rg a = 9218868437227405312))) ∧ Below w.heap.size w w' := by
 refine zr Tryz.func58 rfl Tryz.ntmps58 rfl ?_;have LW := erx (No) w;have XLW := grx (No) w;have E := erx (No) w;refine srx (anx rfl (zj (srx (mvx rfl (za rfl (ya rfl rfl (rnx (yc rfl (yo (mvx rfl (za rfl (zd en60 rfl ((zuk _ a ha).mono ?_)))))))))))));rintro e w1 ⟨rfl, hb⟩;refine ⟨_, rfl, ?_⟩;replace E := blx E hb
 refine anx rfl (srx (mvx rfl (za rfl (ow_fgtr rfl rfl (anx rfl (zm (zl (rs := [.tmp 4]) (vs := [_]) rfl ⟨rfl, trivial⟩ ?_)))))));exact ⟨by rw [← isinf_cond]; rfl, (LW.step E XLW).toBelow⟩
omit ha in
theorem zok : Calls Tryz.prog 122 #[.float .f64 a] w fun e w' => e = .returned (.bool (isN a)) ∧ Below w.heap.size w w' := by
 refine zr Tryz.func122 rfl Tryz.ntmps122 rfl ?_;have LW := erx (No) w;have XLW := grx (No) w;have E := erx (No) w;refine srx (anx rfl (srx (mvx rfl (mvx rfl (za rfl (jz rfl rfl (anx rfl (zm (zl (rs := [.tmp 2]) (vs := [_]) rfl ⟨rfl, trivial⟩ ?_)))))))));exact ⟨by rw [← vh]; rfl, (LW.step E XLW).toBelow⟩
theorem copysign_any (b : Nat) (hb : b < 18446744073709551616) : Calls Tryz.prog 77 #[.float .f64 a, .float .f64 b] w fun e w' => e = .returned (.float .f64 (Ieee.double.word (ng b) (rg a))) ∧ Below w.heap.size w w' := by
 have hr := rg_lt a;have ho : (rg a ||| (if ng b then 9223372036854775808 else 0 : Nat)) = Ieee.double.word (ng b) (rg a) := by
  unfold Ieee.Format.word;rw [c1];split
  · rw [Nat.or_comm]; exact or_add 63 hr rfl
  · exact Nat.or_zero _
 have hs : (if ng b then 9223372036854775808 else 0 : Nat) < 18446744073709551616 := by split <;> decide
 refine zr Tryz.func77 rfl Tryz.ntmps77 rfl ?_;have LW := erx (No) w;have XLW := grx (No) w;have E := erx (No) w
 refine srx (anx rfl (srx (mvx rfl (za rfl (zdx ex81 rfl (za rfl (ov rfl rfl (ycx ha) (mvx rfl (za rfl (zdx ex81 rfl (za rfl (xc rfl rfl (and_sign hb) (za rfl (ow_or rfl rfl (zrx (Nat.lt_trans hr (by decide)) hs) (za rfl (qf (b := rg a ||| (if ng b then 9223372036854775808 else 0 : Nat)) zev rfl (anx rfl (zm (zl (rs := [.tmp 4]) (vs := [_]) rfl ⟨rfl, trivial⟩ ?_)))))))))))))))))))
 exact ⟨by rw [← ho]; rfl, (LW.step E XLW).toBelow⟩
end
theorem word_self {a : Nat} (ha : a < 18446744073709551616) : Ieee.double.word (ng a) (rg a) = a := by
 obtain ⟨h1, h2, h3⟩ := je (ng a) (rg a) (rg_lt a);exact rg_ng_inj h3 ha h1 h2
def nzB (a : Nat) : Nat := Ieee.double.word (ng a) (nr (rg a))
def nzE (a : Nat) : Int := if rg a < 4503599627370496 then -52 else 0
theorem nzB_big {a : Nat} (ha : a < 18446744073709551616) (h : ¬ rg a < 4503599627370496) : nzB a = a := by
 rw [nzB, nr, if_neg h]; exact word_self ha
theorem nzB_lt {a : Nat} (h0 : rg a ≠ 0) (hf : rg a < 9218868437227405312) : nzB a < 18446744073709551616 := (je (ng a) (nr (rg a)) (Nat.lt_trans (zlx h0 hf) (by decide))).2.2
theorem FRes.some {z : Option Nat} {r q : Nat} {w w' : World} (h : FRes z r w w') (hz : z = some q) : r = q := by
 rcases h with ⟨h1, _⟩ | ⟨h1, _⟩
 · rw [hz] at h1; exact (Option.some.inj h1).symm
 · rw [hz] at h1; cases h1
theorem ydz {a : Nat} (hf : rg a < 9218868437227405312) : isN a = false := decide_eq_false (by omega)
theorem shr52 (m : Nat) : ((m : Nat) : Int).fdiv (2 ^ (min (52 : Int).toNat IntKind.u64.bits)) = ((m / 4503599627370496 : Nat) : Int) := by
 show ((m : Nat) : Int).fdiv (2 ^ 52) = _
 rw [show (2 : Int) ^ 52 = ((4503599627370496 : Nat) : Int) from rfl, Int.fdiv_eq_ediv_of_nonneg _ (by omega)];rfl
theorem and_2047 {m : Nat} (hm : m < 18446744073709551616) : IntKind.u64.wrap (BitVec.ofInt IntKind.u64.bits ((m : Nat) : Int) &&& BitVec.ofInt IntKind.u64.bits 2047).toNat = ((m % 2048 : Nat) : Int) := by
 have := zuz (n := 2047) hm (by decide);rw [show m &&& 2047 = m % 2048 from Nat.and_two_pow_sub_one_eq_mod m 11] at this;exact this
theorem znq (s : Bool) {r : Nat} (hr : r < 9218868437227405312) : Ieee.double.word s r / 4503599627370496 % 2048 = r / 4503599627370496 ∧ Ieee.double.word s r / 9223372036854775808 * 9223372036854775808 + Ieee.double.word s r % 4503599627370496 = Ieee.double.word s (r % 4503599627370496) := by
 unfold Ieee.Format.word;rw [c1];cases s
 · simp only [Bool.false_eq_true, if_false]; omega
 · simp only [if_true]; omega
theorem frac_or {f x : Nat} (hf : f < 4503599627370496) (hx : x % 4503599627370496 = 0) : f ||| x = x + f := by
 rw [Nat.or_comm]; exact or_add 52 hf hx
theorem zxq (s : Bool) {f x : Nat} (hf : f < 4503599627370496) (hx : x % 4503599627370496 = 0) (hl : x + f < 9223372036854775808) : Ieee.double.word s f ||| x = Ieee.double.word s (x + f) := by
 have h1 := frac_or hf hx;unfold Ieee.Format.word;rw [c1];cases s
 · exact h1
 · show (9223372036854775808 + f) ||| x = 9223372036854775808 + (x + f)
   rw [← or_add 63 (a := 9223372036854775808) (b := f) (Nat.lt_trans hf (by decide)) rfl, Nat.or_assoc, h1];exact or_add 63 hl rfl
section
variable (w : World) (a : Nat) (ha : a < 18446744073709551616) (h0 : rg a ≠ 0) (hf : rg a < 9218868437227405312)
include ha h0 hf
theorem oi : Calls Tryz.prog 123 #[.float .f64 a] w fun e w' => e = .returned (.tuple #[.float .f64 (nzB a), .int .i64 (nzE a)]) ∧ Below w.heap.size w w' := by
 refine zr Tryz.func123 rfl Tryz.ntmps123 rfl ?_;have LW := erx (No) w;have XLW := grx (No) w;have E := erx (No) w;refine srx (avx rfl (anx rfl (zj (srx (mvx rfl (za rfl (zd en60 rfl ((zuk _ a ha).mono ?_))))))));rintro e w1 ⟨rfl, hb⟩;refine ⟨_, rfl, ?_⟩;replace E := blx E hb
 refine za rfl (zkk rfl rfl (rnx (zu 6 (.bool (decide (rg a < 4503599627370496))) rfl ((by rw [sub_cond (ydz hf)] : (.bool (vf (rg a) 4503599627370496 == some .lt) : Value) = _)) (yx rfl (fun h => ?_) (fun h => ?_)))))
 ·
  refine srx (mvx rfl (za rfl (ow_float (m := a) (n := 4841369599423283200) (.inr (.inr (.inl rfl))) rfl rfl ?_)));intro r w2 hr;have Ec := hr.ext;replace E := E.trans Ec.no;refine avx rfl (anx rfl (zm (zg (zl (rs := [.tmp 2, .tmp 3]) (vs := [_, _]) rfl ⟨rfl, rfl, trivial⟩ ?_))))
  exact ⟨by rw [hr.some (normalize_mul h0 (of_decide_eq_true h)), nzE, if_pos (of_decide_eq_true h)]; rfl, (LW.step E XLW).toBelow⟩
 ·
  refine zq (zk (srx (mvx rfl (avx rfl (anx rfl (zm (zl (rs := [.tmp 2, .tmp 3]) (vs := [_, _]) rfl ⟨rfl, rfl, trivial⟩ ?_)))))));exact ⟨by rw [nzB_big ha (of_decide_eq_false h), nzE, if_neg (of_decide_eq_false h)]; rfl, (LW.step E XLW).toBelow⟩
theorem frexp_num : Calls Tryz.prog 90 #[.float .f64 a] w fun e w' => e = .returned (.tuple #[.float .f64 (frF a), .int .i64 (frE a)]) ∧ Below w.heap.size w w' := by
 have hz : isZ a = false := decide_eq_false h0;have hinf : decide (rg a = 9218868437227405312) = false := decide_eq_false (by omega);have hn := ydz hf;have hlt := nzB_lt h0 hf;have hlow := nr_low h0;have hhigh := zlx h0 hf;obtain ⟨hp1, hp2⟩ := znq (ng a) hhigh;have hex : nr (rg a) / 4503599627370496 = ex (nr (rg a)) + 1 := by unfold ex; rw [if_neg (by omega)]; omega
 have hmg : mg (nr (rg a)) = 4503599627370496 + nr (rg a) % 4503599627370496 := by unfold mg; rw [if_neg (by omega)]
 have hexb : ex (nr (rg a)) ≤ 2045 := by omega
 have hfl : nr (rg a) % 4503599627370496 < 4503599627370496 := Nat.mod_lt _ (by decide);have hnze : nzE a = 0 ∨ nzE a = -52 := by unfold nzE; split <;> simp
 have hfw : Ieee.double.word (ng a) (nr (rg a) % 4503599627370496) < 18446744073709551616 := (je _ _ (by omega)).2.2;have hor := zxq (ng a) (x := 4602678819172646912) hfl (by decide) (by omega);have hfrF : Ieee.double.word (ng a) (4602678819172646912 + nr (rg a) % 4503599627370496) = frF a := by rw [frF, hmg, Nat.add_sub_cancel_left]
 have hfrE : nzE a + (((ex (nr (rg a)) + 1 : Nat) : Int) - 1023 + 1) = frE a := by
  unfold nzE frE;split <;> omega
 refine zr Tryz.func90 rfl Tryz.ntmps90 rfl ?_;have LW := erx (No) w;have XLW := grx (No) w;have E := erx (No) w
 refine srx (avx rfl (anx rfl (zj (yi (srx (mvx rfl (za rfl (zkv rfl rfl (anx rfl (zu 5 (.bool false) rfl ((by rw [zak, hz] : (.bool (vf a 0 == some .eq) : Value) = _)) (zp rfl (srx (mvx rfl (za rfl (zd en58 rfl ((vn _ a ha).mono ?_))))))))))))))));rintro e w1 ⟨rfl, hb⟩;refine ⟨_, rfl, ?_⟩;replace E := blx E hb
 refine zz 11 (.bool false) rfl ((by rw [hinf] : (.bool (decide (rg a = 9218868437227405312)) : Value) = _)) (mvx rfl (onx rfl (zy rfl (onx rfl (zd en122 rfl ((zok _ a).mono ?_))))));rintro e w2 ⟨rfl, hb⟩;refine ⟨_, rfl, ?_⟩;replace E := blx E hb
 refine zz 14 (.bool false) rfl ((by rw [hn] : (.bool (isN a) : Value) = _)) (za rfl (zh rfl rfl (anx rfl (zp rfl (zq (zw (zk (srx (mvx rfl (za rfl (zd en123 rfl ((oi _ a ha h0 hf).mono ?_))))))))))));rintro e w3 ⟨rfl, hb⟩;refine ⟨_, rfl, ?_⟩;replace E := blx E hb
 refine mvx rfl (za rfl (zn rfl rfl (za rfl (zn rfl rfl (avx rfl (anx rfl (srx (mvx rfl (za rfl (zdx ex81 rfl (anx rfl (srx (mvx rfl (mvx rfl (za rfl (gm rfl rfl (by decide) (shr52 (nzB a)) (za rfl (xc rfl rfl (and_2047 (by omega)) (zz 27 (.int .u64 ((ex (nr (rg a)) + 1 : Nat) : Int)) rfl ((by rw [show nzB a / 4503599627370496 % 2048 = _ from hp1, hex] : (.int .u64 ((nzB a / 4503599627370496 % 2048 : Nat) : Int) : Value) = _)) (za rfl (jn Tryz.underlying3 Tryz.underlying25 rfl (yg (by omega)) (za rfl (gf rfl rfl (yg (by omega)) (za rfl (qp rfl rfl (yg (by omega)) (za rfl (qp rfl rfl (yg (by omega)) (anx rfl (srx (mvx rfl (za rfl (ov rfl rfl (zpx hlt) (zz 33 (.int .u64 ((Ieee.double.word (ng a) (nr (rg a) % 4503599627370496) : Nat) : Int)) rfl ((by rw [show nzB a / 9223372036854775808 * 9223372036854775808 + nzB a % 4503599627370496 = _ from hp2] : (.int .u64 ((nzB a / 9223372036854775808 * 9223372036854775808 + nzB a % 4503599627370496 : Nat) : Int) : Value) = _)) (anx rfl (srx (mvx rfl (za rfl (ow_or rfl rfl (zrx (n := 4602678819172646912) hfw (by decide)) ?_))))))))))))))))))))))))))))))))))))))
 refine zz 35 (.int .u64 ((frF a : Nat) : Int)) rfl ((by rw [show Ieee.double.word (ng a) (nr (rg a) % 4503599627370496) ||| 4602678819172646912 = frF a from hor.trans hfrF] : (.int .u64 ((Ieee.double.word (ng a) (nr (rg a) % 4503599627370496) ||| 4602678819172646912 : Nat) : Int) : Value) = _)) (anx rfl (srx (mvx rfl (za rfl (qf (b := frF a) zev rfl (anx rfl (zm (zl (rs := [.tmp 2, .tmp 3]) (vs := [_, _]) rfl ⟨rfl, rfl, trivial⟩ ?_))))))))
 exact ⟨by rw [← hfrE]; rfl, (LW.step E XLW).toBelow⟩
end
theorem and_2047i {m : Nat} (hm : m < 18446744073709551616) : IntKind.i64.wrap (BitVec.ofInt IntKind.i64.bits ((m : Nat) : Int) &&& BitVec.ofInt IntKind.i64.bits 2047).toNat = ((m % 2048 : Nat) : Int) := by
 have h1 := xi m hm;have h2 := xi 2047 (by decide);show IntKind.i64.wrap (((BitVec.ofInt 64 (m : Int) &&& BitVec.ofInt 64 ((2047 : Nat) : Int)).toNat : Nat) : Int) = _
 rw [BitVec.toNat_and, h1, h2, show m &&& 2047 = m % 2048 from Nat.and_two_pow_sub_one_eq_mod m 11];exact yg (by omega)
theorem sum_rung {x m f q : Nat} (h1 : x * 4503599627370496 + m = q) (h2 : m = 4503599627370496 + f) : (x + 1) * 4503599627370496 + f = q := by rw [← h1, h2, Nat.add_mul, Nat.one_mul, Nat.add_assoc]
theorem nzE_nd (a : Nat) : nzE a = -((nd (rg a) : Nat) : Int) := by unfold nzE nd; split <;> rfl
theorem one_mul_f {s : Bool} {q : Nat} (hq : q < 9218868437227405312) : fop .mul 4607182418800017408 (Ieee.double.word s q) = some (Ieee.double.word s q) := by
 obtain ⟨h1, h2, _⟩ := je s q (Nat.lt_trans hq (by decide));have hc : rg 4607182418800017408 = 4607182418800017408 ∧ ng 4607182418800017408 = false ∧ vl 4607182418800017408 = 2 ^ 1074 := by decide +kernel
 have := mul_exact' (a := 4607182418800017408) (b := Ieee.double.word s q) (r := q) (by rw [hc.1]; decide) (by rw [h1]; exact hq) hq (fun P hP => by rewrite [hc.1, hc.2.2, ← hP, h1]; exact Nat.mul_comm P (vl q));rw [this, hc.2.1, h2, Bool.false_xor]
theorem p_split {P i j n : Nat} (h : P = 2 ^ n) (hn : n = i + j) : P = 2 ^ i * 2 ^ j := by rw [h, hn, Nat.pow_add]
theorem m53_aux {A B P q v1 v2 : Nat} (h1 : v1 = A) (h2 : v2 = q * B) (h3 : P = A * B) : v1 * v2 = q * P := by rw [h1, h2, h3, Nat.mul_left_comm]
theorem m53_mul {s : Bool} {q : Nat} (h0 : q ≠ 0) (hq : q < 4503599627370496) : fop .mul 4368491638549381120 (Ieee.double.word s ((ex (nr q) + 1) * 4503599627370496 + mg (nr q))) = some (Ieee.double.word s q) := by
 obtain ⟨hm1, hm2⟩ := mg_nr h0;have he : ex (nr q) ≤ 51 := by rw [(zoq h0 hq).1]; exact (om h0 hq).1
 obtain ⟨Q, hQ⟩ : ∃ Q, Q = (ex (nr q) + 1) * 4503599627370496 + mg (nr q) := ⟨_, rfl⟩;obtain ⟨p1, p2⟩ := zcz (e := ex (nr q) + 1) hm1 hm2;rw [← hQ] at p1 p2 ⊢;have hQl : Q < 9218868437227405312 := by omega
 obtain ⟨h1, h2, _⟩ := je s Q (Nat.lt_trans hQl (by decide));have hc : rg 4368491638549381120 = 4368491638549381120 ∧ ng 4368491638549381120 = false ∧ vl 4368491638549381120 = 2 ^ 1021 := by decide +kernel
 have hvQ : vl Q = q * 2 ^ 53 := by
  rw [vl, p1, p2, Nat.pow_succ, ← Nat.mul_assoc];have := vl_nr h0 hq;unfold vl at this;rw [this, Nat.mul_assoc]
 have := mul_exact' (a := 4368491638549381120) (b := Ieee.double.word s Q) (r := q) (by rw [hc.1]; decide) (by rw [h1]; exact hQl) (by omega) (fun P hP => by
  rewrite [hc.1, h1, vl_sub hq]
  exact m53_aux hc.2.2 hvQ (p_split (i := 1021) (j := 53) (n := 1074) hP (by decide)))
 rw [this, hc.2.1, h2, Bool.false_xor]
section
variable (w : World) (a k q : Nat) (ha : a < 18446744073709551616) (h0 : rg a ≠ 0) (hf : rg a < 9218868437227405312) (hk : k < 4096) (hq : q < 9218868437227405312) (hv : vl q = vl (rg a) * 2 ^ k)
include ha h0 hf hk hq hv
theorem ldexp_norm (hn : 4503599627370496 ≤ q) : Calls Tryz.prog 92 #[.float .f64 a, .int .i64 ((k : Nat) : Int)] w fun e w' => e = .returned (.float .f64 (Ieee.double.word (ng a) q)) ∧ Below w.heap.size w w' := by
 have hz : isZ a = false := decide_eq_false h0;have hinf : decide (rg a = 9218868437227405312) = false := decide_eq_false (by omega);have hnn := ydz hf;have hlt := nzB_lt h0 hf;have hlow := nr_low h0;have hhigh := zlx h0 hf;obtain ⟨hp1, hp2⟩ := znq (ng a) hhigh;have hex : nr (rg a) / 4503599627370496 = ex (nr (rg a)) + 1 := by unfold ex; rw [if_neg (by omega)]; omega
 have hmg : mg (nr (rg a)) = 4503599627370496 + nr (rg a) % 4503599627370496 := by unfold mg; rw [if_neg (by omega)]
 have hexb : ex (nr (rg a)) ≤ 2045 := by omega
 have hfl : nr (rg a) % 4503599627370496 < 4503599627370496 := Nat.mod_lt _ (by decide);have hnze := nzE_nd a;have hndb : nd (rg a) ≤ 52 := by unfold nd; split <;> omega
 have hfw : Ieee.double.word (ng a) (nr (rg a) % 4503599627370496) < 18446744073709551616 := (je _ _ (by omega)).2.2;obtain ⟨hM, hE⟩ := yaz h0 (q := q) (by omega) hv;have hnq : nr q = q := by rw [nr, if_neg (by omega)]
 have hndq : nd q = 0 := by unfold nd; rw [if_neg (by omega)]
 rw [hnq] at hM hE;rw [hndq] at hE;have hrq := rung_of (r := q);have heq : ex q ≤ 2045 := by unfold ex; rw [if_neg (by omega)]; omega
 have hB : ((k : Nat) : Int) + nzE a + (((ex (nr (rg a)) + 1 : Nat) : Int) - 1023) = ((ex q : Nat) : Int) - 1022 := by omega
 have hor := zxq (ng a) (x := (ex q + 1) * 4503599627370496) hfl (Nat.mul_mod_left _ _) (by omega);have hsum := sum_rung hrq (hM.trans hmg);have hword := congrArg (Ieee.double.word (ng a)) hsum;refine zr Tryz.func92 rfl Tryz.ntmps92 rfl ?_;have LW := erx (No) w;have XLW := grx (No) w;have E := erx (No) w
 refine srx (anx rfl (zj (yi (srx (mvx rfl (za rfl (zkv rfl rfl (anx rfl (zu 8 (.bool false) rfl ((by rw [zak, hz] : (.bool (vf a 0 == some .eq) : Value) = _)) (zp rfl (srx (mvx rfl (za rfl (zd en58 rfl ((vn _ a ha).mono ?_)))))))))))))));rintro e w1 ⟨rfl, hb⟩;refine ⟨_, rfl, ?_⟩;replace E := blx E hb
 refine zz 14 (.bool false) rfl ((by rw [hinf] : (.bool (decide (rg a = 9218868437227405312)) : Value) = _)) (mvx rfl (onx rfl (zy rfl (onx rfl (zd en122 rfl ((zok _ a).mono ?_))))));rintro e w2 ⟨rfl, hb⟩;refine ⟨_, rfl, ?_⟩;replace E := blx E hb
 refine zz 17 (.bool false) rfl ((by rw [hnn] : (.bool (isN a) : Value) = _)) (za rfl (zh rfl rfl (anx rfl (zp rfl (zq (zw (zk (srx (mvx rfl (za rfl (zd en123 rfl ((oi _ a ha h0 hf).mono ?_))))))))))));rintro e w3 ⟨rfl, hb⟩;refine ⟨_, rfl, ?_⟩;replace E := blx E hb
 refine mvx rfl (za rfl (zn rfl rfl (za rfl (zn rfl rfl (avx rfl (anx rfl (srx (mvx rfl (mvx rfl (za rfl (qp rfl rfl (yg (by omega)) (anx rfl (srx (mvx rfl (za rfl (zdx ex81 rfl (anx rfl (srx (mvx rfl (mvx rfl (za rfl (gm rfl rfl (by decide) (shr52 (nzB a)) (za rfl (jn Tryz.underlying3 Tryz.underlying25 rfl (yg (by omega)) (za rfl (xc rfl rfl (and_2047i (by omega)) (zz 34 (.int .i64 ((ex (nr (rg a)) + 1 : Nat) : Int)) rfl ((by rw [show nzB a / 4503599627370496 % 2048 = _ from hp1, hex] : (.int .i64 ((nzB a / 4503599627370496 % 2048 : Nat) : Int) : Value) = _)) (za rfl (gf rfl rfl (yg (by omega)) (za rfl (qp rfl rfl (yg (by omega)) (anx rfl (zj (srx (mvx rfl (za rfl (jy rfl rfl ?_)))))))))))))))))))))))))))))))))))))
 refine rnx (zu 38 (.bool false) rfl ((by rw [hB, decide_eq_false (by omega)] : (.bool (decide (((((k : Nat) : Int) + (nzE a)) + (((ex (nr (rg a)) + 1 : Nat) : Int) - 1023)) < (-1075))) : Value) = _)) (zu 1 (.int .i64 (((ex q : Nat) : Int) - 1022)) rfl ((by rw [hB] : (.int .i64 ((((k : Nat) : Int) + (nzE a)) + (((ex (nr (rg a)) + 1 : Nat) : Int) - 1023)) : Value) = _)) (zp rfl (zq (zk (zj (srx (mvx rfl (za rfl (gg rfl rfl (rnx (zu 42 (.bool false) rfl ((by rw [decide_eq_false (by omega)] : (.bool (decide (1023 < (((ex q : Nat) : Int) - 1022))) : Value) = _)) (zp rfl (zq (zk (srx (anx rfl (zj (srx (mvx rfl (za rfl (jy rfl rfl (rnx (zu 48 (.bool false) rfl ((by rw [decide_eq_false (by omega)] : (.bool (decide ((((ex q : Nat) : Int) - 1022) < (-1022))) : Value) = _)) (zp rfl (zq (zk (srx (mvx rfl (za rfl (ov rfl rfl (zpx hlt) (zz 52 (.int .u64 ((Ieee.double.word (ng a) (nr (rg a) % 4503599627370496) : Nat) : Int)) rfl ((by rw [show nzB a / 9223372036854775808 * 9223372036854775808 + nzB a % 4503599627370496 = _ from hp2] : (.int .u64 ((nzB a / 9223372036854775808 * 9223372036854775808 + nzB a % 4503599627370496 : Nat) : Int) : Value) = _)) (avx rfl ?_)))))))))))))))))))))))))))))))))
 refine rnx (srx (mvx rfl (mvx rfl (za rfl (qp rfl rfl (yg (by omega)) (za rfl (jn Tryz.underlying25 Tryz.underlying3 rfl (wrap_u64 (by omega)) (za rfl (zck (z := (((ex q + 1) * 4503599627370496 : Nat) : Int)) rfl rfl (by decide) (by show IntKind.u64.wrap ((((ex q : Nat) : Int) - 1022 + 1023) * 4503599627370496) = _; rw [wrap_u64 (by omega)]; omega) (za rfl (ow_or rfl rfl (zrx hfw (by omega)) (zz 58 (.int .u64 ((Ieee.double.word (ng a) q : Nat) : Int)) rfl ((by rw [hor.trans hword] : (.int .u64 ((Ieee.double.word (ng a) (nr (rg a) % 4503599627370496) ||| (ex q + 1) * 4503599627370496 : Nat) : Int) : Value) = _)) (anx rfl (srx (mvx rfl (mvx rfl (za rfl (qf (b := Ieee.double.word (ng a) q) zev rfl (za rfl (ow_float (m := 4607182418800017408) (n := Ieee.double.word (ng a) q) (.inr (.inr (.inl rfl))) rfl rfl ?_))))))))))))))))))))
 intro r w4 hr;have Ec := hr.ext;replace E := E.trans Ec.no;refine anx rfl (zm (zl (rs := [.tmp 4]) (vs := [_]) rfl ⟨rfl, trivial⟩ ?_));exact ⟨by rw [hr.some (one_mul_f hq)]; rfl, (LW.step E XLW).toBelow⟩
theorem ldexp_sub (hn : q < 4503599627370496) (hq0 : q ≠ 0) : Calls Tryz.prog 92 #[.float .f64 a, .int .i64 ((k : Nat) : Int)] w fun e w' => e = .returned (.float .f64 (Ieee.double.word (ng a) q)) ∧ Below w.heap.size w w' := by
 have _ := hq;have hz : isZ a = false := decide_eq_false h0;have hinf : decide (rg a = 9218868437227405312) = false := decide_eq_false (by omega);have hnn := ydz hf;have hlt := nzB_lt h0 hf;have hlow := nr_low h0;have hhigh := zlx h0 hf;obtain ⟨hp1, hp2⟩ := znq (ng a) hhigh;have hex : nr (rg a) / 4503599627370496 = ex (nr (rg a)) + 1 := by unfold ex; rw [if_neg (by omega)]; omega
 have hmg : mg (nr (rg a)) = 4503599627370496 + nr (rg a) % 4503599627370496 := by unfold mg; rw [if_neg (by omega)]
 have hexb : ex (nr (rg a)) ≤ 2045 := by omega
 have hfl : nr (rg a) % 4503599627370496 < 4503599627370496 := Nat.mod_lt _ (by decide);have hnze := nzE_nd a;have hndb : nd (rg a) ≤ 52 := by unfold nd; split <;> omega
 have hfw : Ieee.double.word (ng a) (nr (rg a) % 4503599627370496) < 18446744073709551616 := (je _ _ (by omega)).2.2;obtain ⟨hM, hE⟩ := yaz h0 (q := q) hq0 hv;have hndq : nd q = 52 := by unfold nd; rw [if_pos hn]
 rw [hndq] at hE;have heq : ex (nr q) ≤ 51 := by rw [(zoq hq0 hn).1]; exact (om hq0 hn).1
 have hB : ((k : Nat) : Int) + nzE a + (((ex (nr (rg a)) + 1 : Nat) : Int) - 1023) = ((ex (nr q) : Nat) : Int) - 1074 := by omega
 have hor := zxq (ng a) (x := (ex (nr q) + 2) * 4503599627370496) hfl (Nat.mul_mod_left _ _) (by omega);have hsum := sum_rung (x := ex (nr q) + 1) (m := mg (nr q)) rfl (hM.trans hmg);have hword := congrArg (Ieee.double.word (ng a)) hsum;refine zr Tryz.func92 rfl Tryz.ntmps92 rfl ?_;have LW := erx (No) w;have XLW := grx (No) w;have E := erx (No) w
 refine srx (anx rfl (zj (yi (srx (mvx rfl (za rfl (zkv rfl rfl (anx rfl (zu 8 (.bool false) rfl ((by rw [zak, hz] : (.bool (vf a 0 == some .eq) : Value) = _)) (zp rfl (srx (mvx rfl (za rfl (zd en58 rfl ((vn _ a ha).mono ?_)))))))))))))));rintro e w1 ⟨rfl, hb⟩;refine ⟨_, rfl, ?_⟩;replace E := blx E hb
 refine zz 14 (.bool false) rfl ((by rw [hinf] : (.bool (decide (rg a = 9218868437227405312)) : Value) = _)) (mvx rfl (onx rfl (zy rfl (onx rfl (zd en122 rfl ((zok _ a).mono ?_))))));rintro e w2 ⟨rfl, hb⟩;refine ⟨_, rfl, ?_⟩;replace E := blx E hb
 refine zz 17 (.bool false) rfl ((by rw [hnn] : (.bool (isN a) : Value) = _)) (za rfl (zh rfl rfl (anx rfl (zp rfl (zq (zw (zk (srx (mvx rfl (za rfl (zd en123 rfl ((oi _ a ha h0 hf).mono ?_))))))))))));rintro e w3 ⟨rfl, hb⟩;refine ⟨_, rfl, ?_⟩;replace E := blx E hb
 refine mvx rfl (za rfl (zn rfl rfl (za rfl (zn rfl rfl (avx rfl (anx rfl (srx (mvx rfl (mvx rfl (za rfl (qp rfl rfl (yg (by omega)) (anx rfl (srx (mvx rfl (za rfl (zdx ex81 rfl (anx rfl (srx (mvx rfl (mvx rfl (za rfl (gm rfl rfl (by decide) (shr52 (nzB a)) (za rfl (jn Tryz.underlying3 Tryz.underlying25 rfl (yg (by omega)) (za rfl (xc rfl rfl (and_2047i (by omega)) (zz 34 (.int .i64 ((ex (nr (rg a)) + 1 : Nat) : Int)) rfl ((by rw [show nzB a / 4503599627370496 % 2048 = _ from hp1, hex] : (.int .i64 ((nzB a / 4503599627370496 % 2048 : Nat) : Int) : Value) = _)) (za rfl (gf rfl rfl (yg (by omega)) (za rfl (qp rfl rfl (yg (by omega)) (anx rfl (zj (srx (mvx rfl (za rfl (jy rfl rfl ?_)))))))))))))))))))))))))))))))))))))
 refine rnx (zu 38 (.bool false) rfl ((by rw [hB, decide_eq_false (by omega)] : (.bool (decide (((((k : Nat) : Int) + (nzE a)) + (((ex (nr (rg a)) + 1 : Nat) : Int) - 1023)) < (-1075))) : Value) = _)) (zu 1 (.int .i64 (((ex (nr q) : Nat) : Int) - 1074)) rfl ((by rw [hB] : (.int .i64 ((((k : Nat) : Int) + (nzE a)) + (((ex (nr (rg a)) + 1 : Nat) : Int) - 1023)) : Value) = _)) (zp rfl (zq (zk (zj (srx (mvx rfl (za rfl (gg rfl rfl (rnx (zu 42 (.bool false) rfl ((by rw [decide_eq_false (by omega)] : (.bool (decide (1023 < (((ex (nr q) : Nat) : Int) - 1074))) : Value) = _)) (zp rfl (zq (zk (srx (anx rfl (zj (srx (mvx rfl (za rfl (jy rfl rfl (rnx (zu 48 (.bool true) rfl ((by rw [decide_eq_true (by omega)] : (.bool (decide ((((ex (nr q) : Nat) : Int) - 1074) < (-1022))) : Value) = _)) (yc rfl (srx (mvx rfl (za rfl (qp rfl rfl (yg (by omega)) (anx rfl (yo ?_)))))))))))))))))))))))))))))))
 refine anx rfl (srx (mvx rfl (za rfl (ov rfl rfl (zpx hlt) (zz 52 (.int .u64 ((Ieee.double.word (ng a) (nr (rg a) % 4503599627370496) : Nat) : Int)) rfl ((by rw [show nzB a / 9223372036854775808 * 9223372036854775808 + nzB a % 4503599627370496 = _ from hp2] : (.int .u64 ((nzB a / 9223372036854775808 * 9223372036854775808 + nzB a % 4503599627370496 : Nat) : Int) : Value) = _)) (anx rfl (srx (mvx rfl (mvx rfl (za rfl (qp rfl rfl (yg (by omega)) (za rfl (jn Tryz.underlying25 Tryz.underlying3 rfl (wrap_u64 (by omega)) (za rfl (zck (z := (((ex (nr q) + 2) * 4503599627370496 : Nat) : Int)) rfl rfl (by decide) (by show IntKind.u64.wrap ((((ex (nr q) : Nat) : Int) - 1074 + 53 + 1023) * 4503599627370496) = _; rw [wrap_u64 (by omega)]; omega) (za rfl (ow_or rfl rfl (zrx hfw (by omega)) (zz 58 (.int .u64 ((Ieee.double.word (ng a) ((ex (nr q) + 1) * 4503599627370496 + mg (nr q)) : Nat) : Int)) rfl ((by rw [hor.trans hword] : (.int .u64 ((Ieee.double.word (ng a) (nr (rg a) % 4503599627370496) ||| (ex (nr q) + 2) * 4503599627370496 : Nat) : Int) : Value) = _)) (anx rfl (srx (mvx rfl (mvx rfl (za rfl (qf (b := Ieee.double.word (ng a) ((ex (nr q) + 1) * 4503599627370496 + mg (nr q))) zev rfl (za rfl (ow_float (m := 4368491638549381120) (n := Ieee.double.word (ng a) ((ex (nr q) + 1) * 4503599627370496 + mg (nr q))) (.inr (.inr (.inl rfl))) rfl rfl ?_))))))))))))))))))))))))))
 intro r w4 hr;have Ec := hr.ext;replace E := E.trans Ec.no;refine anx rfl (zm (zl (rs := [.tmp 4]) (vs := [_]) rfl ⟨rfl, trivial⟩ ?_));exact ⟨by rw [hr.some (m53_mul hq0 hn)]; rfl, (LW.step E XLW).toBelow⟩
end
section
variable {P : Program} {N : Nat} {ops : Array Oper} {Q : Exit → Act → World → Prop} {σ : Env} {w : World} {ty : TypeId} {pos : String} {af : Array Edge} {dst : Option Nat} {Post : Value → World → Prop}
theorem zxx {T U : TypeId} {x : Operand} {b : Nat} {q : IntKind} {z : Int} (hd : P.underlying U = some (.int q)) (hs : (P.underlying T).isSome = true) (hx : ev σ x = some (.float .f64 b)) (hz : floatToIntVal .f64 b q = some z) (k : Post (.int q z) w) : OW P N ops Q ⟨dst, .convert T U x, ty, pos, af, none⟩ σ w Post :=
 yp (fun ρ ha => by
  have h := run_convert_float_int (P := P) w T U .f64 q b z hs hd hz;simp only [execOp, ha hx, Sem.run_bind, h, Result.andThen_ok, Sem.run_pure]) k
theorem isN_read (b : Nat) : (FloatKind.f64.decode b).isNaN = isN b := by
 show (Ieee.double.read b).isNaN = isN b
 rcases Nat.lt_trichotomy (rg b) 9218868437227405312 with h | h | h
 · rw [ke h, isN, decide_eq_false (by omega)]; rfl
 · rw [oo h, isN, decide_eq_false (by omega)]; rfl
 · rw [read_nan h, isN, decide_eq_true h]; rfl
structure NRes (r : Nat) (w w' : World) : Prop where
 isn : isN r = true
 ext : Ext No w w'
 lt : r < 18446744073709551616
end
end Go.Proofs.YtaleikoeklemmaaGreatDoor
namespace Go.Proofs.YtaleikoeklemmaaGreatDoor
open Ieee
set_option maxRecDepth 100000
theorem two_split {p q s P : Nat} (hP : P = 2 ^ p) (h : p = q + s) : P = 2 ^ q * 2 ^ s := by rw [hP, h, Nat.pow_add]
theorem two_mono {k K P : Nat} (h : k ≤ K) (hP : P = 2 ^ K) : 2 ^ k ≤ P := by rw [hP]; exact Nat.pow_le_pow_right (by decide) h
theorem xf (n : Nat) : 0 < 2 ^ n := Nat.pow_pos (by decide)
theorem div_mul_p {x P w : Nat} (h : w = x / P) : w * P ≤ x := by rw [h]; exact Nat.div_mul_le_self _ _
theorem cut_zero (s : Bool) (n t : Nat) : Toward.zero.cut s n t = n / 2 ^ t := by
 have e : Toward.zero.cut s n t = n / (1 <<< min t (n.log2 + 2)) := by
  unfold Toward.cut;simp only [Bool.toNat_false, Nat.add_zero]
 rw [e, Nat.shiftLeft_eq, Nat.one_mul];rcases Nat.le_total t (n.log2 + 2) with h | h
 · rw [Nat.min_eq_left h]
 · rw [Nat.min_eq_right h];have h1 := @Nat.lt_log2_self n;have h2 : (2 : Nat) ^ (n.log2 + 1) ≤ 2 ^ (n.log2 + 2) := Nat.pow_le_pow_right (by decide) (by omega);have h3 : (2 : Nat) ^ (n.log2 + 2) ≤ 2 ^ t := Nat.pow_le_pow_right (by decide) h;rw [Nat.div_eq_of_lt (by omega), Nat.div_eq_of_lt (by omega)]
theorem shl_div (m i j : Nat) : m * 2 ^ (i - j) / 2 ^ (j - i) = m * 2 ^ i / 2 ^ j := by
 rcases Nat.le_total j i with h | h
 · rw [show j - i = 0 by omega, Nat.pow_zero, Nat.div_one, yck h, Nat.mul_div_cancel _ (Nat.pow_pos (by decide))]
 · rw [show i - j = 0 by omega, Nat.pow_zero, Nat.mul_one];rw [show (2 : Nat) ^ j = 2 ^ (j - i) * 2 ^ i by rw [← Nat.pow_add]; congr 1; omega, Nat.mul_div_mul_right _ _ (Nat.pow_pos (by decide))]
def qk (a : Nat) : Nat := vl (rg a) / 2 ^ 1074
theorem zmv {a : Nat} (ha : rg a < 9218868437227405312) : (double.read a).integral .zero = .number (ng a) (qk a) 0 := by
 rw [ke ha, Datum.integral, cut_zero, Nat.shiftLeft_eq];have e1 : (-1074 + (ex (rg a) : Int)).toNat = ex (rg a) - 1074 := by omega
 have e2 : (-(-1074 + (ex (rg a) : Int))).toNat = 1074 - ex (rg a) := by omega
 rw [e1, e2, shl_div];rfl
theorem signed_zero (s : Bool) (m : Nat) : signed s m 0 = if s then -(m : Int) else (m : Int) := by
 unfold signed;rw [Nat.shiftLeft_zero]
theorem toInt_fin {a : Nat} (ha : rg a < 9218868437227405312) : (FloatKind.f64.decode a).toInt .zero = some (if ng a then -(qk a : Int) else (qk a : Int)) := by
 show Datum.toInt .zero (double.read a) = _
 unfold Datum.toInt;rw [zmv ha];simp only [signed_zero]
theorem f2i_i64 {a : Nat} (ha : rg a < 9218868437227405312) (h : qk a < 9223372036854775808) : floatToIntVal .f64 a .i64 = some (if ng a then -(qk a : Int) else (qk a : Int)) := by
 unfold floatToIntVal;rw [toInt_fin ha];have h1 : IntKind.i64.min = -9223372036854775808 := rfl;have h2 : IntKind.i64.max = 9223372036854775807 := rfl;simp only [h1, h2]
 rw [if_pos (by split <;> omega)]
theorem f2i_u64 {a : Nat} (ha : rg a < 9218868437227405312) (hs : ng a = false) (h : qk a < 18446744073709551616) : floatToIntVal .f64 a .u64 = some (qk a : Int) := by
 unfold floatToIntVal;rw [toInt_fin ha, hs];have h1 : IntKind.u64.min = 0 := rfl;have h2 : IntKind.u64.max = 18446744073709551615 := rfl;simp only [h1, h2, Bool.false_eq_true, if_false]
 rw [if_pos (by omega)]
theorem mul_div_p {m P x : Nat} (hP : 0 < P) (h : x = m * P) : x / P = m := by rw [h, Nat.mul_div_cancel _ hP]
theorem zfz (s : Bool) {q m : Nat} (hq : q < 9218868437227405312) (h : vl q = m * 2 ^ 1074) : qk (double.word s q) = m := by
 unfold qk;rewrite [(je s q (Nat.lt_trans hq (by decide))).1]
 exact mul_div_p (xf 1074) h
theorem ziz {a : Nat} (ha : rg a < 9218868437227405312) : ∃ q, vl q = qk a * 2 ^ 1074 ∧ q ≤ rg a ∧ gn .zero a = double.word (ng a) q := by
 have key : ∃ q, vl q = qk a * 2 ^ 1074 ∧ q ≤ rg a := by
  have hle : qk a * 2 ^ 1074 ≤ vl (rg a) := div_mul_p rfl;rcases Nat.le_total (ex (rg a)) 1074 with h | h
  · refine rep_le (qk a) 1074 (rg a) ?_ hle;have := mg_lt (rg a);have h2 : vl (rg a) ≤ mg (rg a) * 2 ^ 1074 := Nat.mul_le_mul_left _ (two_mono h rfl);have h3 : qk a ≤ mg (rg a) := Nat.le_of_mul_le_mul_right (Nat.le_trans hle h2) (xf 1074);exact Nat.lt_of_le_of_lt h3 this
  · refine ⟨rg a, ?_, Nat.le_refl _⟩;have e : vl (rg a) = mg (rg a) * 2 ^ (ex (rg a) - 1074) * 2 ^ 1074 := yck h _;have e2 : qk a = mg (rg a) * 2 ^ (ex (rg a) - 1074) := mul_div_p (xf 1074) e;rw [e2]; exact e
 obtain ⟨q, h1, h2⟩ := key;refine ⟨q, h1, h2, ?_⟩;show double.write ((double.read a).integral .zero) = _
 rw [zmv ha];exact zzq (u := 1074) (d := 0) (Nat.lt_of_le_of_lt h2 ha) (by omega) (by rw [h1, Nat.pow_zero, Nat.mul_one])
/-! ### rests -/
def addS (a b : Nat) : Bool := if sv a + sv b = 0 then ng a && ng b else decide (sv a + sv b < 0)
theorem dvd_p {x m P : Nat} (h : x = m * P) : P ∣ x := ⟨m, by rw [h, Nat.mul_comm]⟩
theorem zero_p {x j P : Nat} (h : x = j * P) (e : j = 0) : x = 0 := by rw [h, e, Nat.zero_mul]
def isWh (r : Nat) : Prop := 2 ^ 1074 ∣ vl r
theorem isWh_iff {a : Nat} : isWh (rg a) ↔ vl (rg a) = qk a * 2 ^ 1074 := by
 constructor
 · intro h; exact (Nat.div_mul_cancel h).symm
 · intro h; exact dvd_p h
noncomputable def modR (a b : Nat) : Nat := if rg b = 9218868437227405312 then rg a else rungOf (vl (rg a) % vl (rg b))
noncomputable def m0F (a b : Nat) : Nat := double.word (ng a) (modR a b)
theorem ja {b : Nat} (hb : rg b < 9218868437227405312) : isN b = false := decide_eq_false (by omega)
def nanCase (a b : Nat) : Bool := isN a || isN b || decide (rg a = 9218868437227405312)
noncomputable def flipB (a b : Nat) : Bool := decide (modR a b ≠ 0) && (ng a != ng b)
noncomputable def modF (a b : Nat) : Nat := if nanCase a b then 9221120237041090560 else if modR a b = 0 then double.word (ng b) 0 else if flipB a b then ansF (fop .add (m0F a b) b) else m0F a b
noncomputable def subF (a b : Nat) : Nat := ansF (fop .sub a (m0F a b))
noncomputable def d0F (a b : Nat) : Nat := ansF (fop .quo (subF a b) b)
noncomputable def d1F (a b : Nat) : Nat := if flipB a b then ansF (fop .sub (d0F a b) 4607182418800017408) else d0F a b
def upB (d : Nat) : Bool := match fop .sub d (gn .down d) with
 | some z => vf z 4602678819172646912 == some .gt
 | none => false
def wholeF (d : Nat) : Nat := if upB d then ansF (fop .add (gn .down d) 4607182418800017408) else gn .down d
noncomputable def floorF (a b : Nat) : Nat := if nanCase a b then 9221120237041090560 else if isZ (d1F a b) then double.word (ng a ^^ ng b) 0 else wholeF (d1F a b)
section
variable {a b : Nat} (ha : a < 18446744073709551616) (hf : rg a < 9218868437227405312) (hb : b < 18446744073709551616) (hn : isN b = false) (h0 : rg b ≠ 0)
include hf h0
include hn ha
end
theorem ford_neg {b : Nat} (hn : isN b = false) (h0 : rg b ≠ 0) : (vf b 0 == some .lt) = ng b := by
 rw [zav hn (by decide)];have hp : pc 0 = 0 := by decide
 rw [hp];obtain ⟨p1, p2⟩ := zox b;cases h : ng b with
 | true => rw [zlv (by rw [p1 h]; omega)]; rfl
 | false => rw [ztv (by rw [p2 h]; omega)]; rfl
theorem ford_nan_no {a b : Nat} (h : isN a = true) (o : Ordering) : (vf a b == some o) = false := by rw [kx (.inl h)]; rfl
end Go.Proofs.YtaleikoeklemmaaGreatDoor
namespace Go.Proofs.YtaleikoeklemmaaGreatDoor
open Go.RowKit
set_option maxRecDepth 100000
theorem zjv {r : Nat} (h : r < 9223372036854775808) : rg r = r ∧ ng r = false := by
 have := je false r h;exact ⟨this.1, this.2.1⟩
theorem frF_pos {r : Nat} (hr : r < 9218868437227405312) : frF r = 4602678819172646912 + (mg (nr r) - 4503599627370496) := by
 obtain ⟨h1, h2⟩ := zjv (r := r) (by omega);rw [frF, h1, h2]; rfl
theorem frE_pos {r : Nat} (hr : r < 9218868437227405312) : frE r = (ex (nr r) : Int) - 1021 - (nd r : Int) := by
 obtain ⟨h1, _⟩ := zjv (r := r) (by omega);unfold frE nd;rw [h1];split <;> rfl
theorem frE_bound {r : Nat} (hr : r < 9218868437227405312) : -1100 ≤ frE r ∧ frE r ≤ 1100 := by
 rw [frE_pos hr];have h1 : ex (nr r) ≤ 2045 := by
  by_cases h0 : r = 0
  · subst h0; decide
  · have := zlx h0 hr;unfold ex;split <;> omega
 have h2 : nd r ≤ 52 := by unfold nd; split <;> omega
 omega
section
variable (w : World)
section
variable (a : Nat) (ha : a < 18446744073709551616) (h0 : rg a ≠ 0) (hf : rg a < 9218868437227405312)
include ha
section
include h0 hf
theorem zzx : Calls Tryz.prog 59 #[.float .f64 a] w fun e w' => e = .returned (.tuple #[.float .f64 (frF a), .int .i64 (frE a)]) ∧ Below w.heap.size w w' := by
 refine zr Tryz.func59 rfl Tryz.ntmps59 rfl ?_;have LW := erx (No) w;have XLW := grx (No) w;have E := erx (No) w;refine srx (avx rfl (anx rfl (zj (zp rfl (zq (zk (srx (mvx rfl (za rfl (zd en90 rfl ((frexp_num _ a ha h0 hf).mono ?_)))))))))));rintro e w1 ⟨rfl, hb⟩;refine ⟨_, rfl, ?_⟩;replace E := blx E hb
 refine za rfl (zn rfl rfl (za rfl (zn rfl rfl (avx rfl (anx rfl (zm (zl (rs := [.tmp 2, .tmp 3]) (vs := [_, _]) rfl ⟨rfl, rfl, trivial⟩ ?_)))))));exact ⟨rfl, (LW.step E XLW).toBelow⟩
theorem ldexp_all (k q : Nat) (hk : k < 4096) (hq : q < 9218868437227405312) (hv : vl q = vl (rg a) * 2 ^ k) : Calls Tryz.prog 92 #[.float .f64 a, .int .i64 ((k : Nat) : Int)] w fun e w' => e = .returned (.float .f64 (Ieee.double.word (ng a) q)) ∧ Below w.heap.size w w' := by
 rcases Nat.lt_or_ge q 4503599627370496 with hn | hn
 · refine ldexp_sub w a k q ha h0 hf hk hq hv hn (fun e => ?_);subst e;rw [kd] at hv;have h1 : 0 < vl (rg a) := by
    rcases Nat.eq_zero_or_pos (vl (rg a)) with h' | h'
    · exact absurd (zzk.1 h') h0
    · exact h'
   have := Nat.mul_pos h1 (show 0 < 2 ^ k from Nat.pow_pos (by decide));omega
 · exact ldexp_norm w a k q ha h0 hf hk hq hv hn
theorem zyv (k q : Nat) (hk : k < 4096) (hq : q < 9218868437227405312) (hv : vl q = vl (rg a) * 2 ^ k) : Calls Tryz.prog 61 #[.float .f64 a, .int .i64 ((k : Nat) : Int)] w fun e w' => e = .returned (.float .f64 (Ieee.double.word (ng a) q)) ∧ Below w.heap.size w w' := by
 refine zr Tryz.func61 rfl Tryz.ntmps61 rfl ?_;have LW := erx (No) w;have XLW := grx (No) w;have E := erx (No) w;refine srx (anx rfl (zj (zp rfl (zq (zk (srx (mvx rfl (mvx rfl (za rfl (zd en92 rfl ((ldexp_all _ a ha h0 hf k q hk hq hv).mono ?_)))))))))));rintro e w1 ⟨rfl, hb⟩;refine ⟨_, rfl, ?_⟩;replace E := blx E hb
 refine anx rfl (zm (zl (rs := [.tmp 4]) (vs := [_]) rfl ⟨rfl, trivial⟩ ?_));exact ⟨rfl, (LW.step E XLW).toBelow⟩
end
section
variable (hz : rg a = 0)
include hz
theorem frexp_zero : Calls Tryz.prog 90 #[.float .f64 a] w fun e w' => e = .returned (.tuple #[.float .f64 a, .int .i64 0]) ∧ Below w.heap.size w w' := by
 have _ := ha;have hz2 : isZ a = true := decide_eq_true hz;refine zr Tryz.func90 rfl Tryz.ntmps90 rfl ?_;have LW := erx (No) w;have XLW := grx (No) w;have E := erx (No) w
 refine srx (avx rfl (anx rfl (zj (yi (srx (mvx rfl (za rfl (zkv rfl rfl (anx rfl (zu 5 (.bool true) rfl ((by rw [zak, hz2] : (.bool (vf a 0 == some .eq) : Value) = _)) (yc rfl (srx (mvx rfl (avx rfl (anx rfl (zm (zv (zg (zl (rs := [.tmp 2, .tmp 3]) (vs := [_, _]) rfl ⟨rfl, rfl, trivial⟩ ?_)))))))))))))))))))
 exact ⟨rfl, (LW.step E XLW).toBelow⟩
theorem Frexp_zero : Calls Tryz.prog 59 #[.float .f64 a] w fun e w' => e = .returned (.tuple #[.float .f64 a, .int .i64 0]) ∧ Below w.heap.size w w' := by
 refine zr Tryz.func59 rfl Tryz.ntmps59 rfl ?_;have LW := erx (No) w;have XLW := grx (No) w;have E := erx (No) w;refine srx (avx rfl (anx rfl (zj (zp rfl (zq (zk (srx (mvx rfl (za rfl (zd en90 rfl ((frexp_zero _ a ha hz).mono ?_)))))))))));rintro e w1 ⟨rfl, hb⟩;refine ⟨_, rfl, ?_⟩;replace E := blx E hb
 refine za rfl (zn rfl rfl (za rfl (zn rfl rfl (avx rfl (anx rfl (zm (zl (rs := [.tmp 2, .tmp 3]) (vs := [_, _]) rfl ⟨rfl, rfl, trivial⟩ ?_)))))));exact ⟨rfl, (LW.step E XLW).toBelow⟩
theorem ldexp_zero (k : Int) : Calls Tryz.prog 92 #[.float .f64 a, .int .i64 k] w fun e w' => e = .returned (.float .f64 a) ∧ Below w.heap.size w w' := by
 have _ := ha;have hz2 : isZ a = true := decide_eq_true hz;refine zr Tryz.func92 rfl Tryz.ntmps92 rfl ?_;have LW := erx (No) w;have XLW := grx (No) w;have E := erx (No) w
 refine srx (anx rfl (zj (yi (srx (mvx rfl (za rfl (zkv rfl rfl (anx rfl (zu 8 (.bool true) rfl ((by rw [zak, hz2] : (.bool (vf a 0 == some .eq) : Value) = _)) (yc rfl (srx (mvx rfl (anx rfl (zm (zv (zg (zl (rs := [.tmp 4]) (vs := [_]) rfl ⟨rfl, trivial⟩ ?_)))))))))))))))));exact ⟨rfl, (LW.step E XLW).toBelow⟩
theorem Ldexp_zero (k : Int) : Calls Tryz.prog 61 #[.float .f64 a, .int .i64 k] w fun e w' => e = .returned (.float .f64 a) ∧ Below w.heap.size w w' := by
 refine zr Tryz.func61 rfl Tryz.ntmps61 rfl ?_;have LW := erx (No) w;have XLW := grx (No) w;have E := erx (No) w;refine srx (anx rfl (zj (zp rfl (zq (zk (srx (mvx rfl (mvx rfl (za rfl (zd en92 rfl ((ldexp_zero _ a ha hz k).mono ?_)))))))))));rintro e w1 ⟨rfl, hb⟩;refine ⟨_, rfl, ?_⟩;replace E := blx E hb
 refine anx rfl (zm (zl (rs := [.tmp 4]) (vs := [_]) rfl ⟨rfl, trivial⟩ ?_));exact ⟨rfl, (LW.step E XLW).toBelow⟩
end
section
variable (hi : rg a = 9218868437227405312)
include hi
end
end
/-! ### math.mod -/
section
variable (a b : Nat) (ha : a < 18446744073709551616) (hbq : b < 18446744073709551616) (hz : isZ b = false)
include ha hbq hz
section
variable (hf : rg a < 9218868437227405312) (hn : isN b = false)
include hf hn
section
variable (ha0 : rg a ≠ 0)
include ha0
/-! ### the loop -/
variable (hq : rg b < 9218868437227405312)
include hq
end
end
end
end
theorem shr_nat (m k : Nat) (hk : k < 64) : ((m : Nat) : Int).fdiv (2 ^ (min ((k : Nat) : Int).toNat IntKind.u64.bits)) = ((m / 2 ^ k : Nat) : Int) := by
 rw [Int.toNat_natCast, show min k IntKind.u64.bits = k from Nat.min_eq_left (by show k ≤ 64; omega), Int.fdiv_eq_ediv_of_nonneg _ (Int.le_of_lt (Int.pow_pos (by decide)))];rw [show (2 : Int) ^ k = ((2 ^ k : Nat) : Int) by simp];rfl
theorem wrap_mod (m : Nat) : IntKind.u64.wrap ((m : Nat) : Int) = ((m % 18446744073709551616 : Nat) : Int) := by
 unfold IntKind.wrap;simp only [IntKind.bits, IntKind.signed, Bool.false_and, Bool.false_eq_true, if_false]
 omega
theorem ycz (m k : Nat) (hk : k < 64) : IntKind.u64.wrap (((m : Nat) : Int) * 2 ^ (min ((k : Nat) : Int).toNat IntKind.u64.bits)) = ((m * 2 ^ k % 18446744073709551616 : Nat) : Int) := by
 rw [Int.toNat_natCast, show min k IntKind.u64.bits = k from Nat.min_eq_left (by show k ≤ 64; omega), show (2 : Int) ^ k = ((2 ^ k : Nat) : Int) by simp, ← Int.natCast_mul];exact wrap_mod _
theorem zpz (m n : Nat) : ((m : Nat) : Int).tmod ((n : Nat) : Int) = ((m % n : Nat) : Int) := rfl
theorem bool_dec {p q : Prop} [Decidable p] [Decidable q] (h : p ↔ q) : (Value.bool (decide p)) = .bool (decide q) := by
 congr 1
 by_cases hp : p
 · rw [decide_eq_true hp, decide_eq_true (h.1 hp)]
 · rw [decide_eq_false hp, decide_eq_false (fun k => hp (h.2 k))]
section
variable (w : World)
/-! ### rest -/
section
variable (a b : Nat) (ha : a < 18446744073709551616) (hbq : b < 18446744073709551616)
include ha hbq
section
variable (ha0 : rg a ≠ 0) (hb0 : rg b ≠ 0) (hf : rg a < 9218868437227405312) (hq : rg b < 9218868437227405312)
include ha0 hb0 hf hq
end
end
end
theorem tdiv_nat (m n : Nat) : ((m : Nat) : Int).tdiv ((n : Nat) : Int) = ((m / n : Nat) : Int) := rfl
theorem quo_nat {m n : Nat} (h : m < 18446744073709551616) : IntKind.u64.wrap (((m : Nat) : Int).tdiv ((n : Nat) : Int)) = ((m / n : Nat) : Int) := by
 rw [tdiv_nat]; exact zfx (Nat.lt_of_le_of_lt (Nat.div_le_self m n) h)
theorem ydx (m n : Nat) : IntKind.u64.wrap (((m : Nat) : Int) * ((n : Nat) : Int)) = ((m * n % 18446744073709551616 : Nat) : Int) := by rw [← Int.natCast_mul]; exact wrap_mod _
theorem add_nat (m n : Nat) : IntKind.u64.wrap (((m : Nat) : Int) + ((n : Nat) : Int)) = (((m + n) % 18446744073709551616 : Nat) : Int) := by rw [← Int.natCast_add]; exact wrap_mod _
theorem sub_mod_gen {M x y W : Nat} (hW : W < M) (h : (W + y) % M = x % M) : ((x : Int) - (y : Int)) % (M : Int) = (W : Int) := by
 have h' : ((W : Int) + (y : Int)) % (M : Int) = (x : Int) % (M : Int) := by exact_mod_cast h
 rw [Int.sub_emod, ← h', ← Int.sub_emod, Int.add_sub_cancel];exact Int.emod_eq_of_lt (by omega) (by omega)
theorem sub_nat {x y W : Nat} (hW : W < 18446744073709551616) (h : (W + y) % 18446744073709551616 = x % 18446744073709551616) : IntKind.u64.wrap (((x : Nat) : Int) - ((y : Nat) : Int)) = ((W : Nat) : Int) := by
 rw [IntKind.wrap_u64];exact sub_mod_gen hW h
theorem shl_cut {lo B V : Nat} (hB : B = lo % 2147483648) (hV : V = B * 8589934592) : lo * 2 ^ 33 % 18446744073709551616 = V := by
 rw [hV, hB];exact Nat.mul_mod_mul_right 8589934592 lo 2147483648
theorem jr {U d q r : Nat} (hq : q = U / d) (hr : r = U % d) : q * d + r = U := by rw [hq, hr, Nat.mul_comm]; exact Nat.div_add_mod U d
theorem ka {r U d : Nat} (hd : 0 < d) (hr : r = U % d) : r < d := by rw [hr]; exact Nat.mod_lt _ hd
theorem wrap_rest {M m q r d e f W x y : Nat} (hU : q * d + r = e) (hW : W = r * m + f) (hx : x = (e * m % M + f) % M) (hy : y = q * (d * m) % M) : (W + y) % M = x % M := by
 subst hx hy hW;rw [Nat.mod_mod, Nat.add_mod_mod, Nat.mod_add_mod, ← hU, Nat.add_mul, Nat.mul_assoc];congr 1
 omega
theorem div_gen {hi A B U V1 V0 q1 r1 q0 r0 m h y1 P a M : Nat} (hM : M = m * m) (hM2 : M = a * h) (hU : U = hi * h + A) (hV : V1 * m + V0 = B * h)
 (h1 : q1 * y1 + r1 = U) (h3 : q0 * y1 + r0 = r1 * m + V1) (hy : y1 * m = P * h) : (hi * M + (A * a + B)) * h = (q1 * m + q0) * P * h + (r0 * m + V0) := by
 have e1 : (hi * M + (A * a + B)) * h = (hi * h + A) * M + B * h := by
  rw [Nat.add_mul, Nat.add_mul, Nat.add_mul, Nat.mul_assoc A, ← hM2, Nat.mul_right_comm hi M h, Nat.add_assoc]
 have e2 : (q1 * m + q0) * P * h = (q1 * y1 * m + q0 * y1) * m := by
  rw [Nat.mul_assoc, ← hy, Nat.mul_comm y1 m, ← Nat.mul_assoc, Nat.mul_right_comm, Nat.add_mul, Nat.mul_right_comm q1 m y1]
 rw [e1, ← hU, ← hV, ← h1, hM, e2, Nat.add_mul, Nat.add_mul];have e3 : q0 * y1 * m + r0 * m = r1 * m * m + V1 * m := by rw [← Nat.add_mul, h3, Nat.add_mul]
 rw [← Nat.mul_assoc, ← Nat.mul_assoc];omega
theorem div_R {S Q P h m r0 V0 y1 : Nat} (h0 : 0 < h) (e : S * h = Q * P * h + (r0 * m + V0)) (hr : r0 < y1) (hv : V0 < m) (hy : y1 * m = P * h) : ∃ R, r0 * m + V0 = R * h ∧ R < P ∧ S = Q * P + R := by
 have hle : Q * P ≤ S := Nat.le_of_mul_le_mul_right (by omega) h0;obtain ⟨R, rfl⟩ : ∃ R, S = Q * P + R := ⟨S - Q * P, by omega⟩;rw [Nat.add_mul] at e;have e1 : r0 * m + V0 = R * h := by omega
 refine ⟨R, e1, ?_, rfl⟩;have e2 : (r0 + 1) * m ≤ y1 * m := Nat.mul_le_mul_right m hr;rw [Nat.add_mul, Nat.one_mul, hy] at e2;exact Nat.lt_of_mul_lt_mul_right (a := h) (by omega)
theorem div_eqs {hi A B U V1 V0 q1 r1 q0 r0 : Nat} (hU : U = hi * 8589934592 + A) (hV : V1 * 4294967296 + V0 = B * 8589934592)
 (h1 : q1 * 4294967294 + r1 = U) (h3 : q0 * 4294967294 + r0 = r1 * 4294967296 + V1) (h4 : r0 < 4294967294) (h5 : V0 < 4294967296) :
 ∃ R, r0 * 4294967296 + V0 = R * 8589934592 ∧ R < 2147483647 ∧ hi * 18446744073709551616 + (A * 2147483648 + B) = (q1 * 4294967296 + q0) * 2147483647 + R :=
 div_R (by decide) (div_gen (m := 4294967296) (a := 2147483648) rfl rfl hU hV h1 h3 rfl) h4 h5 rfl
theorem rr144_1 : Gives 144 #[.int .u64 2147483647] (.int .i64 31) := by
 intro w;refine zr Tryz.func144 rfl Tryz.ntmps144 rfl ?_;have LW := erx (No) w;have XLW := grx (No) w;have E := erx (No) w
 refine srx (anx rfl (zj (srx (mvx rfl (za rfl (og rfl rfl (rnx (zp rfl (zq (zk (zj (srx (mvx rfl (za rfl (og rfl rfl (rnx (yc rfl (srx (mvx rfl (za rfl (gm (z := 32767) rfl rfl (by decide) (by kernel_rfl) (anx rfl (yo (mvx rfl (za rfl (qp (z := 16) rfl rfl (by kernel_rfl) (anx rfl (zj (srx (mvx rfl ?_))))))))))))))))))))))))))))))
 refine za rfl (og rfl rfl (rnx (yc rfl (srx (mvx rfl (za rfl (gm (z := 127) rfl rfl (by decide) (by kernel_rfl) (anx rfl (yo (mvx rfl (za rfl (qp (z := 24) rfl rfl (by kernel_rfl) (anx rfl (srx (mvx rfl (mvx rfl (za rfl (jn (z := 127) Tryz.underlying5 Tryz.underlying25 rfl (by kernel_rfl) (za rfl (ow_indexSL (j := 127) (b := 7) Tryz.underlying9 rfl rfl rfl (by kernel_rfl) (za rfl (jn (z := 7) Tryz.underlying3 Tryz.underlying5 rfl (by kernel_rfl) (za rfl (qp (z := 31) rfl rfl (by kernel_rfl) (anx rfl (zm (zl (rs := [.tmp 2]) (vs := [.int .i64 31]) rfl ⟨rfl, trivial⟩ ?_)))))))))))))))))))))))))))
 exact ⟨rfl, (LW.step E XLW).toBelow⟩
theorem rr125_2 : Gives 125 #[.int .u64 2147483647] (.int .i64 33) := by
 intro w;refine zr Tryz.func125 rfl Tryz.ntmps125 rfl ?_;have LW := erx (No) w;have XLW := grx (No) w;have E := erx (No) w;refine srx (anx rfl (srx (mvx rfl (za rfl (zd en144 rfl ((rr144_1 _).mono ?_))))));rintro e w1 ⟨rfl, hb⟩;refine ⟨_, rfl, ?_⟩;replace E := blx E hb
 refine za rfl (gf (z := 33) rfl rfl (by kernel_rfl) (anx rfl (zm (zl (rs := [.tmp 2]) (vs := [.int .i64 33]) rfl ⟨rfl, trivial⟩ ?_))));exact ⟨rfl, (LW.step E XLW).toBelow⟩
section
variable (w : World)
theorem div64_prime (hi lo : Nat) (h1 : hi < 2147483647) (h2 : lo < 18446744073709551616) : Calls Tryz.prog 93 #[.int .u64 ((hi : Nat) : Int), .int .u64 ((lo : Nat) : Int), .int .u64 2147483647] w fun e w' => e = .returned (.tuple #[.int .u64 (((hi * 18446744073709551616 + lo) / 2147483647 : Nat) : Int), .int .u64 (((hi * 18446744073709551616 + lo) % 2147483647 : Nat) : Int)]) ∧ Below w.heap.size w w' := by
 obtain ⟨A, hA⟩ : ∃ A, A = lo / 2147483648 := ⟨_, rfl⟩;obtain ⟨B, hB⟩ : ∃ B, B = lo % 2147483648 := ⟨_, rfl⟩;obtain ⟨U, hU⟩ : ∃ U, U = hi * 8589934592 + A := ⟨_, rfl⟩;obtain ⟨V, hV⟩ : ∃ V, V = B * 8589934592 := ⟨_, rfl⟩;have eV : lo * 2 ^ 33 % 18446744073709551616 = V := shl_cut hB hV;have eA : lo / 2 ^ 31 = A := hA.symm
 have ehi : hi * 2 ^ 33 % 18446744073709551616 = hi * 8589934592 := Nat.mod_eq_of_lt (Nat.lt_of_lt_of_le (Nat.mul_lt_mul_of_pos_right h1 (by decide)) (by decide));have bA : A < 8589934592 := by omega
 have eor : hi * 8589934592 ||| A = U := by rw [hU]; exact or_add 33 bA (Nat.mul_mod_left hi 8589934592)
 have bB : B < 2147483648 := ka (by decide) hB;obtain ⟨V1, hV1⟩ : ∃ V1, V1 = V / 4294967296 := ⟨_, rfl⟩;obtain ⟨V0, hV0⟩ : ∃ V0, V0 = V % 4294967296 := ⟨_, rfl⟩;obtain ⟨q1, hq1⟩ : ∃ q1, q1 = U / 4294967294 := ⟨_, rfl⟩;obtain ⟨r1, hr1⟩ : ∃ r1, r1 = U % 4294967294 := ⟨_, rfl⟩;obtain ⟨W, hW⟩ : ∃ W, W = r1 * 4294967296 + V1 := ⟨_, rfl⟩;obtain ⟨q0, hq0⟩ : ∃ q0, q0 = W / 4294967294 := ⟨_, rfl⟩
 obtain ⟨r0, hr0⟩ : ∃ r0, r0 = W % 4294967294 := ⟨_, rfl⟩;obtain ⟨R, e1, e2, e3⟩ := div_eqs (hi := hi) (A := A) (B := B) (U := U) (V1 := V1) (V0 := V0) (q1 := q1) (r1 := r1) (q0 := q0) (r0 := r0) hU ((jr hV1 hV0).trans hV) (jr hq1 hr1) ((jr hq0 hr0).trans hW) (ka (by decide) hr0) (ka (by decide) hV0);have elo : A * 2147483648 + B = lo := jr hA hB
 have b1 := ka (by decide) hr1;have b0 := ka (by decide) hr0;have bV0 := ka (by decide) hV0;rw [elo] at e3;have eR : (hi * 18446744073709551616 + lo) % 2147483647 = R := by rw [e3, Nat.add_comm, Nat.add_mul_mod_self_right, Nat.mod_eq_of_lt e2]
 have eQ : (hi * 18446744073709551616 + lo) / 2147483647 = q1 * 4294967296 + q0 := by rw [e3, Nat.add_comm, Nat.add_mul_div_right _ _ (by decide), Nat.div_eq_of_lt e2, Nat.zero_add]
 have bU : U < 18446744073709551616 := by omega
 have bq1 : q1 < 4294967296 := by omega
 have bq0 : q0 < 4294967296 := by omega
 have bW : W < 18446744073709551616 := by omega
 refine zr Tryz.func93 rfl Tryz.ntmps93 rfl ?_;have LW := erx (No) w;have XLW := grx (No) w;have E := erx (No) w
 refine srx (avx rfl (anx rfl (zj (srx (mvx rfl (za rfl (ya rfl rfl (rnx (zp rfl (zq (zk (zj (srx (mvx rfl (mvx rfl (za rfl (zgk rfl rfl (rnx (zu 24 (.bool false) rfl ((by rw [decide_eq_false (by omega)] : (.bool (decide (2147483647 ≤ ((hi : Nat) : Int))) : Value) = _)) (zp rfl (zq (zk (zj (srx (mvx rfl (za rfl (ya rfl rfl (rnx (yx rfl (fun h => ?_) (fun h => ?_))))))))))))))))))))))))))))))
 ·
  have h := beq_iff_eq.1 h;obtain rfl : hi = 0 := by omega
  refine zj ?_;have OY : ∀ q9, (Mut (outM [])) q9 → q9 < (World.drew w).heap.size → (No) q9 := fun k h _ => (Mut.none_) k h;refine jb (No) Mut.none_ [] [] (zmq [Fx.of (.int .u64 ((lo : Nat) : Int)),
   Fx.of (.int .u64 2147483647),
   Fx.of (.int .u64 ((lo / 2147483647 : Nat) : Int)),
   Fx.of (.int .u64 ((lo : Nat) : Int)),
   Fx.of (.int .u64 2147483647),
   Fx.of (.int .u64 ((lo % 2147483647 : Nat) : Int)),
   Fx.of (.int .u64 ((lo / 2147483647 : Nat) : Int)),
   Fx.of (.int .u64 ((lo % 2147483647 : Nat) : Int))]) mixed rfl trivial (fun _ h => by cases h) ?_ ?_
  · refine ⟨?_, ?_, ?_, ?_, ?_, ?_, ?_, ?_, trivial⟩
    · intro vs X wq K;exact zy rfl ⟨Below.refl _ _, Left.of rfl⟩
    · intro vs X wq K;exact zy rfl ⟨Below.refl _ _, Left.of rfl⟩
    · intro vs X wq K;obtain ⟨_, e0, k0⟩ := K.dep 0 rfl rfl rfl;refine ze 28 (.int .u64 ((lo : Nat) : Int)) rfl e0 ?_;obtain ⟨_, e1, k1⟩ := K.dep 1 rfl rfl rfl;refine ze 29 (.int .u64 2147483647) rfl e1 ?_;exact ow_quo (z := ((lo / 2147483647 : Nat) : Int)) rfl rfl (by decide) (quo_nat (n := 2147483647) h2) ⟨Below.refl _ _, Left.of rfl⟩
    · intro vs X wq K;exact zy rfl ⟨Below.refl _ _, Left.of rfl⟩
    · intro vs X wq K;exact zy rfl ⟨Below.refl _ _, Left.of rfl⟩
    · intro vs X wq K;obtain ⟨_, e3, k3⟩ := K.dep 3 rfl rfl rfl;refine ze 31 (.int .u64 ((lo : Nat) : Int)) rfl e3 ?_;obtain ⟨_, e4, k4⟩ := K.dep 4 rfl rfl rfl;refine ze 32 (.int .u64 2147483647) rfl e4 ?_;exact kh (z := ((lo % 2147483647 : Nat) : Int)) rfl rfl (by decide) (zpz lo 2147483647) ⟨Below.refl _ _, Left.of rfl⟩
    · intro vs X wq K;obtain ⟨_, e2, k2⟩ := K.dep 2 rfl rfl rfl;refine ze 30 (.int .u64 ((lo / 2147483647 : Nat) : Int)) rfl e2 ?_;exact qr rfl ⟨Below.refl _ _, Left.of rfl⟩
    · intro vs X wq K;obtain ⟨_, e5, k5⟩ := K.dep 5 rfl rfl rfl;refine ze 33 (.int .u64 ((lo % 2147483647 : Nat) : Int)) rfl e5 ?_;exact qr rfl ⟨Below.refl _ _, Left.of rfl⟩
  intro vs w1 LE AO AL AF AA;replace E := E.drew.trans (LE.mono OY);obtain ⟨_, e6, k6⟩ := AL.2.2.2.2.2.2.1;obtain ⟨_, e7, k7⟩ := AL.2.2.2.2.2.2.2.1;refine gu (τ := [(0, _), (1, _), (2, _), (6, .int .u64 ((lo / 2147483647 : Nat) : Int)), (7, .int .u64 ((lo % 2147483647 : Nat) : Int))]) ⟨rfl, rfl, rfl, congrArg some e6, congrArg some e7, trivial⟩ ?_;clear AL AF AA LE AO OY e6 e7 k6 k7
  refine zk (zm (zg (zl (rs := [.tmp 6, .tmp 7]) (vs := [_, _]) rfl ⟨rfl, rfl, trivial⟩ ?_)));exact ⟨by rw [Nat.zero_mul, Nat.zero_add]; rfl, (LW.step E XLW).toBelow⟩
 ·
  refine zq (zk (srx (mvx rfl (za rfl (zd en125 rfl ((rr125_2 _).mono ?_))))));rintro e w2 ⟨rfl, hb⟩;refine ⟨_, rfl, ?_⟩;replace E := blx E hb
  refine za rfl (jn (z := 33) Tryz.underlying59 Tryz.underlying3 rfl (by kernel_rfl) (anx rfl (srx (mvx rfl (mvx rfl (za rfl (zck (z := 18446744065119617024) rfl rfl (by decide) (by kernel_rfl) (anx rfl (srx (mvx rfl (za rfl (gm (z := 4294967294) rfl rfl (by decide) (by kernel_rfl) (anx rfl (srx (mvx rfl (za rfl (xc (z := 0) rfl rfl (by kernel_rfl) (anx rfl (srx (mvx rfl (mvx rfl (za rfl (zck rfl rfl (by decide) (ycz hi 33 (by decide)) (zz 46 (.int .u64 ((hi * 8589934592 : Nat) : Int)) rfl ((by rw [ehi] : (.int .u64 ((hi * 2 ^ 33 % 18446744073709551616 : Nat) : Int) : Value) = _)) (mvx rfl (mvx rfl (za rfl (gf (z := 31) rfl rfl (by kernel_rfl) (za rfl (gm rfl rfl (by decide) (shr_nat lo 31 (by decide)) (zz 50 (.int .u64 ((A : Nat) : Int)) rfl ((by rw [eA] : (.int .u64 ((lo / 2 ^ 31 : Nat) : Int) : Value) = _)) (za rfl (ow_or rfl rfl (zrx (by omega) (by omega)) (zz 51 (.int .u64 ((U : Nat) : Int)) rfl ((by rw [eor] : (.int .u64 ((hi * 8589934592 ||| A : Nat) : Int) : Value) = _)) (avx rfl ?_)))))))))))))))))))))))))))))))))))
  refine rnx (srx (mvx rfl (mvx rfl (za rfl (zck rfl rfl (by decide) (ycz lo 33 (by decide)) (zz 54 (.int .u64 ((V : Nat) : Int)) rfl ((by rw [eV] : (.int .u64 ((lo * 2 ^ 33 % 18446744073709551616 : Nat) : Int) : Value) = _)) (anx rfl (srx (mvx rfl (za rfl (gm rfl rfl (by decide) (shr_nat V 32 (by decide)) (zz 56 (.int .u64 ((V1 : Nat) : Int)) rfl ((by rw [hV1] : (.int .u64 ((V / 2 ^ 32 : Nat) : Int) : Value) = _)) (anx rfl (srx (mvx rfl (za rfl (xc rfl rfl (zuz (n := 4294967295) (by omega) (by decide)) (zz 58 (.int .u64 ((V0 : Nat) : Int)) rfl ((by rw [show V &&& 4294967295 = V % 4294967296 from Nat.and_two_pow_sub_one_eq_mod V 32, hV0] : (.int .u64 ((V &&& 4294967295 : Nat) : Int) : Value) = _)) (anx rfl (srx (mvx rfl (mvx rfl (za rfl (ow_quo (z := ((U / 4294967294 : Nat) : Int)) rfl rfl (by decide) (quo_nat (n := 4294967294) bU) (zz 61 (.int .u64 ((q1 : Nat) : Int)) rfl ((by rw [hq1] : (.int .u64 ((U / 4294967294 : Nat) : Int) : Value) = _)) (anx rfl (srx (mvx rfl (mvx rfl ?_)))))))))))))))))))))))))))))
  refine mvx rfl (za rfl (jd rfl rfl (wrap_u64 (by omega)) (za rfl (gf rfl rfl (wrap_u64 (by omega)) (anx rfl (zj (yi (zxv (zj (srx (mvx rfl (za rfl (og rfl rfl (mvx rfl (zz 16 (.int .u64 ((r1 : Nat) : Int)) rfl ((by congr 1; omega : (.int .u64 (((U : Nat) : Int) - (((q1 : Nat) : Int) * 4294967294)) : Value) = _)) (zz 69 (.bool false) rfl ((by rw [decide_eq_false (by omega)] : (.bool (decide (4294967296 ≤ ((q1 : Nat) : Int))) : Value) = _)) (onx rfl (zy rfl (onx rfl (zy rfl (onx rfl (jd rfl rfl (wrap_u64 (by omega)) (onx rfl (zy rfl (onx rfl (jd rfl rfl (wrap_u64 (by omega)) (onx rfl (zy rfl (onx rfl (qp rfl rfl (wrap_u64 (by omega)) (onx rfl (gg rfl rfl (za rfl (zh rfl rfl (rnx (zu 78 (.bool false) rfl ((by rw [decide_eq_false (by omega)] : (.bool (decide (((4294967296 * ((r1 : Nat) : Int)) + ((V1 : Nat) : Int)) < (((q1 : Nat) : Int) * 0))) : Value) = _)) (zp rfl (oe (qg (qg (vu (zk (srx (mvx rfl (za rfl (jd rfl rfl (ydx U 4294967296) (mvx rfl ?_)))))))))))))))))))))))))))))))))))))))))))))))
  refine za rfl (qp rfl rfl (add_nat _ V1) (mvx rfl (mvx rfl (za rfl (jd rfl rfl (ydx q1 18446744065119617024) (za rfl (gf (z := ((W : Nat) : Int)) rfl rfl (sub_nat bW (wrap_rest (m := 4294967296) (jr hq1 hr1) hW rfl rfl)) (anx rfl (srx (mvx rfl (mvx rfl (za rfl (ow_quo (z := ((W / 4294967294 : Nat) : Int)) rfl rfl (by decide) (quo_nat (n := 4294967294) bW) (zz 96 (.int .u64 ((q0 : Nat) : Int)) rfl ((by rw [hq0] : (.int .u64 ((W / 4294967294 : Nat) : Int) : Value) = _)) (anx rfl (srx (mvx rfl (mvx rfl (mvx rfl (za rfl (jd rfl rfl (wrap_u64 (by omega)) (za rfl (gf rfl rfl (wrap_u64 (by omega)) (anx rfl (zj (yi (zxv (zj (srx (mvx rfl (za rfl (og rfl rfl (mvx rfl (zz 16 (.int .u64 ((r0 : Nat) : Int)) rfl ((by congr 1; omega : (.int .u64 (((W : Nat) : Int) - (((q0 : Nat) : Int) * 4294967294)) : Value) = _)) (zz 104 (.bool false) rfl ((by rw [decide_eq_false (by omega)] : (.bool (decide (4294967296 ≤ ((q0 : Nat) : Int))) : Value) = _)) (onx rfl (zy rfl (onx rfl (zy rfl ?_)))))))))))))))))))))))))))))))))))))))
  refine onx rfl (jd rfl rfl (wrap_u64 (by omega)) (onx rfl (zy rfl (onx rfl (jd rfl rfl (wrap_u64 (by omega)) (onx rfl (zy rfl (onx rfl (qp rfl rfl (wrap_u64 (by omega)) (onx rfl (gg rfl rfl (za rfl (zh rfl rfl (rnx (zu 113 (.bool false) rfl ((by rw [decide_eq_false (by omega)] : (.bool (decide (((4294967296 * ((r0 : Nat) : Int)) + ((V0 : Nat) : Int)) < (((q0 : Nat) : Int) * 0))) : Value) = _)) (zp rfl (oe (qg (qg (vu (zk (srx (mvx rfl (za rfl (jd rfl rfl (wrap_u64 (by omega)) (mvx rfl (za rfl (qp rfl rfl (wrap_u64 (by omega)) (mvx rfl (zz 124 (.int .u64 ((q1 * 4294967296 + q0 : Nat) : Int)) rfl ((by rw [Int.natCast_add, Int.natCast_mul]; rfl : (.int .u64 ((((q1 : Nat) : Int) * 4294967296) + ((q0 : Nat) : Int)) : Value) = _)) (za rfl (jd rfl rfl (ydx W 4294967296) (mvx rfl (za rfl (qp rfl rfl (add_nat _ V0) (mvx rfl (mvx rfl (za rfl (jd rfl rfl (ydx q0 18446744065119617024) (za rfl (gf (z := ((R * 8589934592 : Nat) : Int)) rfl rfl (sub_nat (Nat.lt_of_lt_of_le (Nat.mul_lt_mul_of_pos_right e2 (by decide)) (by decide)) (wrap_rest (m := 4294967296) (jr hq0 hr0) e1.symm rfl rfl)) (mvx rfl (za rfl (gm rfl rfl (by decide) (shr_nat (R * 8589934592) 33 (by decide)) (zz 134 (.int .u64 ((R : Nat) : Int)) rfl ((by rw [show R * 8589934592 / 2 ^ 33 = R from Nat.mul_div_cancel R (show 0 < 8589934592 by decide)] : (.int .u64 ((R * 8589934592 / 2 ^ 33 : Nat) : Int) : Value) = _)) (avx rfl (anx rfl (zm (zl (rs := [.tmp 6, .tmp 7]) (vs := [_, _]) rfl ⟨rfl, rfl, trivial⟩ ?_)))))))))))))))))))))))))))))))))))))))))))))))))
  exact ⟨by rw [eR, eQ]; rfl, (LW.step E XLW).toBelow⟩
theorem zwz (hi lo : Nat) (h1 : hi < 18446744073709551616) (h2 : lo < 18446744073709551616) : Calls Tryz.prog 63 #[.int .u64 ((hi : Nat) : Int), .int .u64 ((lo : Nat) : Int), .int .u64 2147483647] w fun e w' => e = .returned (.int .u64 (((hi * 18446744073709551616 + lo) % 2147483647 : Nat) : Int)) ∧ Below w.heap.size w w' := by
 have e : (hi % 2147483647 * 18446744073709551616 + lo) % 2147483647 = (hi * 18446744073709551616 + lo) % 2147483647 := by omega
 have _ := h1;refine zr Tryz.func63 rfl Tryz.ntmps63 rfl ?_;have LW := erx (No) w;have XLW := grx (No) w;have E := erx (No) w
 refine srx (anx rfl (srx (mvx rfl (mvx rfl (za rfl (kh (z := ((hi % 2147483647 : Nat) : Int)) rfl rfl (by decide) (zpz hi 2147483647) (mvx rfl (mvx rfl (za rfl (zd en93 rfl ((div64_prime _ (hi % 2147483647) lo (Nat.mod_lt _ (by decide)) h2).mono ?_)))))))))));rintro e w1 ⟨rfl, hb⟩;refine ⟨_, rfl, ?_⟩;replace E := blx E hb
 refine mvx rfl (za rfl (zn rfl rfl (za rfl (zn rfl rfl (avx rfl (anx rfl (srx (mvx rfl (anx rfl (zm (zl (rs := [.tmp 6]) (vs := [_]) rfl ⟨rfl, trivial⟩ ?_)))))))))));exact ⟨by rw [← e]; rfl, (LW.step E XLW).toBelow⟩
end
theorem frF_parts {r : Nat} (hr : r < 9218868437227405312) (h0 : r ≠ 0) : frF r < 9218868437227405312 ∧ frF r ≠ 0 ∧ vl (frF r) = mg (nr r) * 2 ^ 1021 := by
 obtain ⟨m1, m2⟩ := mg_nr h0;obtain ⟨p1, p2⟩ := zcz (e := 1021) m1 m2;have e : frF r = 1021 * 4503599627370496 + mg (nr r) := by rw [frF_pos hr]; omega
 refine ⟨by omega, by omega, ?_⟩;rw [e, vl, p1, p2]
theorem fullQ {r : Nat} (h0 : r ≠ 0) : vl (1074 * 4503599627370496 + mg (nr r)) = mg (nr r) * 2 ^ 1074 ∧ 1074 * 4503599627370496 + mg (nr r) < 9218868437227405312 := by
 obtain ⟨m1, m2⟩ := mg_nr h0;obtain ⟨p1, p2⟩ := zcz (e := 1074) m1 m2;refine ⟨?_, by omega⟩;show mg _ * 2 ^ ex _ = _
 rewrite [p1, p2]; rfl
theorem FRes.isn {r : Nat} {w w' : World} (h : FRes none r w w') : isN r = true := by
 rcases h with ⟨h1, _⟩ | ⟨_, hn, _⟩
 · cases h1
 · exact nan_isN hn
theorem FRes.nan {z : Option Nat} {r : Nat} {w w' : World} (h : FRes z r w w') (hz : z = none) : isN r = true := by subst hz; exact h.isn
theorem bareN_num {m : Nat} (h : isN m = false) : qa m = m := by rw [qa, if_neg (by rw [h]; decide)]
section
variable (w : World)
/-! ### package real's -/
section
variable (a b : Nat) (ha : a < 18446744073709551616) (hbq : b < 18446744073709551616) (hz : isZ b = false)
include ha hbq hz
section
variable (hf : rg a < 9218868437227405312) (hn : isN b = false)
include hf hn
end
end
end
section
variable {P : Program} {N : Nat} {ops : Array Oper} {Q : Exit → Act → World → Prop} {σ : Env} {w : World} {ty : TypeId} {pos : String} {af : Array Edge} {dst : Option Nat} {Post : Value → World → Prop}
end
/-! ### loops -/
inductive Ends {α : Type} (done : α → Bool) (step : α → α) : α → α → Prop
 | stop {s : α} : done s = true → Ends done step s s
 | next {s t : α} : done s = false → Ends done step (step s) t → Ends done step s t
noncomputable def until_ {α : Type} (done : α → Bool) (step : α → α) (s : α) : α := @Classical.epsilon α ⟨s⟩ (Ends done step s)
section
variable {P : Program} {Q : Exit → Act → World → Prop} {a : Act} {w : World} {body : Code}
def InScope (P : Program) (body : Code) (Q : Exit → Act → World → Prop) : Nat → Exit → Act → World → Prop
 | 0, .goto l, a, w => findLabel body l = none ∧ Q (.goto l) a w
 | n + 1, .goto l, a, w => (findLabel body l = none ∧ Q (.goto l) a w) ∨ ∃ rest, findLabel body l = some rest ∧ rest.wp P (InScope P body Q n) a w
 | _, e, a, w => Q e a w
end
section
variable {P : Program} {N : Nat} {Q : Exit → Act → World → Prop} {σ : Env} {w : World} {body : Code} {n : Nat}
end
section
variable {P : Program} {N : Nat} {ops : Array Oper} {Q : Exit → Act → World → Prop} {σ : Env} {w : World} {ty : TypeId} {pos : String} {af : Array Edge} {dst : Option Nat} {Post : Value → World → Prop}
theorem zwk {T T' : TypeId} {x y : Operand} {g o : Nat} {cs cs' : Array Value} {v : Value} (hs : qx P T 1) (hx : ev σ x = some (.pointer (some ⟨g, o, none⟩))) (hy : ev σ y = some v) (hb : Blk w g T' cs) (hv : v.cells = #[v]) (h1 : ki [v] = true) (hle : o < cs.size) (he : cs.setIfInBounds o v = cs')
 (k : ∀ w', Blk w' g T' cs' → Ext (Mut [some g]) w w' → Post undef w') : OW P N ops Q ⟨dst, .store T x y, ty, pos, af, none⟩ σ w Post := by
 refine qj hs hx hy hb (by rw [hv]; rfl) (by rw [hv]; exact h1) (by omega) (fun w' hb' he' => k w' ?_ he');rw [hv] at hb';rw [← he];exact hb'
end
section
variable {P : Program} {N : Nat} {ops : Array Oper} {Q : Exit → Act → World → Prop} {σ : Env} {w : World} {ty : TypeId} {pos : String} {af : Array Edge} {dst : Option Nat} {Post : Value → World → Prop}
end
section
variable {P : Program} {N : Nat} {ops : Array Oper} {Q : Exit → Act → World → Prop} {σ : Env} {w : World} {ty : TypeId} {pos : String} {af : Array Edge} {dst : Option Nat} {Post : Value → World → Prop}
end
section
variable {P : Program} {N : Nat} {ops : Array Oper} {Q : Exit → Act → World → Prop} {σ : Env} {w : World} {ty : TypeId} {pos : String} {af : Array Edge} {dst : Option Nat} {Post : Value → World → Prop}
theorem zqz : ∀ (l : List Value) (cs : Array Value) (o j : Nat), (jq cs o l)[j]? = if o ≤ j ∧ j < o + l.length ∧ j < cs.size then l[j - o]? else cs[j]?
 | [], cs, o, j => by
  simp only [jq, List.length_nil, Nat.add_zero]
  rw [if_neg (by omega)]
 | v :: l, cs, o, j => by
  rw [jq, zqz l];simp only [Array.size_setIfInBounds, List.length_cons]
  by_cases h1 : j = o
  · subst h1;rw [if_neg (by omega)];by_cases h2 : j < cs.size
    · rw [if_pos ⟨Nat.le_refl _, by omega, h2⟩, Nat.sub_self];simp [h2]
    · rw [if_neg (by omega)];simp [h2]
  · by_cases h2 : o + 1 ≤ j ∧ j < o + 1 + l.length ∧ j < cs.size
    · rw [if_pos h2, if_pos (by omega), show j - o = (j - (o + 1)) + 1 by omega];simp
    · rw [if_neg h2, if_neg (by omega), Array.getElem?_setIfInBounds_ne (by omega)]
theorem putCells_full (cs : Array Value) (l : List Value) (h : l.length = cs.size) : jq cs 0 l = l.toArray := by
 apply Array.ext_getElem?
 intro j;rw [zqz];by_cases hj : j < cs.size
 · rw [if_pos ⟨Nat.zero_le _, by omega, hj⟩]; simp
 · rw [if_neg (by omega), Array.getElem?_eq_none (by omega), List.getElem?_toArray, List.getElem?_eq_none (by omega)]
theorem vv {T T' : TypeId} {x y : Operand} {g : Nat} {cs : Array Value} {v : Value} {n : Nat} (hs : qx P T n) (hx : ev σ x = some (.pointer (some ⟨g, 0, none⟩))) (hy : ev σ y = some v) (hb : Blk w g T' cs) (hn : v.cells.size = n) (h1 : ki v.cells.toList = true) (hle : n = cs.size)
 (k : ∀ w', Blk w' g T' v.cells → Ext (Mut [some g]) w w' → Post undef w') : OW P N ops Q ⟨dst, .store T x y, ty, pos, af, none⟩ σ w Post :=
 qj hs hx hy hb hn h1 (by omega) (fun w' hb' he => k w' (by
  rw [putCells_full _ _ (by rw [Array.length_toList]; omega)] at hb';simpa using hb') he)
theorem yh {T : TypeId} {d : TypeDesc} {x : Operand} {g o : Nat} {cs : Array Value} {n : Nat} (hd : P.underlying T = some d) (hp : TypeDesc.plain d = false) (hs : qx P T n) (hx : ev σ x = some (.pointer (some ⟨g, o, none⟩))) (hn : cs.size = n)
 (hc : ∀ j v, cs[j]? = some v → w.cell? ⟨g, o + j, none⟩ = some v) (k : Post (.agg cs) w) : OW P N ops Q ⟨dst, .load T x, ty, pos, af, none⟩ σ w Post :=
 ow_loadN hd hp hs hx hn (fun j v hj => by rw [Addr.add_eq]; exact hc j v hj) k
end
def lastOK (l : List Oper) (m : Nat) : Bool := Nat.beq (m + 1) l.length && zaq 0 (l.take m) [] && (l.take m).all fun o => match o.guard with
 | some (g, _) => Nat.blt g m
 | none => true
section
variable {P : Program} {N : Nat} {Q : Exit → Act → World → Prop} {σ : Env} {w : World} {l : List Oper}
end
section
variable {P : Program} {N : Nat} {Q : Exit → Act → World → Prop} {σ : Env} {w0 : World} {l : List Oper} {F : Nat → Fx} {q : Nat} {Z : Nat → Prop}
def Known1 (ops : Array Oper) (Z : Nat → Prop) (F : Nat → Fx) (w0 : World) (vs : Nat → Value) (X : Nat → Prop) (w : World) (i : Nat) : Prop :=
 Ext Z w0 w ∧ (∀ k, X k → k < w.heap.size) ∧ ∀ j ∈ vm ops i, Left X w (F j) (vs j)
theorem Known1.dep {ops : Array Oper} {vs : Nat → Value} {X : Nat → Prop} {w : World} {i : Nat} (K : Known1 ops Z F w0 vs X w i) (j : Nat) (h : memN j (vm ops i) = true) (_ : True = True) (_ : True = True) : Left X w (F j) (vs j) := K.2.2 j (ju.1 h)
def Step1 (P : Program) (N : Nat) (ops : Array Oper) (Q : Exit → Act → World → Prop) (σ : Env) (q : Nat) (Z : Nat → Prop) (F : Nat → Fx) (w0 : World) (i : Nat) (o : Oper) : Prop :=
 ∀ vs X w, Known1 ops Z F w0 vs X w i → (Nat.beq i q = true → Ext No w0 w) → OW P N ops Q o (gl σ ops vs i) w (fun v w' => match Nat.beq i q with
  | true => Ext Z w w' ∧ Left No w' (F i) v
  | false => Below w.heap.size w w' ∧ Left X w' (F i) v)
def Steps1 (P : Program) (N : Nat) (ops : Array Oper) (Q : Exit → Act → World → Prop) (σ : Env) (q : Nat) (Z : Nat → Prop) (F : Nat → Fx) (w0 : World) : Nat → List Oper → Prop
 | _, [] => True
 | i, o :: l => Step1 P N ops Q σ q Z F w0 i o ∧ Steps1 P N ops Q σ q Z F w0 (i + 1) l
def Yet (listed : Array Bool) (q : Nat) (Z : Nat → Prop) (k : Nat) : Prop := ¬ Ran listed q ∧ Z k
structure Mid1 (N : Nat) (l : List Oper) (σ : Env) (w0 : World) (q : Nat) (Z : Nat → Prop) (F : Nat → Fx) (listed : Array Bool) (a : Act) (w : World) (vs : Nat → Value) : Prop where
 size : listed.size = l.length
 defers : a.defers = []
 tmps : a.tmps.size = N
 kept : ∀ t v, lk t (cutE (dstL l) σ) = some v → a.tmps[t]? = some v
 ran : ∀ i d, Ran listed i → xd l.toArray i = some d → a.tmps[d]? = some (vs i)
 old : ∀ i d v, ¬ Ran listed i → xd l.toArray i = some d → lk d σ = some v → a.tmps[d]? = some v
 down : ∀ i, Ran listed i → ∀ j ∈ vm l.toArray i, Ran listed j
 ext : Ext (fun k => Ran listed q ∧ Z k) w0 w
 facts : ∀ i, Ran listed i → Left (Yet listed q Z) w (F i) (vs i)
theorem Mid1.at_ {listed : Array Bool} {a : Act} {w : World} {vs : Nat → Value} (m : Mid1 N l σ w0 q Z F listed a w vs) {i : Nat} (hi : ¬ Ran listed i) (hd : ∀ j ∈ vm l.toArray i, Ran listed j) : At N (gl σ l.toArray vs i) a := by
 refine ⟨m.defers, m.tmps, fun t v h => ?_⟩;rcases xk h with h | h
 · obtain ⟨j, hj, hjd, rfl⟩ := zrv h;exact m.ran j t (hd j hj) hjd
 · rcases xk h with h | h
   · obtain ⟨j, _, hjd, hji, hv⟩ := zsx h;exact m.old j t v (fun hr => hi (m.down j hr i hji)) hjd hv
   · exact m.kept t v h
theorem Mid1.step (hrow : zaq 0 l [] = true) {listed : Array Bool} {a : Act} {w w' : World} {vs : Nat → Value} (m : Mid1 N l σ w0 q Z F listed a w vs) {i : Nat} {o : Oper} (ho : l[i]? = some o) (hi : ¬ Ran listed i) (hd : ∀ j ∈ vm l.toArray i, Ran listed j)
 (hN : ∀ d, o.dst = some d → d < N) (v : Value) (hext : Ext (fun k => Ran (listed.setIfInBounds i true) q ∧ Z k) w0 w')
 (hfacts : ∀ j, Ran listed j → Left (Yet (listed.setIfInBounds i true) q Z) w' (F j) (vs j)) (hfact : Left (Yet (listed.setIfInBounds i true) q Z) w' (F i) v) :
 Mid1 N l σ w0 q Z F (listed.setIfInBounds i true) (a.put o.dst v) w' (fun j => if j = i then v else vs j) := by
 have hil : i < listed.size := by rw [m.size]; exact (List.getElem?_eq_some_iff.1 ho).1
 have hne : ∀ {j}, Ran listed j → j ≠ i := fun h e => hi (e ▸ h);have hput : ∀ t, o.dst ≠ some t → ∀ v', a.tmps[t]? = some v' → (a.put o.dst v).tmps[t]? = some v' := by
  intro t ht v' h;cases hd : o.dst with
  | none => exact h
  | some d =>
   have : d ≠ t := fun e => ht (by rw [hd, e]);simpa [Act.put, Array.getElem?_setIfInBounds_ne this] using h
 refine ⟨by simpa using m.size, ?_, ?_, ?_, ?_, ?_, ?_, hext, ?_⟩
 · cases hd : o.dst <;> exact m.defers
 · cases hd : o.dst
   · exact m.tmps
   · simpa [Act.put] using m.tmps
 · intro t u h;refine hput t (fun e => ?_) u (m.kept t u h);exact (zsz h).2 (mem_dstL (List.mem_of_getElem? ho) e)
 · intro j d hj hjd;rcases (vp hil).1 hj with rfl | hj
   · rw [oz ho] at hjd;have hlt := hN d hjd;rw [if_pos rfl, hjd];have : d < a.tmps.size := by rw [m.tmps]; exact hlt
     simp [Act.put, this]
   · rw [if_neg (hne hj)];refine hput d (fun e => hne hj ?_) _ (m.ran j d hj hjd);exact ztx hrow hjd (by rw [oz ho]; exact e)
 · intro j d u hj hjd hu;have hj' : ¬ Ran listed j := fun h => hj ((vp hil).2 (Or.inr h));have hji : j ≠ i := fun e => hj ((vp hil).2 (Or.inl e));refine hput d (fun e => hji ?_) _ (m.old j d u hj' hjd hu);exact ztx hrow hjd (by rw [oz ho]; exact e)
 · intro j hj k hk;refine (vp hil).2 (Or.inr ?_);rcases (vp hil).1 hj with rfl | hj
   · exact hd k hk
   · exact m.down j hj k hk
 · intro j hj;rcases (vp hil).1 hj with rfl | hj
   · rw [if_pos rfl]; exact hfact
   · rw [if_neg (hne hj)]; exact hfacts j hj
end
theorem zaz {g k : Nat} (h : Mut [some g] k) : k = g := by
 rcases h with h | h
 · exact Option.some.inj h
 · exact h.elim
theorem Ext.noL (a : Nat) {w1 w2 : World} (h : Ext No w1 w2) : Ext (fun q => a ≤ q) w1 w2 := h.mono fun _ h _ => h.elim
section
variable {w w' : World} {X : Nat → Prop} {base base' n n' s s' : Nat} {e e' : TypeId} {v v' : Value} {xs xs' : List Value}
theorem mut_one {a : Option Nat} {k : Nat} (h : Mut [a] k) : a = some k := by
 rcases h with h | h
 · exact h.symm
 · exact h.elim
theorem owns_row {g : Nat} (h : w.ownsRow base e s v n xs) (hg : v.ownBlock = some g) : ∃ cur, Blk w g e cur := by
 rcases h.2 with ⟨rfl, _⟩ | ⟨g', cap, cur, rfl, _, hh, _⟩
 · cases hg
 · obtain rfl : g' = g := by injection hg
   exact ⟨cur, hh⟩
theorem gy (h : w.ownsRow base e s v n xs) (k : Ext X w w') (hn : ∀ g, v.ownBlock = some g → ¬ X g) : w'.ownsRow base e s v n xs := by
 rcases h.2 with h0 | ⟨g, cap, cur, rfl, hb, hh, r⟩
 · exact ⟨h.1, Or.inl h0⟩
 · exact ⟨h.1, Or.inr ⟨g, cap, cur, rfl, hb, Blk.ext (show Blk w g e cur from hh) k (hn g rfl), r⟩⟩
theorem blk_type {g : Nat} {t t' : TypeId} {cs cs' : Array Value} (h : Blk w g t cs) (h' : Blk w g t' cs') : t = t' := by
 unfold Blk at h h';rw [h] at h';injection h' with h'
 injection h' with h1 h2 h3
theorem blk_other {g : Nat} {t : TypeId} {cs : Array Value} (h : Blk w g t cs) (h' : w.ownsRow base' e' s' v' n' xs') (hne : t ≠ e') (k : Ext (Mut [v'.ownBlock]) w w') : Blk w' g t cs :=
 h.ext k fun hx => by
  obtain ⟨c2, h2⟩ := owns_row h' (mut_one hx);exact hne (blk_type h h2)
theorem kg {g : Nat} {t : TypeId} {cs : Array Value} (h : w.ownsRow base e s v n xs) (h' : Blk w g t cs) (hne : e ≠ t) (k : Ext (Mut [some g]) w w') : w'.ownsRow base e s v n xs :=
 gy h k fun g' hg hx => by
  obtain ⟨c1, h1⟩ := owns_row h hg;obtain rfl : g' = g := zaz hx;exact hne (blk_type h1 h')
end
section
variable {P : Program} {N : Nat} {ops : Array Oper} {Q : Exit → Act → World → Prop} {σ : Env} {w : World} {ty : TypeId} {pos : String} {af : Array Edge} {dst : Option Nat} {Post : Value → World → Prop}
theorem ow_appendS {T e : TypeId} {x y : Operand} {z : Value} {size bytes base n n' B m c : Nat} {v : Value} {xs news xs' : List Value} {A : Option Addr} (hd : P.underlying T = some (.slice e)) (hi : InfoIs P e z size bytes) (hzs : z.cells.size = size) (hsz : 0 < size)
 (hx : ev σ x = some v) (hown : w.ownsRow base e size v n xs) (hy : ev σ y = some (.slice A m c)) (hr : Reads w B size A m news) (h1 : ∀ u ∈ news, u.oneCell' = true) (hn : n + m = n') (hxs : xs ++ news = xs') (h63 : n' ≤ maxLen) (hbytes : n' * bytes ≤ 140737488355328) (hbase : base ≤ w.heap.size)
 (k : ∀ A' c' w', w'.ownsRow base e size (.slice A' n' c') n' xs' → Ext (Mut [v.ownBlock]) w w' → (∀ k, (Value.slice A' n' c').ownBlock = some k → v.ownBlock = some k ∨ w.heap.size ≤ k) → Post (.slice A' n' c') w') : OW P N ops Q ⟨dst, .call ⟨.builtin .append, #[x, y], #[T, T]⟩, ty, pos, af, none⟩ σ w Post := by
 subst hn hxs;refine ow_append hd hi hzs hsz hx hown hy hr h1 h63 hbytes hbase fun v' w' g1 g2 g3 => ?_;obtain ⟨A', c', rfl⟩ := owns_shape g1;exact k A' c' w' g1 g2 g3
end
section
variable {P : Program} {N : Nat} {ops : Array Oper} {Q : Exit → Act → World → Prop} {σ : Env} {w : World} {ty : TypeId} {pos : String} {af : Array Edge} {dst : Option Nat} {Post : Value → World → Prop}
end
end Go.Proofs.YtaleikoeklemmaaGreatDoor

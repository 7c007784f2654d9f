/- The walks of math/bits: Mul64; LeadingZeros64 and Div64 at the limbs' base. The walks of package real's Hash and the document's. The walks of strconv's fast way from digits to a float: prescale, uscale, pack64, parseFloat64. The walks of the small functions on strconv's fast way: lengths, powers, rounding, packing. The walks of the small functions on strconv's fast way: powers, rounding, packing. What strconv's fast way makes is no NaN and has the sign that was asked for. strconv's tables in memory: slices behind variables, plain cells; they stand while nothing old is written. The walk of strconv's exact way: a whole number times or by a power of ten that is a float. The walks of strconv's reading of a text: special (none of the special words on a text that begins with a digit). What strconv makes of a numeral, plain: the float and the error; it is no NaN and has the sign that was asked for. The walk of strconv's readFloat on a numeral. The walks of strconv's decimal: trim, the beginning beside a text, the shift to the right. -/
import Derived.Test.YtjdcjdohghkcgaaGreatDoorP12
import Derived.WalkKit
import Derived.Lib.Mul64
import Derived.Laws.Bits64b
import Derived.BigQuiet
import Derived.Deep.QuietTactic
import Derived.Lib.Hide
import Derived.Laws.Externs
import Derived.Deep.DeepCutAuto
import Derived.Deep.CutBlock
import Derived.Test.YtjdcjdohghkcgaaGreatDoorRows
namespace Go.Proofs.YtjdcjdohghkcgaaGreatDoor
open Go.RowKit Go.Lib
namespace M64
theorem maskN (a : Nat) (ha : a < 18446744073709551616) : bits .and .u64 (a : Int) 4294967295 = ((a % 4294967296 : Nat) : Int) := by
  have h := bits_and_u64_nat a 4294967295 ha (by omega)
  have e : a &&& 4294967295 = a % 4294967296 := Nat.and_two_pow_sub_one_eq_mod a 32
  rw [e] at h
  exact h
theorem divN (a : Nat) : (a : Int) / 4294967296 = ((a / 4294967296 : Nat) : Int) := by omega
theorem mulN (a b : Nat) : (a : Int) * (b : Int) = ((a * b : Nat) : Int) := (Int.natCast_mul a b).symm
theorem addN (a b : Nat) : (a : Int) + (b : Int) = ((a + b : Nat) : Int) := (Int.natCast_add a b).symm
theorem wrapN (a : Nat) (ha : a < 18446744073709551616) : IntKind.u64.wrap (a : Int) = (a : Int) := by rw [IntKind.wrap_u64]; omega
theorem wrapM (a : Nat) : IntKind.u64.wrap (a : Int) = ((a % 18446744073709551616 : Nat) : Int) := by rw [IntKind.wrap_u64]; omega
end M64
set_option maxHeartbeats 1000000 in
theorem mul64_any (x y : Nat) (hx : x < 18446744073709551616) (hy : y < 18446744073709551616) (w : World) :
    Calls Tryz.prog 70 #[.int .u64 x, .int .u64 y] w fun e w' => e = .returned (.tuple #[.int .u64 ((x * y / 18446744073709551616 : Nat) : Int), .int .u64 ((x * y % 18446744073709551616 : Nat) : Int)]) ∧ w = w' := by
  obtain ⟨bd, bt, bw, hhi⟩ := Lib.mul64_hi x y hx hy
  have ba := Lib.half_mul_le (a := x / 4294967296) (b := y / 4294967296) (by omega) (by omega)
  have bb := Lib.half_mul_le (a := x / 4294967296) (b := y % 4294967296) (by omega) (by omega)
  have bc := Lib.half_mul_le (a := x % 4294967296) (b := y / 4294967296) (by omega) (by omega)
  have ba' : x / 4294967296 * (y / 4294967296) < 18446744073709551616 := by omega
  have bb' : x / 4294967296 * (y % 4294967296) < 18446744073709551616 := by omega
  have bc' : x % 4294967296 * (y / 4294967296) < 18446744073709551616 := by omega
  have bh1 : x / 4294967296 * (y / 4294967296) + (x / 4294967296 * (y % 4294967296) + x % 4294967296 * (y % 4294967296) / 4294967296) / 4294967296 < 18446744073709551616 := by omega
  have bh : x / 4294967296 * (y / 4294967296) + (x / 4294967296 * (y % 4294967296) + x % 4294967296 * (y % 4294967296) / 4294967296) / 4294967296 + ((x / 4294967296 * (y % 4294967296) + x % 4294967296 * (y % 4294967296) / 4294967296) % 4294967296 + x % 4294967296 * (y / 4294967296)) / 4294967296 < 18446744073709551616 := by omega
  go_enter Tryz.func70, Tryz.ntmps70
  go_wp2
  simp only [M64.maskN x hx, M64.maskN y hy, M64.divN, M64.mulN, M64.addN, M64.wrapN _ bd, M64.wrapN _ bb', M64.wrapN _ bt, M64.maskN _ bt, M64.wrapN _ bc', M64.wrapN _ bw, M64.wrapN _ ba', M64.wrapN _ bh1, M64.wrapN _ bh, M64.wrapM (x * y)]
  rw [hhi]
  go_ret2
  exact ⟨rfl, rfl⟩
set_option maxRecDepth 100000
set_option maxRecDepth 100000
end Go.Proofs.YtjdcjdohghkcgaaGreatDoor
namespace Go.Proofs.YtjdcjdohghkcgaaGreatDoor
open Go.RowKit
set_option maxRecDepth 100000
theorem below_same {w w' : World} (h : w = w') : Below w.heap.size w w' := by subst h; exact Below.refl _ _
theorem mul64_b (x y : Nat) (hx : x < 18446744073709551616) (hy : y < 18446744073709551616) (w : World) :
 Calls Tryz.prog 70 #[.int .u64 x, .int .u64 y] w fun e w' => e = .returned (.tuple #[.int .u64 ((x * y / 18446744073709551616 : Nat) : Int), .int .u64 ((x * y % 18446744073709551616 : Nat) : Int)]) ∧ Below w.heap.size w w' :=
 (mul64_any x y hx hy w).mono fun _ _ ⟨h1, h2⟩ => ⟨h1, below_same h2⟩
/-- A float's hash. -/
def hashF (a : Nat) : Int := if isN a then 0 else (if ng a then -1 else 1) * (if rg a = 9218868437227405312 then 314159 else ((hashM (rg a) : Nat) : Int))
section
variable (w : World) (a : Nat) (ha : a < 18446744073709551616)
include ha
section
variable (hf : rg a < 9218868437227405312)
include hf
section
variable (h0 : rg a ≠ 0)
include h0
end
end
end
end Go.Proofs.YtjdcjdohghkcgaaGreatDoor
namespace Go.Proofs.YtjdcjdohghkcgaaGreatDoor
open Go.RowKit
set_option maxRecDepth 100000
/-- The table of powers of ten. -/
def tabHi (j : Nat) : Nat := (Go.Pinned.pow10Rows.getD j (0, 0)).1
def tabLo (j : Nat) : Nat := (Go.Pinned.pow10Rows.getD j (0, 0)).2
theorem tab_all : Go.Pinned.pow10Rows.all (fun x => Nat.blt x.1 18446744073709551616 && Nat.blt x.2 18446744073709551616) = true := by kernel_rfl
theorem tab_length : Go.Pinned.pow10Rows.length = 696 := by kernel_rfl
theorem tab_row {j : Nat} (hj : j < 696) : Go.Pinned.pow10Rows[j]? = some (tabHi j, tabLo j) ∧ tabHi j < 18446744073709551616 ∧ tabLo j < 18446744073709551616 := by
 have hl : j < Go.Pinned.pow10Rows.length := by rw [tab_length]; exact hj
 have h := List.all_eq_true.1 tab_all _ (List.getElem_mem hl)
 rw [Bool.and_eq_true] at h
 have e : Go.Pinned.pow10Rows[j]? = some Go.Pinned.pow10Rows[j] := List.getElem?_eq_getElem hl
 have e1 : Go.Pinned.pow10Rows.getD j (0, 0) = Go.Pinned.pow10Rows[j] := by rw [List.getD_eq_getElem?_getD, e]; rfl
 unfold tabHi tabLo
 rw [e1, e]
 exact ⟨rfl, Nat.le_of_ble_eq_true h.1, Nat.le_of_ble_eq_true h.2⟩
/-- The table stands in memory. -/
def PowT (w : World) : Prop := ∀ j, j < 696 → w.cell? ⟨13, j * 2, none⟩ = some (.int .u64 ((tabHi j : Nat) : Int)) ∧ w.cell? ⟨13, j * 2 + 1, none⟩ = some (.int .u64 ((tabLo j : Nat) : Int))
theorem PowT.lt {w : World} (h : PowT w) : 13 < w.heap.size := World.block_lt_of_cell? w _ (h 0 (by decide)).1
theorem Per.powT {X : Nat → Prop} {w : World} (h : PowT w) (hx : ¬ X 13) : Per X w PowT := fun b hb j hj =>
 ⟨(hb.cell (p := ⟨13, j * 2, none⟩) h.lt hx).trans (h j hj).1, (hb.cell (p := ⟨13, j * 2 + 1, none⟩) h.lt hx).trans (h j hj).2⟩
section
variable (w : World)
theorem prescale_any (gpre : Nat) (c0 c1 c2 : Value) (e lp : Int) (j : Nat) (hj : j < 696) (hB : Blk w gpre 229 #[c0, c1, c2]) (hT : PowT w) (hne : gpre ≠ 13) (he : -10000 ≤ e ∧ e ≤ 10000) (hlp : -10000 ≤ lp ∧ lp ≤ 10000) :
 Calls Tryz.prog 192 #[.pointer (some ⟨gpre, 0, none⟩), .int .i64 e, .int .i64 (((j : Nat) : Int) - 348), .int .i64 lp] w fun en w' => en = .returned (.tuple #[]) ∧ Blk w' gpre 229 #[.int .u64 ((tabHi j : Nat) : Int), .int .u64 ((tabLo j : Nat) : Int), .int .i64 (0 - (e + lp + 3))] ∧ Ext (Mut [some gpre]) w w' := by
 refine calls_cw Tryz.func192 rfl Tryz.ntmps192 rfl ?_
 have Bpre := hB
 have HF : Per (Mut [(some gpre)]) w (fun _ => True) := Per.true_
 have LW := Ext.refl (Mut [(some gpre)]) w
 have XLW : ∀ q9, (Mut [(some gpre)]) q9 → (Mut [(some gpre)]) q9 ∨ w.heap.size ≤ q9 := fun _ h => Or.inl h
 have E := Ext.refl (Mut [(some gpre)]) w
 replace HF := HF.on E
 replace LW := LW.step E XLW
 replace E := Ext.refl (Mut [(some gpre)]) w
 replace HF := HF.and (Per.powT hT (fun h => h.elim (fun e => hne (Option.some.inj e).symm) (fun e => e.elim)))
 refine cw_seq ?_
 refine cw_region ?_
 refine rs_op rfl (ow_move rfl ?_)
 refine rs_op rfl (ow_move rfl ?_)
 refine rs_op rfl (ow_sub rfl rfl (wrap_i64 (by omega)) ?_)
 refine rs_op rfl (ow_indexAddrG (j := j) Tryz.underlying254 sz253 rfl rfl (by omega) hj ?_)
 refine rs_op rfl (ow_fieldAddr Tryz.underlying253 rfl sz32 (by decide) rfl ?_)
 refine rs_op rfl (ow_load1 Tryz.underlying32 rfl rfl (by rw [Nat.zero_add]; exact ((HF.on E).here.2 j hj).1) ?_)
 refine rs_op rfl (ow_nilCheck rfl ?_)
 refine rs_op rfl (ow_fieldAddr Tryz.underlying229 rfl sz32 (by decide) rfl ?_)
 refine rs_op0 (ow_storeM sz32 rfl rfl Bpre rfl rfl (Nat.le_of_ble_eq_true rfl) ?_)
 intro w1 Bx Epre
 replace Bpre := Bx
 clear Bx
 replace E := E.step1 Epre Mut.head
 clear Epre
 refine rs_nil ?_
 refine ew_next ?_
 refine cw_seq ?_
 refine cw_region ?_
 refine rs_op rfl (ow_move rfl ?_)
 refine rs_op rfl (ow_move rfl ?_)
 refine rs_op rfl (ow_sub rfl rfl (wrap_i64 (by omega)) ?_)
 refine rs_op rfl (ow_indexAddrG (j := j) Tryz.underlying254 sz253 rfl rfl (by omega) hj ?_)
 refine rs_op rfl (ow_fieldAddr Tryz.underlying253 rfl sz32 (by decide) rfl ?_)
 refine rs_op rfl (ow_load1 Tryz.underlying32 rfl rfl (by rw [Nat.zero_add]; exact ((HF.on E).here.2 j hj).2) ?_)
 refine rs_op rfl (ow_nilCheck rfl ?_)
 refine rs_op rfl (ow_fieldAddr Tryz.underlying229 rfl sz32 (by decide) rfl ?_)
 refine rs_op0 (ow_storeM sz32 rfl rfl Bpre rfl rfl (Nat.le_of_ble_eq_true rfl) ?_)
 intro w2 Bx Epre
 replace Bpre := Bx
 clear Bx
 replace E := E.step1 Epre Mut.head
 clear Epre
 refine rs_nil ?_
 refine ew_next ?_
 refine cw_region ?_
 refine rs_op rfl (ow_move rfl ?_)
 refine rs_op rfl (ow_move rfl ?_)
 refine rs_op rfl (ow_move rfl ?_)
 refine rs_op rfl (ow_add rfl rfl (wrap_i64 (by omega)) ?_)
 refine rs_op rfl (ow_add rfl rfl (wrap_i64 (by omega)) ?_)
 refine rs_op rfl (ow_neg rfl (wrap_i64 (by omega)) ?_)
 refine rs_op rfl (ow_nilCheck rfl ?_)
 refine rs_op rfl (ow_fieldAddr Tryz.underlying229 rfl sz3 (by decide) rfl ?_)
 refine rs_op0 (ow_storeM sz3 rfl rfl Bpre rfl rfl (Nat.le_of_ble_eq_true rfl) ?_)
 intro w3 Bx Epre
 replace Bpre := Bx
 clear Bx
 replace E := E.step1 Epre Mut.head
 clear Epre
 replace HF := HF.on E
 replace LW := LW.step E XLW
 have SB : ∀ q9, No q9 → Mut [(some gpre)] q9 := (Mut.skip Mut.nil_)
 replace HF := HF.less SB
 replace XLW := fun k h => XLW k (SB k h)
 clear SB
 replace E := Ext.refl (No) w3
 replace HF := HF.and (Per.blkN Bpre NotIn.nil)
 clear Bpre
 refine rs_nil ?_
 refine ew_end rfl ?_
 exact ⟨rfl, by first | exact (HF.on E).here.2 | exact Bpre, (LW.step E XLW)⟩
end
/-! ### uscale -/
theorem sub_modM {M x y : Nat} (hM : 0 < M) (hy : y ≤ M) : ((x : Int) - (y : Int)) % (M : Int) = (((x + M - y) % M : Nat) : Int) := by
 refine sub_mod_gen (Nat.mod_lt _ hM) ?_
 rw [Nat.mod_add_mod, Nat.sub_add_cancel (by omega), Nat.add_mod_right]
theorem sub_wrap {x y : Nat} (hy : y ≤ 18446744073709551616) : IntKind.u64.wrap (((x : Nat) : Int) - ((y : Nat) : Int)) = (((x + 18446744073709551616 - y) % 18446744073709551616 : Nat) : Int) := by
 rw [IntKind.wrap_u64]
 exact sub_modM (by decide) hy
theorem and_63 {s : Nat} (h : s < 64) : IntKind.i64.wrap (BitVec.ofInt IntKind.i64.bits ((s : Nat) : Int) &&& BitVec.ofInt IntKind.i64.bits 63).toNat = ((s : Nat) : Int) := by
 have key : ∀ s : Fin 64, IntKind.i64.wrap (BitVec.ofInt IntKind.i64.bits ((s.val : Nat) : Int) &&& BitVec.ofInt IntKind.i64.bits 63).toNat = ((s.val : Nat) : Int) := by decide +kernel
 exact key ⟨s, h⟩
theorem bne_nat (m n : Nat) : (((m : Nat) : Int) != ((n : Nat) : Int)) = decide (m ≠ n) := by
 by_cases h : m = n
 · subst h; simp
 · rw [decide_eq_true h]; exact bne_iff_ne.2 (by omega)
def b2n (b : Bool) : Nat := if b then 1 else 0
theorem b2n_le (b : Bool) : b2n b ≤ 1 := by cases b <;> decide
section
variable (w : World)
theorem bool2u (b : Bool) : Calls Tryz.prog 181 #[.bool b] w fun e w' => e = .returned (.int .u64 ((b2n b : Nat) : Int)) ∧ Below w.heap.size w w' := by
 refine calls_cw Tryz.func181 rfl Tryz.ntmps181 rfl ?_
 have HF : Per (No) w (fun _ => True) := Per.true_
 have LW := Ext.refl (No) w
 have XLW : ∀ q9, (No) q9 → (No) q9 ∨ w.heap.size ≤ q9 := fun _ h => Or.inl h
 have E := Ext.refl (No) w
 refine cw_seq ?_
 refine cw_region ?_
 refine rs_op rfl (ow_assign rfl ?_)
 refine rs_nil ?_
 refine ew_next ?_
 refine cw_seq ?_
 refine cw_seq ?_
 refine cw_region ?_
 refine rs_op rfl (ow_move rfl ?_)
 refine rs_nil ?_
 refine ew_next ?_
 refine cw_cond rfl (fun h => ?_) (fun h => ?_)
 ·
  refine cw_seq ?_
  refine cw_region ?_
  refine rs_op rfl (ow_assign rfl ?_)
  refine rs_nil ?_
  refine ew_next ?_
  refine cw_ret ?_
  refine ew_then_ret ?_
  refine ew_ret (rs := [.tmp 2]) (vs := [_]) rfl ⟨rfl, trivial⟩ ?_
  exact ⟨by rw [h]; rfl, (LW.step E XLW).toBelow⟩
 ·
  refine cw_skip ?_
  refine ew_next ?_
  refine cw_seq ?_
  refine cw_region ?_
  refine rs_op rfl (ow_assign rfl ?_)
  refine rs_nil ?_
  refine ew_next ?_
  refine cw_ret ?_
  refine ew_ret (rs := [.tmp 2]) (vs := [_]) rfl ⟨rfl, trivial⟩ ?_
  exact ⟨by rw [h]; rfl, (LW.step E XLW).toBelow⟩
theorem bool2i (b : Bool) : Calls Tryz.prog 199 #[.bool b] w fun e w' => e = .returned (.int .i64 ((b2n b : Nat) : Int)) ∧ Below w.heap.size w w' := by
 refine calls_cw Tryz.func199 rfl Tryz.ntmps199 rfl ?_
 have HF : Per (No) w (fun _ => True) := Per.true_
 have LW := Ext.refl (No) w
 have XLW : ∀ q9, (No) q9 → (No) q9 ∨ w.heap.size ≤ q9 := fun _ h => Or.inl h
 have E := Ext.refl (No) w
 refine cw_seq ?_
 refine cw_region ?_
 refine rs_op rfl (ow_assign rfl ?_)
 refine rs_nil ?_
 refine ew_next ?_
 refine cw_seq ?_
 refine cw_seq ?_
 refine cw_region ?_
 refine rs_op rfl (ow_move rfl ?_)
 refine rs_nil ?_
 refine ew_next ?_
 refine cw_cond rfl (fun h => ?_) (fun h => ?_)
 ·
  refine cw_seq ?_
  refine cw_region ?_
  refine rs_op rfl (ow_assign rfl ?_)
  refine rs_nil ?_
  refine ew_next ?_
  refine cw_ret ?_
  refine ew_then_ret ?_
  refine ew_ret (rs := [.tmp 2]) (vs := [_]) rfl ⟨rfl, trivial⟩ ?_
  exact ⟨by rw [h]; rfl, (LW.step E XLW).toBelow⟩
 ·
  refine cw_skip ?_
  refine ew_next ?_
  refine cw_seq ?_
  refine cw_region ?_
  refine rs_op rfl (ow_assign rfl ?_)
  refine rs_nil ?_
  refine ew_next ?_
  refine cw_ret ?_
  refine ew_ret (rs := [.tmp 2]) (vs := [_]) rfl ⟨rfl, trivial⟩ ?_
  exact ⟨by rw [h]; rfl, (LW.step E XLW).toBelow⟩
/-- What uscale makes of a word by the scaler's words. -/
def uHi (x hi : Nat) : Nat := x * hi / 18446744073709551616
def uMid (x hi : Nat) : Nat := x * hi % 18446744073709551616
def uSub (x hi lo : Nat) : Nat := (uHi x hi + 18446744073709551616 - b2n (decide (uMid x hi < uHi x lo))) % 18446744073709551616
def uLow (x hi lo : Nat) : Nat := (uMid x hi + 18446744073709551616 - uHi x lo) % 18446744073709551616
def uscF (x hi lo s : Nat) : Nat :=
 if uHi x hi / 2 ^ s * 2 ^ s % 18446744073709551616 ≠ uHi x hi then uHi x hi / 2 ^ s ||| 1
 else uSub x hi lo / 2 ^ s ||| b2n (decide (1 < uLow x hi lo))
theorem uHi_lt {x hi : Nat} (hx : x < 18446744073709551616) (hh : hi < 18446744073709551616) : uHi x hi < 18446744073709551616 :=
 Nat.div_lt_of_lt_mul (Nat.lt_of_le_of_lt (Nat.mul_le_mul_left x (Nat.le_of_lt hh)) (Nat.mul_lt_mul_of_pos_right hx (by decide)))
theorem uscale_any (gp x hi lo s : Nat) (hx : x < 18446744073709551616) (hh : hi < 18446744073709551616) (hl : lo < 18446744073709551616) (hs : s < 64) (hB : Blk w gp 229 #[.int .u64 ((hi : Nat) : Int), .int .u64 ((lo : Nat) : Int), .int .i64 ((s : Nat) : Int)]) :
 Calls Tryz.prog 194 #[.int .u64 ((x : Nat) : Int), .pointer (some ⟨gp, 0, none⟩)] w fun e w' => e = .returned (.int .u64 ((uscF x hi lo s : Nat) : Int)) ∧ Below w.heap.size w w' := by
 have h1 := uHi_lt hx hh
 have h2 := uHi_lt hx hl
 have h3 : uMid x hi < 18446744073709551616 := Nat.mod_lt _ (by decide)
 have h4 : uSub x hi lo < 18446744073709551616 := Nat.mod_lt _ (by decide)
 have hd : ∀ m, m / 2 ^ s ≤ m := fun m => Nat.div_le_self _ _
 refine calls_cw Tryz.func194 rfl Tryz.ntmps194 rfl ?_
 have HF : Per (No) w (fun _ => True) := Per.true_
 have LW := Ext.refl (No) w
 have XLW : ∀ q9, (No) q9 → (No) q9 ∨ w.heap.size ≤ q9 := fun _ h => Or.inl h
 have E := Ext.refl (No) w
 replace HF := HF.on E
 replace LW := LW.step E XLW
 replace E := Ext.refl (No) w
 replace HF := HF.and (Per.blk hB (fun h => h.elim))
 refine cw_seq ?_
 refine cw_region ?_
 refine rs_op rfl (ow_assign rfl ?_)
 refine rs_nil ?_
 refine ew_next ?_
 refine cw_seq ?_
 refine cw_region ?_
 refine rs_op rfl (ow_move rfl ?_)
 refine rs_op rfl (ow_move rfl ?_)
 refine rs_op rfl (ow_nilCheck rfl ?_)
 refine rs_op rfl (ow_fieldAddr Tryz.underlying229 rfl sz32 (by decide) rfl ?_)
 refine rs_op rfl (ow_loadF Tryz.underlying32 rfl rfl (HF.on E).here.2 rfl ?_)
 refine rs_op rfl (ow_enter en70 rfl ((mul64_b x hi hx hh _).mono ?_))
 rintro e w1 ⟨rfl, hb⟩
 refine ⟨_, rfl, ?_⟩
 have Ec := Ext.of_below hb No
 replace E := E.trans Ec.no
 clear hb Ec
 refine rs_set 16 (.tuple #[.int .u64 ((uHi x hi : Nat) : Int), .int .u64 ((uMid x hi : Nat) : Int)]) rfl ((by rw [uHi, uMid] : (.tuple #[.int .u64 ((x * hi / 18446744073709551616 : Nat) : Int), .int .u64 ((x * hi % 18446744073709551616 : Nat) : Int)] : Value) = _)) ?_
 refine rs_op rfl (ow_move rfl ?_)
 refine rs_op rfl (ow_extract rfl rfl ?_)
 refine rs_op rfl (ow_extract rfl rfl ?_)
 refine rs_op rfl (ow_assign rfl ?_)
 refine rs_op rfl (ow_assign rfl ?_)
 refine rs_nil ?_
 refine ew_next ?_
 refine cw_seq ?_
 refine cw_region ?_
 refine rs_op rfl (ow_move rfl ?_)
 refine rs_op rfl (ow_nilCheck rfl ?_)
 refine rs_op rfl (ow_fieldAddr Tryz.underlying229 rfl sz3 (by decide) rfl ?_)
 refine rs_op rfl (ow_loadF Tryz.underlying3 rfl rfl (HF.on E).here.2 rfl ?_)
 refine rs_op rfl (ow_and rfl rfl (and_63 hs) ?_)
 refine rs_op rfl (ow_assign rfl ?_)
 refine rs_nil ?_
 refine ew_next ?_
 refine cw_seq ?_
 refine cw_seq ?_
 refine cw_region ?_
 refine rs_op rfl (ow_move rfl ?_)
 refine rs_op rfl (ow_move rfl ?_)
 refine rs_op rfl (ow_shr rfl rfl (by omega) (shr_nat _ s hs) ?_)
 refine rs_op rfl (ow_move rfl ?_)
 refine rs_op rfl (ow_shl rfl rfl (by omega) (shl_nat _ s hs) ?_)
 refine rs_op rfl (ow_move rfl ?_)
 refine rs_op rfl (ow_neq rfl rfl ?_)
 refine rs_nil ?_
 refine ew_next ?_
 refine cw_set 30 (.bool (decide (uHi x hi / 2 ^ s * 2 ^ s % 18446744073709551616 ≠ uHi x hi))) rfl ((by rw [bne_nat] : (.bool (((uHi x hi / 2 ^ s * 2 ^ s % 18446744073709551616 : Nat) : Int) != ((uHi x hi : Nat) : Int)) : Value) = _)) ?_
 refine cw_cond rfl (fun hc => ?_) (fun hc => ?_)
 ·
  have hc := of_decide_eq_true hc
  refine cw_seq ?_
  refine cw_region ?_
  refine rs_op rfl (ow_move rfl ?_)
  refine rs_op rfl (ow_move rfl ?_)
  refine rs_op rfl (ow_shr rfl rfl (by omega) (shr_nat _ s hs) ?_)
  refine rs_op rfl (ow_or rfl rfl (or_bits (n := 1) (Nat.lt_of_le_of_lt (hd _) h1) (by decide)) ?_)
  refine rs_op rfl (ow_assign rfl ?_)
  refine rs_nil ?_
  refine ew_next ?_
  refine cw_ret ?_
  refine ew_then_ret ?_
  refine ew_ret (rs := [.tmp 4]) (vs := [_]) rfl ⟨rfl, trivial⟩ ?_
  exact ⟨by rw [uscF, if_pos hc]; rfl, (LW.step E XLW).toBelow⟩
 ·
  have hc := of_decide_eq_false hc
  refine cw_skip ?_
  refine ew_next ?_
  refine cw_seq ?_
  refine cw_region ?_
  refine rs_op rfl (ow_move rfl ?_)
  refine rs_op rfl (ow_move rfl ?_)
  refine rs_op rfl (ow_nilCheck rfl ?_)
  refine rs_op rfl (ow_fieldAddr Tryz.underlying229 rfl sz32 (by decide) rfl ?_)
  refine rs_op rfl (ow_loadF Tryz.underlying32 rfl rfl (HF.on E).here.2 rfl ?_)
  refine rs_op rfl (ow_enter en70 rfl ((mul64_b x lo hx hl _).mono ?_))
  rintro e w2 ⟨rfl, hb⟩
  refine ⟨_, rfl, ?_⟩
  have Ec := Ext.of_below hb No
  replace E := E.trans Ec.no
  clear hb Ec
  refine rs_set 41 (.tuple #[.int .u64 ((uHi x lo : Nat) : Int), .int .u64 ((x * lo % 18446744073709551616 : Nat) : Int)]) rfl ((by rw [uHi] : (.tuple #[.int .u64 ((x * lo / 18446744073709551616 : Nat) : Int), .int .u64 ((x * lo % 18446744073709551616 : Nat) : Int)] : Value) = _)) ?_
  refine rs_op rfl (ow_move rfl ?_)
  refine rs_op rfl (ow_extract rfl rfl ?_)
  refine rs_op rfl (ow_extract rfl rfl ?_)
  refine rs_op rfl (ow_assign rfl ?_)
  refine rs_op rfl (ow_assign rfl ?_)
  refine rs_nil ?_
  refine ew_next ?_
  refine cw_seq ?_
  refine cw_region ?_
  refine rs_op rfl (ow_move rfl ?_)
  refine rs_op rfl (ow_move rfl ?_)
  refine rs_op rfl (ow_move rfl ?_)
  refine rs_op rfl (ow_lss rfl rfl ?_)
  refine rs_set 47 (.bool (decide (uMid x hi < uHi x lo))) rfl (bool_dec (by omega)) ?_
  refine rs_op rfl (ow_enter en181 rfl ((bool2u _ (decide (uMid x hi < uHi x lo))).mono ?_))
  rintro e w3 ⟨rfl, hb⟩
  refine ⟨_, rfl, ?_⟩
  have Ec := Ext.of_below hb No
  replace E := E.trans Ec.no
  clear hb Ec
  refine rs_op rfl (ow_sub rfl rfl (sub_wrap (Nat.le_trans (b2n_le _) (by decide))) ?_)
  refine rs_set 49 (.int .u64 ((uSub x hi lo : Nat) : Int)) rfl ((by rw [uSub] : (.int .u64 ((uSub x hi lo : Nat) : Int) : Value) = _)) ?_
  refine rs_op rfl (ow_assign rfl ?_)
  refine rs_nil ?_
  refine ew_next ?_
  refine cw_seq ?_
  have OY : ∀ q9, (Mut (outM [])) q9 → q9 < (World.drew w3).heap.size → (No) q9 := fun k h _ => (Mut.none_) k h
  refine cw_drawn (No) Mut.none_ [] [] (fxAt [Fx.of (.int .u64 ((uSub x hi lo : Nat) : Int)),
   Fx.of (.int .i64 ((s : Nat) : Int)),
   Fx.of (.int .u64 ((uSub x hi lo / 2 ^ s : Nat) : Int)),
   Fx.of (.int .u64 ((uMid x hi : Nat) : Int)),
   Fx.of (.int .u64 ((uHi x lo : Nat) : Int)),
   Fx.of (.int .u64 ((uLow x hi lo : Nat) : Int)),
   Fx.of (.bool (decide (1 < uLow x hi lo))),
   Fx.of (.int .u64 ((b2n (decide (1 < uLow x hi lo)) : Nat) : Int)),
   Fx.of (.int .u64 ((uSub x hi lo / 2 ^ s ||| b2n (decide (1 < uLow x hi lo)) : Nat) : Int)),
   Fx.of (.int .u64 ((uSub x hi lo / 2 ^ s ||| b2n (decide (1 < uLow x hi lo)) : Nat) : Int))]) mixed rfl trivial (fun _ h => by cases h) ?_ ?_
  · refine ⟨?_, ?_, ?_, ?_, ?_, ?_, ?_, ?_, ?_, ?_, trivial⟩
    · intro vs X wq K
      have LE := K.1
      have XN := K.2.1
      have SQ := Nat.le_trans LW.size (Nat.le_trans E.size LE.size)
      exact ow_move rfl ⟨Below.refl _ _, Left.of rfl⟩
    · intro vs X wq K
      have LE := K.1
      have XN := K.2.1
      have SQ := Nat.le_trans LW.size (Nat.le_trans E.size LE.size)
      exact ow_move rfl ⟨Below.refl _ _, Left.of rfl⟩
    · intro vs X wq K
      have LE := K.1
      have XN := K.2.1
      have SQ := Nat.le_trans LW.size (Nat.le_trans E.size LE.size)
      obtain ⟨_, e0, k0⟩ := K.dep 0 rfl rfl rfl
      refine ow_set 50 (.int .u64 ((uSub x hi lo : Nat) : Int)) rfl e0 ?_
      obtain ⟨_, e1, k1⟩ := K.dep 1 rfl rfl rfl
      refine ow_set 51 (.int .i64 ((s : Nat) : Int)) rfl e1 ?_
      exact ow_shr rfl rfl (by omega) (shr_nat _ s hs) ⟨Below.refl _ _, Left.of rfl⟩
    · intro vs X wq K
      have LE := K.1
      have XN := K.2.1
      have SQ := Nat.le_trans LW.size (Nat.le_trans E.size LE.size)
      exact ow_move rfl ⟨Below.refl _ _, Left.of rfl⟩
    · intro vs X wq K
      have LE := K.1
      have XN := K.2.1
      have SQ := Nat.le_trans LW.size (Nat.le_trans E.size LE.size)
      exact ow_move rfl ⟨Below.refl _ _, Left.of rfl⟩
    · intro vs X wq K
      have LE := K.1
      have XN := K.2.1
      have SQ := Nat.le_trans LW.size (Nat.le_trans E.size LE.size)
      obtain ⟨_, e3, k3⟩ := K.dep 3 rfl rfl rfl
      refine ow_set 53 (.int .u64 ((uMid x hi : Nat) : Int)) rfl e3 ?_
      obtain ⟨_, e4, k4⟩ := K.dep 4 rfl rfl rfl
      refine ow_set 54 (.int .u64 ((uHi x lo : Nat) : Int)) rfl e4 ?_
      exact ow_sub rfl rfl (sub_wrap (Nat.le_of_lt h2)) ⟨Below.refl _ _, Left.of rfl⟩
    · intro vs X wq K
      have LE := K.1
      have XN := K.2.1
      have SQ := Nat.le_trans LW.size (Nat.le_trans E.size LE.size)
      obtain ⟨_, e5, k5⟩ := K.dep 5 rfl rfl rfl
      refine ow_set 55 (.int .u64 ((uLow x hi lo : Nat) : Int)) rfl e5 ?_
      exact ow_gtr rfl rfl ⟨Below.refl _ _, Left.of (bool_dec (by omega))⟩
    · intro vs X wq K
      have LE := K.1
      have XN := K.2.1
      have SQ := Nat.le_trans LW.size (Nat.le_trans E.size LE.size)
      obtain ⟨_, e6, k6⟩ := K.dep 6 rfl rfl rfl
      refine ow_set 56 (.bool (decide (1 < uLow x hi lo))) rfl e6 ?_
      refine ow_enter en181 rfl ((bool2u _ (decide (1 < uLow x hi lo))).mono ?_)
      rintro e w2 ⟨rfl, hb⟩
      exact ⟨_, rfl, hb, Left.of rfl⟩
    · intro vs X wq K
      have LE := K.1
      have XN := K.2.1
      have SQ := Nat.le_trans LW.size (Nat.le_trans E.size LE.size)
      obtain ⟨_, e2, k2⟩ := K.dep 2 rfl rfl rfl
      refine ow_set 52 (.int .u64 ((uSub x hi lo / 2 ^ s : Nat) : Int)) rfl e2 ?_
      obtain ⟨_, e7, k7⟩ := K.dep 7 rfl rfl rfl
      refine ow_set 57 (.int .u64 ((b2n (decide (1 < uLow x hi lo)) : Nat) : Int)) rfl e7 ?_
      exact ow_or rfl rfl (or_bits (Nat.lt_of_le_of_lt (hd _) h4) (Nat.lt_of_le_of_lt (b2n_le _) (by decide))) ⟨Below.refl _ _, Left.of rfl⟩
    · intro vs X wq K
      have LE := K.1
      have XN := K.2.1
      have SQ := Nat.le_trans LW.size (Nat.le_trans E.size LE.size)
      obtain ⟨_, e8, k8⟩ := K.dep 8 rfl rfl rfl
      refine ow_set 58 (.int .u64 ((uSub x hi lo / 2 ^ s ||| b2n (decide (1 < uLow x hi lo)) : Nat) : Int)) rfl e8 ?_
      exact ow_assign rfl ⟨Below.refl _ _, Left.of rfl⟩
  intro vs w4 LE AO AL AF AA
  replace E := E.drew.trans (LE.mono OY)
  obtain ⟨_, e9, k9⟩ := AL.2.2.2.2.2.2.2.2.2.1
  refine ew_sub (τ := [(4, .int .u64 ((uSub x hi lo / 2 ^ s ||| b2n (decide (1 < uLow x hi lo)) : Nat) : Int))]) ⟨congrArg some e9, trivial⟩ ?_
  clear AL AF AA LE AO OY e9 k9
  refine ew_next ?_
  refine cw_ret ?_
  refine ew_ret (rs := [.tmp 4]) (vs := [_]) rfl ⟨rfl, trivial⟩ ?_
  exact ⟨by rw [uscF, if_neg hc]; rfl, (LW.step E XLW).toBelow⟩
end
end Go.Proofs.YtjdcjdohghkcgaaGreatDoor
namespace Go.Proofs.YtjdcjdohghkcgaaGreatDoor
open Go.RowKit
set_option maxRecDepth 100000
def lenB (x : Nat) : Nat := if x = 0 then 0 else x.log2 + 1
theorem lenB_le {x k : Nat} (h : x < 2 ^ k) : lenB x ≤ k := by
 unfold lenB
 split
 · omega
 · rename_i h0
   have := (Nat.log2_lt h0).2 h
   omega
theorem lenB_shr {x k : Nat} (h : 2 ^ k ≤ x) : lenB x = lenB (x / 2 ^ k) + k := by
 have hp := two_pos k
 have h1 : x ≠ 0 := by omega
 have h2 : x / 2 ^ k ≠ 0 := by have := Nat.div_pos h hp; omega
 unfold lenB
 rw [if_neg h1, if_neg h2]
 have e : x.log2 = (x / 2 ^ k).log2 + k := by
  refine (Nat.log2_eq_iff h1).2 ⟨?_, ?_⟩
  · have := Nat.log2_self_le h2
    rw [Nat.pow_add]
    exact Nat.le_trans (Nat.mul_le_mul_right _ this) (Nat.div_mul_le_self _ _)
  · have := @Nat.lt_log2_self (x / 2 ^ k)
    have h3 : x < (x / 2 ^ k + 1) * 2 ^ k := by
     have := Nat.div_add_mod x (2 ^ k)
     have h4 := Nat.mod_lt x hp
     rw [Nat.add_mul, Nat.one_mul, Nat.mul_comm]
     omega
    rw [show (x / 2 ^ k).log2 + k + 1 = (x / 2 ^ k).log2 + 1 + k by omega, Nat.pow_add]
    exact Nat.lt_of_lt_of_le h3 (Nat.mul_le_mul_right _ this)
 omega
def lenTab : ByteArray := ⟨#[0, 1, 2, 2, 3, 3, 3, 3, 4, 4, 4, 4, 4, 4, 4, 4, 5, 5, 5, 5, 5, 5, 5, 5, 5, 5, 5, 5, 5, 5, 5, 5, 6, 6, 6, 6, 6, 6, 6, 6, 6, 6, 6, 6, 6, 6, 6, 6, 6, 6, 6, 6, 6, 6, 6, 6, 6, 6, 6, 6, 6, 6, 6, 6, 7, 7, 7, 7, 7, 7, 7, 7, 7, 7, 7, 7, 7, 7, 7, 7, 7, 7, 7, 7, 7, 7, 7, 7, 7, 7, 7, 7, 7, 7, 7, 7, 7, 7, 7, 7, 7, 7, 7, 7, 7, 7, 7, 7, 7, 7, 7, 7, 7, 7, 7, 7, 7, 7, 7, 7, 7, 7, 7, 7, 7, 7, 7, 7, 8, 8, 8, 8, 8, 8, 8, 8, 8, 8, 8, 8, 8, 8, 8, 8, 8, 8, 8, 8, 8, 8, 8, 8, 8, 8, 8, 8, 8, 8, 8, 8, 8, 8, 8, 8, 8, 8, 8, 8, 8, 8, 8, 8, 8, 8, 8, 8, 8, 8, 8, 8, 8, 8, 8, 8, 8, 8, 8, 8, 8, 8, 8, 8, 8, 8, 8, 8, 8, 8, 8, 8, 8, 8, 8, 8, 8, 8, 8, 8, 8, 8, 8, 8, 8, 8, 8, 8, 8, 8, 8, 8, 8, 8, 8, 8, 8, 8, 8, 8, 8, 8, 8, 8, 8, 8, 8, 8, 8, 8, 8, 8, 8, 8, 8, 8, 8, 8, 8, 8, 8, 8, 8, 8, 8, 8, 8, 8]⟩
theorem lenTab_at {u : Nat} (h : u < 256) : (lenTab.data[u]?).map (·.toNat) = some (lenB u) := by
 have key : ∀ v : Fin 256, (lenTab.data[v.val]?).map (·.toNat) = some (lenB v.val) := by decide +kernel
 exact key ⟨u, h⟩
section
variable (w : World)
theorem len64_any (x : Nat) (hx : x < 18446744073709551616) : Calls Tryz.prog 155 #[.int .u64 ((x : Nat) : Int)] w fun e w' => e = .returned (.int .i64 ((lenB x : Nat) : Int)) ∧ Below w.heap.size w w' := by
 refine calls_cw Tryz.func155 rfl Tryz.ntmps155 rfl ?_
 have HF : Per (No) w (fun _ => True) := Per.true_
 have LW := Ext.refl (No) w
 have XLW : ∀ q9, (No) q9 → (No) q9 ∨ w.heap.size ≤ q9 := fun _ h => Or.inl h
 have E := Ext.refl (No) w
 refine cw_seq ?_
 refine cw_region ?_
 refine rs_op rfl (ow_assign rfl ?_)
 refine rs_nil ?_
 refine ew_next ?_
 refine cw_seq ?_
 refine cw_seq ?_
 refine cw_region ?_
 refine rs_op rfl (ow_move rfl ?_)
 refine rs_op rfl (ow_geq rfl rfl ?_)
 refine rs_nil ?_
 refine ew_next ?_
 replace HF := HF.on E
 replace LW := LW.step E XLW
 replace E := Ext.refl (No) w
 refine cw_join (ι := Nat × Nat) (fun (y, n) => [(0, .int .u64 ((y : Nat) : Int)), (2, .int .i64 ((n : Nat) : Int))]) (fun (y, n) w' => Ext (No) w w' ∧ (lenB x = lenB y + n ∧ y < 4294967296 ∧ n ≤ 32)) ?_ ?_
 ·
  have M1 := Ext.refl (No) w
  have XM1 : ∀ q9, (No) q9 → (No) q9 ∨ w.heap.size ≤ q9 := fun _ h => Or.inl h
  refine cw_cond rfl (fun h => ?_) (fun h => ?_)
  ·
   have h := of_decide_eq_true h
   refine cw_seq ?_
   refine cw_region ?_
   refine rs_op rfl (ow_move rfl ?_)
   refine rs_op rfl (ow_shr rfl rfl (by decide) (shr_nat x 32 (by decide)) ?_)
   refine rs_op rfl (ow_assign rfl ?_)
   refine rs_nil ?_
   refine ew_next ?_
   refine cw_region ?_
   refine rs_op rfl (ow_assign rfl ?_)
   refine rs_nil ?_
   exact ew_mid (x / 2 ^ 32, 32) ⟨rfl, rfl, trivial⟩ ⟨M1.step E XM1, lenB_shr (by show 4294967296 ≤ x; omega), (Nat.div_lt_iff_lt_mul (two_pos 32)).2 (by show x < 18446744073709551616; omega), Nat.le_refl _⟩
  ·
   have h := of_decide_eq_false h
   refine cw_skip ?_
   exact ew_mid (x, 0) ⟨rfl, rfl, trivial⟩ ⟨M1.step E XM1, rfl, by show x < 4294967296; omega, by decide⟩
 ·
  rintro ⟨y, n⟩ w2 ⟨M1, ⟨hy1, hy2, hy3⟩⟩
  have XM1 : ∀ q9, (No) q9 → (No) q9 ∨ w.heap.size ≤ q9 := fun _ h => Or.inl h
  replace E := E.trans M1
  replace HF := HF.on E
  replace LW := LW.step E XLW
  replace E := Ext.refl (No) w2
  refine cw_seq ?_
  refine cw_seq ?_
  refine cw_region ?_
  refine rs_op rfl (ow_move rfl ?_)
  refine rs_op rfl (ow_geq rfl rfl ?_)
  refine rs_nil ?_
  refine ew_next ?_
  replace HF := HF.on E
  replace LW := LW.step E XLW
  replace E := Ext.refl (No) w2
  refine cw_join (ι := Nat × Nat) (fun (z, m) => [(0, .int .u64 ((z : Nat) : Int)), (2, .int .i64 ((m : Nat) : Int))]) (fun (z, m) w' => Ext (No) w2 w' ∧ (lenB x = lenB z + m ∧ z < 65536 ∧ m ≤ 48)) ?_ ?_
  ·
   have M3 := Ext.refl (No) w2
   have XM3 : ∀ q9, (No) q9 → (No) q9 ∨ w2.heap.size ≤ q9 := fun _ h => Or.inl h
   refine cw_cond rfl (fun h => ?_) (fun h => ?_)
   ·
    have h := of_decide_eq_true h
    have hs := lenB_shr (x := y) (k := 16) (by show 65536 ≤ y; omega)
    refine cw_seq ?_
    refine cw_region ?_
    refine rs_op rfl (ow_move rfl ?_)
    refine rs_op rfl (ow_shr rfl rfl (by decide) (shr_nat y 16 (by decide)) ?_)
    refine rs_op rfl (ow_assign rfl ?_)
    refine rs_nil ?_
    refine ew_next ?_
    refine cw_region ?_
    refine rs_op rfl (ow_move rfl ?_)
    refine rs_op rfl (ow_add rfl rfl (wrap_i64 (by omega)) ?_)
    refine rs_op rfl (ow_assign rfl ?_)
    refine rs_nil ?_
    exact ew_mid (y / 2 ^ 16, n + 16) ⟨rfl, congrArg (fun z : Int => some (Value.int .i64 z)) (by omega), trivial⟩ ⟨M3.step E XM3, by show lenB x = lenB (y / 2 ^ 16) + (n + 16); omega, (Nat.div_lt_iff_lt_mul (two_pos 16)).2 hy2, by show n + 16 ≤ 48; omega⟩
   ·
    have h := of_decide_eq_false h
    refine cw_skip ?_
    exact ew_mid (y, n) ⟨rfl, rfl, trivial⟩ ⟨M3.step E XM3, hy1, by show y < 65536; omega, by show n ≤ 48; omega⟩
  ·
   rintro ⟨z, m⟩ w4 ⟨M3, ⟨hz1, hz2, hz3⟩⟩
   have XM3 : ∀ q9, (No) q9 → (No) q9 ∨ w2.heap.size ≤ q9 := fun _ h => Or.inl h
   replace E := E.trans M3
   replace HF := HF.on E
   replace LW := LW.step E XLW
   replace E := Ext.refl (No) w4
   refine cw_seq ?_
   refine cw_seq ?_
   refine cw_region ?_
   refine rs_op rfl (ow_move rfl ?_)
   refine rs_op rfl (ow_geq rfl rfl ?_)
   refine rs_nil ?_
   refine ew_next ?_
   replace HF := HF.on E
   replace LW := LW.step E XLW
   replace E := Ext.refl (No) w4
   refine cw_join (ι := Nat × Nat) (fun (u, k) => [(0, .int .u64 ((u : Nat) : Int)), (2, .int .i64 ((k : Nat) : Int))]) (fun (u, k) w' => Ext (No) w4 w' ∧ (lenB x = lenB u + k ∧ u < 256 ∧ k ≤ 56)) ?_ ?_
   ·
    have M5 := Ext.refl (No) w4
    have XM5 : ∀ q9, (No) q9 → (No) q9 ∨ w4.heap.size ≤ q9 := fun _ h => Or.inl h
    refine cw_cond rfl (fun h => ?_) (fun h => ?_)
    ·
     have h := of_decide_eq_true h
     have hs := lenB_shr (x := z) (k := 8) (by show 256 ≤ z; omega)
     refine cw_seq ?_
     refine cw_region ?_
     refine rs_op rfl (ow_move rfl ?_)
     refine rs_op rfl (ow_shr rfl rfl (by decide) (shr_nat z 8 (by decide)) ?_)
     refine rs_op rfl (ow_assign rfl ?_)
     refine rs_nil ?_
     refine ew_next ?_
     refine cw_region ?_
     refine rs_op rfl (ow_move rfl ?_)
     refine rs_op rfl (ow_add rfl rfl (wrap_i64 (by omega)) ?_)
     refine rs_op rfl (ow_assign rfl ?_)
     refine rs_nil ?_
     exact ew_mid (z / 2 ^ 8, m + 8) ⟨rfl, congrArg (fun z : Int => some (Value.int .i64 z)) (by omega), trivial⟩ ⟨M5.step E XM5, by show lenB x = lenB (z / 2 ^ 8) + (m + 8); omega, (Nat.div_lt_iff_lt_mul (two_pos 8)).2 hz2, by show m + 8 ≤ 56; omega⟩
    ·
     have h := of_decide_eq_false h
     refine cw_skip ?_
     exact ew_mid (z, m) ⟨rfl, rfl, trivial⟩ ⟨M5.step E XM5, hz1, by show z < 256; omega, by show m ≤ 56; omega⟩
   ·
    rintro ⟨u, k⟩ w6 ⟨M5, ⟨hu1, hu2, hu3⟩⟩
    have XM5 : ∀ q9, (No) q9 → (No) q9 ∨ w4.heap.size ≤ q9 := fun _ h => Or.inl h
    replace E := E.trans M5
    replace HF := HF.on E
    replace LW := LW.step E XLW
    replace E := Ext.refl (No) w6
    have hul := lenB_le (x := u) (k := 8) hu2
    refine cw_seq ?_
    refine cw_region ?_
    refine rs_op rfl (ow_move rfl ?_)
    refine rs_op rfl (ow_move rfl ?_)
    refine rs_op rfl (ow_conv Tryz.underlying5 Tryz.underlying32 rfl (wrap_u8 (by omega)) ?_)
    refine rs_op rfl (ow_indexSL (j := u) (b := lenB u) Tryz.underlying9 rfl rfl rfl (lenTab_at hu2) ?_)
    refine rs_op rfl (ow_conv Tryz.underlying3 Tryz.underlying5 rfl (wrap_i64 (by omega)) ?_)
    refine rs_op rfl (ow_add rfl rfl (wrap_i64 (by omega)) ?_)
    refine rs_op rfl (ow_assign rfl ?_)
    refine rs_nil ?_
    refine ew_next ?_
    refine cw_ret ?_
    refine ew_ret (rs := [.tmp 2]) (vs := [_]) rfl ⟨rfl, trivial⟩ ?_
    exact ⟨by rw [hu1, Int.natCast_add, Int.add_comm]; rfl, (LW.step E XLW).toBelow⟩
end
end Go.Proofs.YtjdcjdohghkcgaaGreatDoor
namespace Go.Proofs.YtjdcjdohghkcgaaGreatDoor
open Go.RowKit
set_option maxRecDepth 100000
theorem shr_int (m : Int) (k : Nat) (hk : k < 64) : m.fdiv (2 ^ (min ((k : Nat) : Int).toNat IntKind.i64.bits)) = m / ((2 ^ k : Nat) : Int) := by
 rw [Int.toNat_natCast, show min k IntKind.i64.bits = k from Nat.min_eq_left (by show k ≤ 64; omega), Int.fdiv_eq_ediv_of_nonneg _ (Int.le_of_lt (Int.pow_pos (by decide)))]
 rw [show (2 : Int) ^ k = ((2 ^ k : Nat) : Int) by simp]
/-- The whole part of a power of ten's logarithm. -/
def l2p (p : Int) : Int := p * 108853 / 32768
def roundU (u : Nat) : Nat := (u + 1 + (u / 2 ^ 2 &&& 1)) / 2 ^ 2
theorem and_one_le (u : Nat) : u &&& 1 ≤ 1 := Nat.and_le_right
def packA (m : Nat) : Nat := m &&& 9223372036854775808
def packC (m : Nat) : Nat := m &&& 18442240474082181119
def packI (m : Nat) : Nat := packA m ||| 9218868437227405312
def packN (m k : Nat) : Nat := packC m ||| (k * 2 ^ 52 % 18446744073709551616)
/-- The float that a mantissa and an exponent (less 1075) make, and the error beside it. -/
def packF (m k : Nat) : Nat :=
 if m &&& 4503599627370496 = 0 then m
 else if 2047 ≤ k then packI m
 else packN m k
def packE (m k : Nat) : Value :=
 if m &&& 4503599627370496 = 0 then .nilIface
 else if 2047 ≤ k then .iface 153 (.int .i64 1)
 else .nilIface
theorem clear_bit {m : Nat} (hm : m < 18446744073709551616) : IntKind.u64.wrap (BitVec.ofInt IntKind.u64.bits (m : Int) &&& ~~~BitVec.ofInt IntKind.u64.bits 4503599627370496).toNat = ((m &&& 18442240474082181119 : Nat) : Int) := by
 have e : ~~~BitVec.ofInt IntKind.u64.bits 4503599627370496 = BitVec.ofInt IntKind.u64.bits ((18442240474082181119 : Nat) : Int) := by decide +kernel
 rw [e]
 exact and_bits hm (by decide)
theorem inf_or {m : Nat} (hm : m < 18446744073709551616) : IntKind.u64.wrap (BitVec.ofInt IntKind.u64.bits ((packA m : Nat) : Int) ||| BitVec.ofInt IntKind.u64.bits 9218868437227405312).toNat = ((packI m : Nat) : Int) :=
 or_bits (m := packA m) (n := 9218868437227405312) (Nat.lt_of_le_of_lt Nat.and_le_left hm) (by decide)
theorem exp_or {m k : Nat} (hm : m < 18446744073709551616) : IntKind.u64.wrap (BitVec.ofInt IntKind.u64.bits ((packC m : Nat) : Int) ||| BitVec.ofInt IntKind.u64.bits ((k * 2 ^ 52 % 18446744073709551616 : Nat) : Int)).toNat = ((packN m k : Nat) : Int) :=
 or_bits (m := packC m) (n := k * 2 ^ 52 % 18446744073709551616) (Nat.lt_of_le_of_lt Nat.and_le_left hm) (Nat.mod_lt _ (by decide))
theorem eq_zero (m : Nat) : (((m : Nat) : Int) == 0) = decide (m = 0) := by
 by_cases h : m = 0
 · subst h; rfl
 · rw [decide_eq_false h]; exact beq_eq_false_iff_ne.2 (by omega)
attribute [local irreducible] OW RS
section
variable (w : World)
theorem l2p_any (p : Int) (hp : -10000 ≤ p ∧ p ≤ 10000) : Calls Tryz.prog 193 #[.int .i64 p] w fun e w' => e = .returned (.int .i64 (l2p p)) ∧ Below w.heap.size w w' := by
 refine calls_cw Tryz.func193 rfl Tryz.ntmps193 rfl ?_
 have HF : Per (No) w (fun _ => True) := Per.true_
 have LW := Ext.refl (No) w
 have XLW : ∀ q9, (No) q9 → (No) q9 ∨ w.heap.size ≤ q9 := fun _ h => Or.inl h
 have E := Ext.refl (No) w
 refine cw_seq ?_
 refine cw_region ?_
 refine rs_op rfl (ow_assign rfl ?_)
 refine rs_nil ?_
 refine ew_next ?_
 refine cw_seq ?_
 refine cw_region ?_
 refine rs_op rfl (ow_move rfl ?_)
 refine rs_op rfl (ow_mul rfl rfl (wrap_i64 (by omega)) ?_)
 refine rs_op rfl (ow_shr rfl rfl (by decide) (shr_int _ 15 (by decide)) ?_)
 refine rs_op rfl (ow_assign rfl ?_)
 refine rs_nil ?_
 refine ew_next ?_
 refine cw_ret ?_
 refine ew_ret (rs := [.tmp 2]) (vs := [_]) rfl ⟨rfl, trivial⟩ ?_
 exact ⟨rfl, (LW.step E XLW).toBelow⟩
theorem round_any (u : Nat) (hu : u < 144115188075855872) : Calls Tryz.prog 198 #[.int .u64 ((u : Nat) : Int)] w fun e w' => e = .returned (.int .u64 ((roundU u : Nat) : Int)) ∧ Below w.heap.size w w' := by
 have h1 := and_one_le (u / 2 ^ 2)
 have h2 : u / 2 ^ 2 ≤ u := Nat.div_le_self _ _
 refine calls_cw Tryz.func198 rfl Tryz.ntmps198 rfl ?_
 have HF : Per (No) w (fun _ => True) := Per.true_
 have LW := Ext.refl (No) w
 have XLW : ∀ q9, (No) q9 → (No) q9 ∨ w.heap.size ≤ q9 := fun _ h => Or.inl h
 have E := Ext.refl (No) w
 refine cw_seq ?_
 refine cw_region ?_
 refine rs_op rfl (ow_assign rfl ?_)
 refine rs_nil ?_
 refine ew_next ?_
 refine cw_seq ?_
 refine cw_region ?_
 refine rs_op rfl (ow_move rfl ?_)
 refine rs_op rfl (ow_add rfl rfl (wrap_u64 (by omega)) ?_)
 refine rs_op rfl (ow_move rfl ?_)
 refine rs_op rfl (ow_shr rfl rfl (by decide) (shr_nat _ 2 (by decide)) ?_)
 refine rs_op rfl (ow_and rfl rfl (and_bits (n := 1) (by omega) (by decide)) ?_)
 refine rs_op rfl (ow_add rfl rfl (wrap_u64 (by omega)) ?_)
 refine rs_op rfl (ow_shr rfl rfl (by decide) (shr_nat _ 2 (by decide)) ?_)
 refine rs_op rfl (ow_assign rfl ?_)
 refine rs_nil ?_
 refine ew_next ?_
 refine cw_ret ?_
 refine ew_ret (rs := [.tmp 2]) (vs := [_]) rfl ⟨rfl, trivial⟩ ?_
 exact ⟨rfl, (LW.step E XLW).toBelow⟩
theorem pack_any (m k : Nat) (hm : m < 18446744073709551616) (hk : 1 ≤ k ∧ k ≤ 10000) : Calls Tryz.prog 217 #[.int .u64 ((m : Nat) : Int), .int .i64 (((k : Nat) : Int) - 1075)] w fun e w' => e = .returned (.tuple #[.float .f64 (packF m k), packE m k]) ∧ Below w.heap.size w w' := by
 refine calls_cw Tryz.func217 rfl Tryz.ntmps217 rfl ?_
 have HF : Per (No) w (fun _ => True) := Per.true_
 have LW := Ext.refl (No) w
 have XLW : ∀ q9, (No) q9 → (No) q9 ∨ w.heap.size ≤ q9 := fun _ h => Or.inl h
 have E := Ext.refl (No) w
 refine cw_seq ?_
 refine cw_region ?_
 refine rs_op rfl (ow_assign rfl ?_)
 refine rs_op rfl (ow_assign rfl ?_)
 refine rs_nil ?_
 refine ew_next ?_
 refine cw_seq ?_
 refine cw_seq ?_
 refine cw_region ?_
 refine rs_op rfl (ow_move rfl ?_)
 refine rs_op rfl (ow_and rfl rfl (and_bits (n := 4503599627370496) hm (by decide)) ?_)
 refine rs_op rfl (ow_eql rfl rfl ?_)
 refine rs_nil ?_
 refine ew_next ?_
 refine cw_set 8 (.bool (decide (m &&& 4503599627370496 = 0))) rfl ((by rw [eq_zero] : (.bool (((m &&& 4503599627370496 : Nat) : Int) == 0) : Value) = _)) ?_
 refine cw_cond rfl (fun h => ?_) (fun h => ?_)
 ·
  have h := of_decide_eq_true h
  refine cw_seq ?_
  refine cw_region ?_
  refine rs_op rfl (ow_move rfl ?_)
  refine rs_op rfl (ow_frombits (b := m) ex182 rfl ?_)
  refine rs_op rfl (ow_assign rfl ?_)
  refine rs_op rfl (ow_assign rfl ?_)
  refine rs_nil ?_
  refine ew_next ?_
  refine cw_ret ?_
  refine ew_then_ret ?_
  refine ew_ret (rs := [.tmp 4, .tmp 5]) (vs := [_, _]) rfl ⟨rfl, rfl, trivial⟩ ?_
  exact ⟨by rw [packF, packE, if_pos h, if_pos h]; rfl, (LW.step E XLW).toBelow⟩
 ·
  have h := of_decide_eq_false h
  refine cw_skip ?_
  refine ew_next ?_
  refine cw_seq ?_
  refine cw_seq ?_
  refine cw_region ?_
  refine rs_op rfl (ow_move rfl ?_)
  refine rs_op rfl (ow_geq rfl rfl ?_)
  refine rs_nil ?_
  refine ew_next ?_
  refine cw_set 12 (.bool (decide (2047 ≤ k))) rfl (bool_dec (by omega)) ?_
  refine cw_cond rfl (fun h' => ?_) (fun h' => ?_)
  ·
   have h' := of_decide_eq_true h'
   refine cw_seq ?_
   refine cw_region ?_
   refine rs_op rfl (ow_move rfl ?_)
   refine rs_op rfl (ow_and rfl rfl (and_bits (n := 9223372036854775808) hm (by decide)) ?_)
   refine rs_set 14 (.int .u64 ((packA m : Nat) : Int)) rfl ((by rw [packA] : (.int .u64 ((m &&& 9223372036854775808 : Nat) : Int) : Value) = _)) ?_
   refine rs_op rfl (ow_or rfl rfl (inf_or hm) ?_)
   refine rs_op rfl (ow_frombits (b := packI m) ex182 rfl ?_)
   refine rs_op rfl (ow_mkI (by kernel_rfl) rfl ?_)
   refine rs_op rfl (ow_assign rfl ?_)
   refine rs_op rfl (ow_assign rfl ?_)
   refine rs_nil ?_
   refine ew_next ?_
   refine cw_ret ?_
   refine ew_then_ret ?_
   refine ew_ret (rs := [.tmp 4, .tmp 5]) (vs := [_, _]) rfl ⟨rfl, rfl, trivial⟩ ?_
   exact ⟨by rw [packF, packE, if_neg h, if_neg h, if_pos h', if_pos h']; rfl, (LW.step E XLW).toBelow⟩
  ·
   have h' := of_decide_eq_false h'
   refine cw_skip ?_
   refine ew_next ?_
   refine cw_seq ?_
   refine cw_region ?_
   refine rs_op rfl (ow_move rfl ?_)
   refine rs_op rfl (ow_andNot rfl rfl (clear_bit hm) ?_)
   refine rs_op rfl (ow_move rfl ?_)
   refine rs_op rfl (ow_add rfl rfl (wrap_i64 (by omega)) ?_)
   refine rs_op rfl (ow_conv Tryz.underlying32 Tryz.underlying3 rfl (wrap_u64 (by omega)) ?_)
   refine rs_set 22 (.int .u64 ((k : Nat) : Int)) rfl ((by congr 1; omega : (.int .u64 (1075 + (((k : Nat) : Int) - 1075)) : Value) = _)) ?_
   refine rs_set 19 (.int .u64 ((packC m : Nat) : Int)) rfl ((by rw [packC] : (.int .u64 ((m &&& 18442240474082181119 : Nat) : Int) : Value) = _)) ?_
   refine rs_op rfl (ow_shl rfl rfl (by decide) (shl_nat k 52 (by decide)) ?_)
   refine rs_op rfl (ow_or rfl rfl (exp_or hm) ?_)
   refine rs_op rfl (ow_frombits (b := packN m k) ex182 rfl ?_)
   refine rs_op rfl (ow_assign rfl ?_)
   refine rs_op rfl (ow_assign rfl ?_)
   refine rs_nil ?_
   refine ew_next ?_
   refine cw_ret ?_
   refine ew_ret (rs := [.tmp 4, .tmp 5]) (vs := [_, _]) rfl ⟨rfl, rfl, trivial⟩ ?_
   exact ⟨by rw [packF, packE, if_neg h, if_neg h, if_neg h', if_neg h']; rfl, (LW.step E XLW).toBelow⟩
end
/-! ### parseFloat64 -/
def eF (d j : Nat) : Int := min 1074 (53 - ((lenB d : Nat) : Int) - l2p (((j : Nat) : Int) - 348))
def sF (d j : Nat) : Nat := (61 - ((lenB d : Nat) : Int) - l2p (((j : Nat) : Int) - 348) - eF d j).toNat
def xF (d : Nat) : Nat := d * 2 ^ (64 - lenB d) % 18446744073709551616
def uF (d j : Nat) : Nat := uscF (xF d) (tabHi j) (tabLo j) (sF d j)
def kF (d j : Nat) : Nat := b2n (decide (36028797018963966 ≤ uF d j))
def vF (d j : Nat) : Nat := uF d j / 2 ^ kF d j ||| (uF d j &&& 1)
def mF (d j sign : Nat) : Nat := sign ||| roundU (vF d j)
def fastF (d j sign : Nat) : Nat := if 64 ≤ sF d j then sign ||| 0 else packF (mF d j sign) ((1075 - eF d j).toNat + kF d j)
def fastE (d j sign : Nat) : Value := if 64 ≤ sF d j then .nilIface else packE (mF d j sign) ((1075 - eF d j).toNat + kF d j)
theorem lenB_pos {d : Nat} (h : 0 < d) : 1 ≤ lenB d := by unfold lenB; rw [if_neg (by omega)]; omega
theorem or_lt {a b k : Nat} (ha : a < 2 ^ k) (hb : b < 2 ^ k) : a ||| b < 2 ^ k := Nat.or_lt_two_pow ha hb
theorem div_lt_56 {a s : Nat} (h : a < 18446744073709551616) (hs : 8 ≤ s) : a / 2 ^ s < 72057594037927936 := by
 refine Nat.lt_of_le_of_lt (Nat.div_le_div_left (Nat.pow_le_pow_right (by decide) hs) (by decide)) ((Nat.div_lt_iff_lt_mul (two_pos 8)).2 h)
theorem uscF_lt {x hi lo s : Nat} (hx : x < 18446744073709551616) (hh : hi < 18446744073709551616) (hs : 8 ≤ s) : uscF x hi lo s < 72057594037927936 := by
 have h1 := div_lt_56 (uHi_lt hx hh) hs
 have h2 := div_lt_56 (a := uSub x hi lo) (Nat.mod_lt _ (by decide)) hs
 unfold uscF
 split
 · exact or_lt (k := 56) h1 (by decide)
 · exact or_lt (k := 56) h2 (Nat.lt_of_le_of_lt (b2n_le _) (by decide))
theorem vF_lt {d j : Nat} (h : uF d j < 72057594037927936) : vF d j < 72057594037927936 :=
 or_lt (k := 56) (Nat.lt_of_le_of_lt (Nat.div_le_self _ _) h) (Nat.lt_of_le_of_lt (and_one_le _) (by decide))
theorem roundU_lt {u : Nat} (h : u < 72057594037927936) : roundU u < 18446744073709551616 := by
 have h1 := and_one_le (u / 2 ^ 2)
 refine Nat.lt_of_le_of_lt (Nat.div_le_self _ _) (by omega)
theorem pk200_1 : Gives 200 #[.int .u64 9007199254740992] (.int .u64 36028797018963966) := by
 intro w
 refine calls_cw Tryz.func200 rfl Tryz.ntmps200 rfl ?_
 have HF : Per (No) w (fun _ => True) := Per.true_
 have LW := Ext.refl (No) w
 have XLW : ∀ q9, (No) q9 → (No) q9 ∨ w.heap.size ≤ q9 := fun _ h => Or.inl h
 have E := Ext.refl (No) w
 refine cw_seq ?_
 refine cw_region ?_
 refine rs_op rfl (ow_assign rfl ?_)
 refine rs_nil ?_
 refine ew_next ?_
 refine cw_seq ?_
 refine cw_region ?_
 refine rs_op rfl (ow_move rfl ?_)
 refine rs_op rfl (ow_shl (z := 36028797018963968) rfl rfl (by decide) (by kernel_rfl) ?_)
 refine rs_op rfl (ow_sub (z := 36028797018963966) rfl rfl (by kernel_rfl) ?_)
 refine rs_op rfl (ow_assign rfl ?_)
 refine rs_nil ?_
 refine ew_next ?_
 refine cw_ret ?_
 refine ew_ret (rs := [.tmp 2]) (vs := [.int .u64 36028797018963966]) rfl ⟨rfl, trivial⟩ ?_
 exact ⟨rfl, (LW.step E XLW).toBelow⟩
section
variable (w : World)
theorem prescale_nat (gpre : Nat) (c0 c1 c2 : Value) (e lp : Int) (j S : Nat) (hj : j < 696) (hB : Blk w gpre 229 #[c0, c1, c2]) (hT : PowT w) (hne : gpre ≠ 13) (he : -10000 ≤ e ∧ e ≤ 10000) (hlp : -10000 ≤ lp ∧ lp ≤ 10000) (hS : ((S : Nat) : Int) = 0 - (e + lp + 3)) :
 Calls Tryz.prog 192 #[.pointer (some ⟨gpre, 0, none⟩), .int .i64 e, .int .i64 (((j : Nat) : Int) - 348), .int .i64 lp] w fun en w' => en = .returned (.tuple #[]) ∧ Blk w' gpre 229 #[.int .u64 ((tabHi j : Nat) : Int), .int .u64 ((tabLo j : Nat) : Int), .int .i64 ((S : Nat) : Int)] ∧ Ext (Mut [some gpre]) w w' := by
 rw [hS]; exact prescale_any w gpre c0 c1 c2 e lp j hj hB hT hne he hlp
theorem fast_any (d j sign : Nat) (hd : 0 < d ∧ d < 18446744073709551616) (hj : 3 ≤ j ∧ j ≤ 658) (hs : sign < 18446744073709551616) (hT : PowT w) :
 Calls Tryz.prog 184 #[.int .u64 ((d : Nat) : Int), .int .i64 (((j : Nat) : Int) - 348), .int .u64 ((sign : Nat) : Int)] w fun e w' => e = .returned (.tuple #[.float .f64 (fastF d j sign), fastE d j sign]) ∧ Below w.heap.size w w' := by
 have hB1 := lenB_pos hd.1
 have hB2 : lenB d ≤ 64 := lenB_le (k := 64) hd.2
 obtain ⟨B, hB⟩ : ∃ B, B = lenB d := ⟨_, rfl⟩
 obtain ⟨L, hL⟩ : ∃ L, L = l2p (((j : Nat) : Int) - 348) := ⟨_, rfl⟩
 have hL' : -2000 ≤ L ∧ L ≤ 2000 := by rw [hL, l2p]; omega
 obtain ⟨E0, hE0⟩ : ∃ E0, E0 = eF d j := ⟨_, rfl⟩
 have hE1 : E0 = min 1074 (53 - ((B : Nat) : Int) - L) := by rw [hE0, eF, hB, hL]
 obtain ⟨S, hS⟩ : ∃ S, S = sF d j := ⟨_, rfl⟩
 have hS1 : ((S : Nat) : Int) = 61 - ((B : Nat) : Int) - L - E0 := by rw [hS, sF, ← hB, ← hL, ← hE0]; omega
 rw [← hB] at hB1 hB2
 have hx : xF d < 18446744073709551616 := Nat.mod_lt _ (by decide)
 obtain ⟨_, ht1, ht2⟩ := tab_row (j := j) (by omega)
 have hu : uF d j < 72057594037927936 := uscF_lt hx ht1 (by rw [← hS]; omega)
 have hk : kF d j ≤ 1 := b2n_le _
 have hv := vF_lt hu
 have hr := roundU_lt hv
 refine calls_cw Tryz.func184 rfl Tryz.ntmps184 rfl ?_
 have HF : Per (No) w (fun _ => True) := Per.true_
 have LW := Ext.refl (No) w
 have XLW : ∀ q9, (No) q9 → (No) q9 ∨ w.heap.size ≤ q9 := fun _ h => Or.inl h
 have E := Ext.refl (No) w
 replace HF := HF.on E
 replace LW := LW.step E XLW
 replace E := Ext.refl (No) w
 replace HF := HF.and (Per.powT hT (fun h => h.elim))
 refine cw_seq ?_
 refine cw_region ?_
 refine rs_op rfl (ow_assign rfl ?_)
 refine rs_op rfl (ow_assign rfl ?_)
 refine rs_nil ?_
 refine ew_next ?_
 refine cw_seq ?_
 refine cw_region ?_
 refine rs_op rfl (ow_move rfl ?_)
 refine rs_op rfl (ow_enter en155 rfl ((len64_any _ d hd.2).mono ?_))
 rintro e w1 ⟨rfl, hb⟩
 refine ⟨_, rfl, ?_⟩
 have Ec := Ext.of_below hb No
 replace E := E.trans Ec.no
 clear hb Ec
 refine rs_set 15 (.int .i64 ((B : Nat) : Int)) rfl ((by rw [hB] : (.int .i64 ((lenB d : Nat) : Int) : Value) = _)) ?_
 refine rs_op rfl (ow_assign rfl ?_)
 refine rs_nil ?_
 refine ew_next ?_
 refine cw_seq ?_
 refine cw_region ?_
 refine rs_op rfl (ow_move rfl ?_)
 refine rs_op rfl (ow_enter en193 rfl ((l2p_any _ (((j : Nat) : Int) - 348) (by omega)).mono ?_))
 rintro e w2 ⟨rfl, hb⟩
 refine ⟨_, rfl, ?_⟩
 have Ec := Ext.of_below hb No
 replace E := E.trans Ec.no
 clear hb Ec
 refine rs_set 17 (.int .i64 L) rfl ((by rw [hL] : (.int .i64 (l2p (((j : Nat) : Int) - 348)) : Value) = _)) ?_
 refine rs_op rfl (ow_assign rfl ?_)
 refine rs_nil ?_
 refine ew_next ?_
 refine cw_seq ?_
 refine cw_region ?_
 refine rs_op rfl (ow_move rfl ?_)
 refine rs_op rfl (ow_sub rfl rfl (wrap_i64 (by omega)) ?_)
 refine rs_op rfl (ow_move rfl ?_)
 refine rs_op rfl (ow_sub rfl rfl (wrap_i64 (by omega)) ?_)
 refine rs_op rfl (ow_min rfl rfl ?_)
 refine rs_set 22 (.int .i64 E0) rfl ((by congr 1; rw [hE1]; split <;> omega : (.int .i64 (if 53 - ((B : Nat) : Int) - L < 1074 then 53 - ((B : Nat) : Int) - L else 1074) : Value) = _)) ?_
 refine rs_op rfl (ow_assign rfl ?_)
 refine rs_nil ?_
 refine ew_next ?_
 refine cw_seq ?_
 refine cw_region ?_
 refine rs_op rfl (ow_allocB zr229 ?_)
 intro gb3 w4 Bb3 Eb3 Gb3
 have Gb3 : _ ≤ gb3 := Nat.le_trans E.size Gb3
 have GLb3 := Nat.le_trans LW.size Gb3
 replace E := E.trans Eb3.no
 clear Eb3
 replace HF := HF.cons (some_ge Gb3)
 replace E := E.cons (some gb3)
 replace XLW := Mut.grow XLW (fun k e => Or.inr (Nat.le_trans LW.size ((some_ge Gb3) k e)))
 refine rs_nil ?_
 refine ew_next ?_
 refine cw_seq ?_
 refine cw_region ?_
 refine rs_op rfl (ow_move rfl ?_)
 refine rs_op rfl (ow_move rfl ?_)
 refine rs_op rfl (ow_sub rfl rfl (wrap_i64 (by omega)) ?_)
 refine rs_op rfl (ow_sub rfl rfl (wrap_i64 (by omega)) ?_)
 refine rs_op rfl (ow_move rfl ?_)
 refine rs_op rfl (ow_move rfl ?_)
 refine rs_op rfl (ow_enter en192 rfl ((prescale_nat _ gb3 _ _ _ _ _ j S (by omega) Bb3 (HF.on E).here.2 (by have := hT.lt; omega) (by omega) (by omega) (by omega)).mono ?_))
 rintro e w5 ⟨rfl, hB, hE⟩
 refine ⟨_, rfl, ?_⟩
 replace Bb3 := hB
 clear hB
 replace E := E.step1 hE Mut.head
 clear hE
 refine rs_nil ?_
 refine ew_next ?_
 refine cw_seq ?_
 refine cw_seq ?_
 refine cw_region ?_
 refine rs_op rfl (ow_fieldAddr Tryz.underlying229 rfl sz3 (by decide) rfl ?_)
 refine rs_op rfl (ow_loadF Tryz.underlying3 rfl rfl Bb3 rfl ?_)
 refine rs_op rfl (ow_geq rfl rfl ?_)
 refine rs_nil ?_
 refine ew_next ?_
 refine cw_set 32 (.bool (decide (64 ≤ S))) rfl (bool_dec (by omega)) ?_
 refine cw_cond rfl (fun h => ?_) (fun h => ?_)
 ·
  have h := of_decide_eq_true h
  have h' : 64 ≤ sF d j := hS ▸ h
  refine cw_seq ?_
  refine cw_region ?_
  refine rs_op rfl (ow_move rfl ?_)
  refine rs_op rfl (ow_or rfl rfl (or_bits (n := 0) hs (by decide)) ?_)
  refine rs_op rfl (ow_frombits (b := sign ||| 0) ex182 rfl ?_)
  refine rs_op rfl (ow_assign rfl ?_)
  refine rs_op rfl (ow_assign rfl ?_)
  refine rs_nil ?_
  refine ew_next ?_
  refine cw_ret ?_
  refine ew_then_ret ?_
  refine ew_ret (rs := [.tmp 6, .tmp 7]) (vs := [_, _]) rfl ⟨rfl, rfl, trivial⟩ ?_
  exact ⟨by rw [fastF, fastE, if_pos h', if_pos h']; rfl, (LW.step E XLW).toBelow⟩
 ·
  have h := of_decide_eq_false h
  have h' : ¬ 64 ≤ sF d j := hS ▸ h
  replace HF := HF.on E
  replace LW := LW.step E XLW
  have SB : ∀ q9, No q9 → Mut [(some gb3)] q9 := (Mut.skip Mut.nil_)
  replace HF := HF.less SB
  replace XLW := fun k h => XLW k (SB k h)
  clear SB
  replace E := Ext.refl (No) w5
  replace HF := HF.and (Per.blkN Bb3 NotIn.nil)
  clear Bb3
  refine cw_skip ?_
  refine ew_next ?_
  refine cw_seq ?_
  refine cw_region ?_
  refine rs_op rfl (ow_move rfl ?_)
  refine rs_op rfl (ow_move rfl ?_)
  refine rs_op rfl (ow_sub rfl rfl (wrap_i64 (by omega)) ?_)
  refine rs_set 38 (.int .i64 ((64 - B : Nat) : Int)) rfl ((by congr 1; omega : (.int .i64 (64 - ((B : Nat) : Int)) : Value) = _)) ?_
  refine rs_op rfl (ow_shl rfl rfl (by omega) (shl_nat d (64 - B) (by omega)) ?_)
  refine rs_set 39 (.int .u64 ((xF d : Nat) : Int)) rfl ((by rw [xF, hB] : (.int .u64 ((d * 2 ^ (64 - B) % 18446744073709551616 : Nat) : Int) : Value) = _)) ?_
  refine rs_op rfl (ow_enter en194 rfl ((uscale_any _ gb3 (xF d) (tabHi j) (tabLo j) S hx ht1 ht2 (by omega) (HF.on E).here.2).mono ?_))
  rintro e w6 ⟨rfl, hb⟩
  refine ⟨_, rfl, ?_⟩
  have Ec := Ext.of_below hb No
  replace E := E.trans Ec.no
  clear hb Ec
  refine rs_set 40 (.int .u64 ((uF d j : Nat) : Int)) rfl ((by rw [uF, hS] : (.int .u64 ((uscF (xF d) (tabHi j) (tabLo j) S : Nat) : Int) : Value) = _)) ?_
  refine rs_op rfl (ow_assign rfl ?_)
  refine rs_nil ?_
  refine ew_next ?_
  refine cw_seq ?_
  refine cw_region ?_
  refine rs_op rfl (ow_move rfl ?_)
  refine rs_op rfl (ow_enter en200 rfl ((pk200_1 _).mono ?_))
  rintro e w7 ⟨rfl, hb⟩
  refine ⟨_, rfl, ?_⟩
  have Ec := Ext.of_below hb No
  replace E := E.trans Ec.no
  clear hb Ec
  refine rs_op rfl (ow_geq rfl rfl ?_)
  refine rs_set 43 (.bool (decide (36028797018963966 ≤ uF d j))) rfl (bool_dec (by omega)) ?_
  refine rs_op rfl (ow_enter en199 rfl ((bool2i _ (decide (36028797018963966 ≤ uF d j))).mono ?_))
  rintro e w8 ⟨rfl, hb⟩
  refine ⟨_, rfl, ?_⟩
  have Ec := Ext.of_below hb No
  replace E := E.trans Ec.no
  clear hb Ec
  refine rs_set 44 (.int .i64 ((kF d j : Nat) : Int)) rfl ((by rw [kF] : (.int .i64 ((b2n (decide (36028797018963966 ≤ uF d j)) : Nat) : Int) : Value) = _)) ?_
  refine rs_op rfl (ow_assign rfl ?_)
  refine rs_nil ?_
  refine ew_next ?_
  refine cw_seq ?_
  refine cw_region ?_
  refine rs_op rfl (ow_move rfl ?_)
  refine rs_op rfl (ow_move rfl ?_)
  refine rs_op rfl (ow_shr rfl rfl (by omega) (shr_nat _ (kF d j) (by omega)) ?_)
  refine rs_op rfl (ow_move rfl ?_)
  refine rs_op rfl (ow_and rfl rfl (and_bits (n := 1) (by omega) (by decide)) ?_)
  refine rs_op rfl (ow_or rfl rfl (or_bits (Nat.lt_of_le_of_lt (Nat.div_le_self _ _) (by omega)) (Nat.lt_of_le_of_lt (and_one_le _) (by decide))) ?_)
  refine rs_set 50 (.int .u64 ((vF d j : Nat) : Int)) rfl ((by rw [vF] : (.int .u64 ((uF d j / 2 ^ kF d j ||| (uF d j &&& 1) : Nat) : Int) : Value) = _)) ?_
  refine rs_op rfl (ow_assign rfl ?_)
  refine rs_nil ?_
  refine ew_next ?_
  refine cw_seq ?_
  refine cw_region ?_
  refine rs_op rfl (ow_move rfl ?_)
  refine rs_op rfl (ow_move rfl ?_)
  refine rs_op rfl (ow_sub rfl rfl (wrap_i64 (by omega)) ?_)
  refine rs_op rfl (ow_assign rfl ?_)
  refine rs_nil ?_
  refine ew_next ?_
  refine cw_seq ?_
  refine cw_region ?_
  refine rs_op rfl (ow_move rfl ?_)
  refine rs_op rfl (ow_move rfl ?_)
  refine rs_op rfl (ow_enter en198 rfl ((round_any _ (vF d j) (by omega)).mono ?_))
  rintro e w9 ⟨rfl, hb⟩
  refine ⟨_, rfl, ?_⟩
  have Ec := Ext.of_below hb No
  replace E := E.trans Ec.no
  clear hb Ec
  refine rs_op rfl (ow_or rfl rfl (or_bits hs hr) ?_)
  refine rs_set 57 (.int .u64 ((mF d j sign : Nat) : Int)) rfl ((by rw [mF] : (.int .u64 ((sign ||| roundU (vF d j) : Nat) : Int) : Value) = _)) ?_
  refine rs_op rfl (ow_move rfl ?_)
  refine rs_op rfl (ow_neg rfl (wrap_i64 (by omega)) ?_)
  refine rs_set 59 (.int .i64 ((((1075 - E0).toNat + kF d j : Nat) : Int) - 1075)) rfl ((by congr 1; omega : (.int .i64 (0 - (E0 - ((kF d j : Nat) : Int))) : Value) = _)) ?_
  refine rs_op rfl (ow_enter en217 rfl ((pack_any _ (mF d j sign) ((1075 - E0).toNat + kF d j) (or_lt (k := 64) hs hr) (by omega)).mono ?_))
  rintro e w10 ⟨rfl, hb⟩
  refine ⟨_, rfl, ?_⟩
  have Ec := Ext.of_below hb No
  replace E := E.trans Ec.no
  clear hb Ec
  refine rs_op rfl (ow_extract rfl rfl ?_)
  refine rs_op rfl (ow_extract rfl rfl ?_)
  refine rs_op rfl (ow_assign rfl ?_)
  refine rs_op rfl (ow_assign rfl ?_)
  refine rs_nil ?_
  refine ew_next ?_
  refine cw_ret ?_
  refine ew_ret (rs := [.tmp 6, .tmp 7]) (vs := [_, _]) rfl ⟨rfl, rfl, trivial⟩ ?_
  exact ⟨by rw [fastF, fastE, if_neg h', if_neg h', ← hE0]; rfl, (LW.step E XLW).toBelow⟩
end
end Go.Proofs.YtjdcjdohghkcgaaGreatDoor
namespace Go.Proofs.YtjdcjdohghkcgaaGreatDoor
open Go.RowKit
set_option maxRecDepth 100000
/-- A number that is not below nought and no NaN, as a pattern. -/
def Tame (b : Nat) : Prop := b ≤ 9218868437227405312
theorem and_bit_lt {m i : Nat} (h : m < 2 ^ i) : m &&& 2 ^ i = 0 := by
  apply Nat.eq_of_testBit_eq
  intro j
  rw [Nat.testBit_and, Nat.testBit_two_pow, Nat.zero_testBit]
  by_cases hj : i = j
  · subst hj; rw [Nat.testBit_lt_two_pow h]; rfl
  · rw [decide_eq_false hj, Bool.and_false]
theorem packC_lt {m : Nat} (h : m < 9007199254740992) : packC m < 4503599627370496 := by
  have e : m = m &&& (2 ^ 53 - 1) := by rw [Nat.and_two_pow_sub_one_eq_mod, Nat.mod_eq_of_lt h]
  have e2 : packC m = m % 2 ^ 52 := by
    unfold packC
    rw [← Nat.and_two_pow_sub_one_eq_mod]
    conv => lhs; rw [e]
    rw [Nat.and_assoc]
    have : (2 ^ 53 - 1) &&& 18442240474082181119 = 2 ^ 52 - 1 := by decide +kernel
    rw [this]
  rw [e2]
  exact Nat.mod_lt _ (by decide)
theorem packF_tame {m k : Nat} (hm : m ≤ 9007199254740992) : Tame (packF m k) := by
  unfold packF
  split
  · unfold Tame; omega
  · rename_i h
    have hlt : m < 9007199254740992 := by
      rcases Nat.lt_or_eq_of_le hm with h' | h'
      · exact h'
      · subst h'; exact absurd (by decide +kernel) h
    split
    · have e : packA m = 0 := and_bit_lt (i := 63) (by show m < 9223372036854775808; omega)
      unfold packI
      rw [e]
      exact Nat.le_refl _
    · rename_i hk
      have hc := packC_lt hlt
      have hk' : k * 2 ^ 52 % 18446744073709551616 = 2 ^ 52 * k := by
        rw [Nat.mul_comm]; exact Nat.mod_eq_of_lt (by show 4503599627370496 * k < 18446744073709551616; omega)
      unfold packN
      rw [hk', Nat.or_comm, ← Nat.two_pow_add_eq_or_of_lt hc]
      show 4503599627370496 * k + packC m ≤ 9218868437227405312
      omega
theorem zero_or (a : Nat) : 0 ||| a = a := Nat.zero_or a
theorem roundU_le {u : Nat} (h : u < 36028797018963968) : roundU u ≤ 9007199254740992 := by
  have h1 := and_one_le (u / 2 ^ 2)
  unfold roundU
  show (u + 1 + (u / 4 &&& 1)) / 4 ≤ 9007199254740992
  have h2 : u / 4 &&& 1 ≤ 1 := h1
  omega
theorem vF_lt' {d j : Nat} (h : uF d j < 72057594037927936) : vF d j < 36028797018963968 := by
  unfold vF
  refine or_lt (k := 55) ?_ (Nat.lt_of_le_of_lt (and_one_le _) (by decide))
  unfold kF b2n
  by_cases hc : 36028797018963966 ≤ uF d j
  · rw [decide_eq_true hc, if_pos rfl]
    show uF d j / 2 < 36028797018963968
    omega
  · rw [decide_eq_false hc, if_neg (by decide)]
    show uF d j / 1 < 36028797018963968
    omega
theorem uF_lt {d j : Nat} (hd : 0 < d ∧ d < 18446744073709551616) (hj : 3 ≤ j ∧ j ≤ 658) : uF d j < 72057594037927936 := by
  obtain ⟨_, ht1, _⟩ := tab_row (j := j) (by omega)
  have hB1 := lenB_pos hd.1
  have hB2 : lenB d ≤ 64 := lenB_le (k := 64) hd.2
  refine uscF_lt (Nat.mod_lt _ (by decide)) ht1 ?_
  unfold sF eF
  have : -2000 ≤ l2p (((j : Nat) : Int) - 348) ∧ l2p (((j : Nat) : Int) - 348) ≤ 2000 := by rw [l2p]; omega
  omega
end Go.Proofs.YtjdcjdohghkcgaaGreatDoor
namespace Go.Proofs.YtjdcjdohghkcgaaGreatDoor
open Go.RowKit
set_option maxRecDepth 100000
/-- A variable that holds a slice of these cells. -/
structure SliceA (g b o n c : Nat) (vs : List Value) (w : World) : Prop where
  head : w.cell? ⟨g, 0, none⟩ = some (.slice (some ⟨b, o, none⟩) n c)
  cells : ∀ i v, vs[i]? = some v → w.cell? ⟨b, o + i, none⟩ = some v
theorem Per.cellA {X : Nat → Prop} {w : World} {p : Addr} {v : Value} (h : w.cell? p = some v) (hX : ∀ k, X k → w.heap.size ≤ k) : Per X w (fun z => z.cell? p = some v) := fun _ hb =>
  (hb.cell (World.block_lt_of_cell? w _ h) (fun hx => Nat.lt_irrefl _ (Nat.lt_of_lt_of_le (World.block_lt_of_cell? w _ h) (hX _ hx)))).trans h
/-- The powers of ten that are floats. -/
def tenRow : List Nat := [4607182418800017408, 4621819117588971520, 4636737291354636288, 4652007308841189376, 4666723172467343360, 4681608360884174848, 4696837146684686336, 4711630319722168320, 4726483295884279808, 4741671816366391296, 4756540486875873280, 4771362005757984768, 4786511204640096256, 4801453603149578240, 4816244402031689728, 4831355200913801216, 4846369599423283200, 4861130398305394688, 4876203697187506176, 4891288408196988160, 4906019910204099648, 4921056587992461136, 4936209963552724370]
def tenF (j : Nat) : Nat := tenRow.getD j 0
theorem tenRow_at {j : Nat} (h : j < 23) : (tenRow.map (fun f => Value.float .f64 f))[j]? = some (.float .f64 (tenF j)) := by
  have key : ∀ i : Fin 23, (tenRow[i.val]?) = some (tenF i.val) := by decide +kernel
  rw [List.getElem?_map, key ⟨j, h⟩]; rfl
theorem tenF_pos {j : Nat} (h : j < 23) : rg (tenF j) < 9218868437227405312 ∧ rg (tenF j) ≠ 0 ∧ ng (tenF j) = false := by
  have key : ∀ i : Fin 23, rg (tenF i.val) < 9218868437227405312 ∧ rg (tenF i.val) ≠ 0 ∧ ng (tenF i.val) = false := by decide +kernel
  exact key ⟨j, h⟩
def pows : List Int := [1, 3, 6, 9, 13, 16, 19, 23, 26]
/-- The digits of a shift's row, as bytes. -/
def lcB (k : Nat) : ByteArray := ⟨(Go.Pinned.cheatRows.getD k (0, [])).2.toArray⟩
theorem lc_row {k : Nat} (h : Shl k) : (Go.Pinned.cheatRows.getD k (0, [])).1 = lcD k ∧ (Go.Pinned.cheatRows.getD k (0, [])).2.map (·.toNat) = lcS k ∧ k < 61 := by
  rcases h with rfl | rfl | rfl | rfl | rfl | rfl | rfl | rfl | rfl | rfl | rfl <;> exact ⟨by decide +kernel, by decide +kernel, by decide⟩
/-- The variable that holds the rows of the shifts to the left. -/
structure CheatA (b o c : Nat) (w : World) : Prop where
  head : w.cell? ⟨14, 0, none⟩ = some (.slice (some ⟨b, o, none⟩) 61 c)
  delta : ∀ k, Shl k → w.cell? ⟨b, o + k * 2, none⟩ = some (.int .i64 ((lcD k : Nat) : Int))
  cut : ∀ k, Shl k → w.cell? ⟨b, o + k * 2 + 1, none⟩ = some (.string (lcB k))
/-- strconv's tables, as they lie. -/
structure Tabs (bp op cp bf of cf bl ol cl : Nat) (w : World) : Prop where
  pow : PowT w
  man : w.cell? ⟨8, 0, none⟩ = some (.int .u64 52)
  exp : w.cell? ⟨8, 1, none⟩ = some (.int .u64 11)
  bias : w.cell? ⟨8, 2, none⟩ = some (.int .i64 (-1023))
  opt : w.cell? ⟨5, 0, none⟩ = some (.bool true)
  powtab : SliceA 11 bp op 9 cp (pows.map (fun z => Value.int .i64 z)) w
  ten : SliceA 12 bf of 23 cf (tenRow.map (fun f => Value.float .f64 f)) w
  cheat : CheatA bl ol cl w
/-- The tables' blocks lie below n. -/
structure TabsB (bp bf bl n : Nat) : Prop where
  pow : 13 < n
  info : 8 < n
  opt : 5 < n
  pt : 11 < n
  tn : 12 < n
  ch : 14 < n
  bp : bp < n
  bf : bf < n
  bl : bl < n
theorem Tabs.below {w : World} {bp op cp bf of cf bl ol cl : Nat} (h : Tabs bp op cp bf of cf bl ol cl w) : TabsB bp bf bl w.heap.size :=
  have lt {p : Addr} {v : Value} (e : w.cell? p = some v) : p.block < w.heap.size := World.block_lt_of_cell? w _ e
  ⟨h.pow.lt, lt h.man, lt h.opt, lt h.powtab.head, lt h.ten.head, lt h.cheat.head, lt (h.powtab.cells 0 _ rfl), lt (h.ten.cells 0 _ rfl), lt (h.cheat.delta 1 (.inl rfl))⟩
theorem TabsB.le {bp bf bl n m : Nat} (h : TabsB bp bf bl n) (hm : n ≤ m) : TabsB bp bf bl m :=
  ⟨Nat.lt_of_lt_of_le h.pow hm, Nat.lt_of_lt_of_le h.info hm, Nat.lt_of_lt_of_le h.opt hm, Nat.lt_of_lt_of_le h.pt hm, Nat.lt_of_lt_of_le h.tn hm, Nat.lt_of_lt_of_le h.ch hm, Nat.lt_of_lt_of_le h.bp hm, Nat.lt_of_lt_of_le h.bf hm, Nat.lt_of_lt_of_le h.bl hm⟩
theorem Per.cellB {X : Nat → Prop} {w : World} {p : Addr} {v : Value} {n : Nat} (h : w.cell? p = some v) (hp : p.block < n) (hX : ∀ k, X k → n ≤ k) : Per X w (fun z => z.cell? p = some v) := fun _ hb =>
  (hb.cell (World.block_lt_of_cell? w _ h) (fun hx => Nat.lt_irrefl _ (Nat.lt_of_lt_of_le hp (hX _ hx)))).trans h
/-- The tables stand while only blocks behind them are written. -/
theorem Per.tabsB {X : Nat → Prop} {w : World} {bp op cp bf of cf bl ol cl n : Nat} (h : Tabs bp op cp bf of cf bl ol cl w) (hn : TabsB bp bf bl n) (hX : ∀ k, X k → n ≤ k) : Per X w (Tabs bp op cp bf of cf bl ol cl) := fun z hz =>
  ⟨Per.powT h.pow (fun hx => Nat.lt_irrefl _ (Nat.lt_of_lt_of_le hn.pow (hX _ hx))) z hz, Per.cellB h.man hn.info hX z hz, Per.cellB h.exp hn.info hX z hz, Per.cellB h.bias hn.info hX z hz, Per.cellB h.opt hn.opt hX z hz,
    ⟨Per.cellB h.powtab.head hn.pt hX z hz, fun i v hv => Per.cellB (h.powtab.cells i v hv) hn.bp hX z hz⟩, ⟨Per.cellB h.ten.head hn.tn hX z hz, fun i v hv => Per.cellB (h.ten.cells i v hv) hn.bf hX z hz⟩,
    ⟨Per.cellB h.cheat.head hn.ch hX z hz, fun k hk => Per.cellB (h.cheat.delta k hk) hn.bl hX z hz, fun k hk => Per.cellB (h.cheat.cut k hk) hn.bl hX z hz⟩⟩
theorem Per.tabs {X : Nat → Prop} {w : World} {bp op cp bf of cf bl ol cl : Nat} (h : Tabs bp op cp bf of cf bl ol cl w) (hX : ∀ k, X k → w.heap.size ≤ k) : Per X w (Tabs bp op cp bf of cf bl ol cl) := Per.tabsB h h.below hX
theorem near_sgn (m : Nat) : Sgn false (FloatKind.f64.nearest ((m : Nat) : Int)) := by
  have e : FloatKind.f64.nearest ((m : Nat) : Int) = Ieee.double.write (.number false m 0) := by
    show Ieee.double.write (.number (decide (((m : Nat) : Int) < 0)) ((m : Nat) : Int).natAbs 0) = _
    rw [decide_eq_false (by omega)]; rfl
  rw [e]
  have h := write_num (d := .number false m 0) rfl
  exact ⟨h.1, nearest_ng _ _ _, h.2⟩
theorem neg_sgn {b : Nat} {n : Bool} (h : Sgn n b) : Sgn (!n) (b ^^^ 9223372036854775808) := by
  obtain ⟨h1, h2, h3⟩ := negate_parts h.lt
  have e : b ^^^ 9223372036854775808 = fnegate b := rfl
  rw [e]
  exact ⟨by rw [isN, h1]; exact h.num, by rw [h2, h.sg], h3⟩
end Go.Proofs.YtjdcjdohghkcgaaGreatDoor
namespace Go.Proofs.YtjdcjdohghkcgaaGreatDoor
open Go.RowKit
set_option maxRecDepth 100000
attribute [local irreducible] OW RS
def f0 (m : Nat) (neg : Bool) : Nat := if neg then FloatKind.f64.nearest ((m : Nat) : Int) ^^^ 9223372036854775808 else FloatKind.f64.nearest ((m : Nat) : Int)
theorem f0_sgn (m : Nat) (neg : Bool) : Sgn neg (f0 m neg) := by
 cases neg
 · rw [f0, if_neg (by decide)]; exact near_sgn m
 · rw [f0, if_pos rfl]; exact neg_sgn (near_sgn m)
def exG (f : Nat) (p : Int) : Nat := if 22 < p then ansF (fop .mul f (tenF (p - 22).toNat)) else f
def exQ (p : Int) : Nat := if 22 < p then 22 else p.toNat
def exF (m : Nat) (p : Int) (neg : Bool) : Nat × Bool :=
 if m / 2 ^ 52 ≠ 0 then (0, false)
 else if p = 0 then (f0 m neg, true)
 else if 0 < p ∧ p ≤ 37 then
  if (ford (exG (f0 m neg) p) 4831355200913801216 == some .gt) = true ∨ (ford (exG (f0 m neg) p) 14054727237768577024 == some .lt) = true then (exG (f0 m neg) p, false)
  else (ansF (fop .mul (exG (f0 m neg) p) (tenF (exQ p))), true)
 else if p < 0 ∧ -22 ≤ p then (ansF (fop .quo (f0 m neg) (tenF (-p).toNat)), true)
 else (f0 m neg, false)
theorem exF_big {m : Nat} {p : Int} {neg : Bool} (h : m / 2 ^ 52 ≠ 0) : exF m p neg = (0, false) := by rw [exF, if_pos h]
theorem exF_nil {m : Nat} {p : Int} {neg : Bool} (h : ¬ m / 2 ^ 52 ≠ 0) (h1 : p = 0) : exF m p neg = (f0 m neg, true) := by rw [exF, if_neg h, if_pos h1]
theorem exF_up {m : Nat} {p : Int} {neg : Bool} (h : ¬ m / 2 ^ 52 ≠ 0) (h1 : ¬ p = 0) (h2 : 0 < p ∧ p ≤ 37) {b : Bool} (hb : b = (ford (exG (f0 m neg) p) 4831355200913801216 == some .gt || ford (exG (f0 m neg) p) 14054727237768577024 == some .lt)) : exF m p neg = if b then (exG (f0 m neg) p, false) else (ansF (fop .mul (exG (f0 m neg) p) (tenF (exQ p))), true) := by
 rw [exF, if_neg h, if_neg h1, if_pos h2, hb]
 simp only [Bool.or_eq_true]
theorem exF_down {m : Nat} {p : Int} {neg : Bool} (h : ¬ m / 2 ^ 52 ≠ 0) (h1 : ¬ p = 0) (h2 : ¬ (0 < p ∧ p ≤ 37)) (h3 : p < 0 ∧ -22 ≤ p) : exF m p neg = (ansF (fop .quo (f0 m neg) (tenF (-p).toNat)), true) := by rw [exF, if_neg h, if_neg h1, if_neg h2, if_pos h3]
theorem exF_none {m : Nat} {p : Int} {neg : Bool} (h : ¬ m / 2 ^ 52 ≠ 0) (h1 : ¬ p = 0) (h2 : ¬ (0 < p ∧ p ≤ 37)) (h3 : ¬ (p < 0 ∧ -22 ≤ p)) : exF m p neg = (f0 m neg, false) := by rw [exF, if_neg h, if_neg h1, if_neg h2, if_neg h3]
theorem exG_hi {f : Nat} {p : Int} (h : 22 < p) : exG f p = ansF (fop .mul f (tenF (p - 22).toNat)) := by rw [exG, if_pos h]
theorem exG_lo {f : Nat} {p : Int} (h : ¬ 22 < p) : exG f p = f := by rw [exG, if_neg h]
theorem exQ_hi {p : Int} (h : 22 < p) : exQ p = 22 := by rw [exQ, if_pos h]
theorem exQ_lo {p : Int} (h : ¬ 22 < p) : exQ p = p.toNat := by rw [exQ, if_neg h]
attribute [local irreducible] f0 exG tenF ansF ford
theorem beq_dec (p q : Int) : (p == q) = decide (p = q) := by by_cases h : p = q <;> simp [h]
theorem ne_zero_b (m : Nat) : (((m : Nat) : Int) != 0) = decide (m ≠ 0) := by
 by_cases h : m = 0
 · subst h; rfl
 · rw [decide_eq_true h]; exact bne_iff_ne.2 (by omega)
theorem mul_ten {f j : Nat} {n : Bool} (hf : Sgn n f) (hj : j < 23) : fop .mul f (tenF j) = some (ansF (fop .mul f (tenF j))) ∧ Sgn n (ansF (fop .mul f (tenF j))) := by
 obtain ⟨h1, h2, h3⟩ := tenF_pos hj
 obtain ⟨z, hz, hs⟩ := mul_sgn hf h1 h2 h3
 rw [ansF_some hz]
 exact ⟨hz, hs⟩
theorem quo_ten {f j : Nat} {n : Bool} (hf : Sgn n f) (hj : j < 23) : fop .quo f (tenF j) = some (ansF (fop .quo f (tenF j))) ∧ Sgn n (ansF (fop .quo f (tenF j))) := by
 obtain ⟨h1, h2, h3⟩ := tenF_pos hj
 obtain ⟨z, hz, hs⟩ := quo_sgn hf h1 h2 h3
 rw [ansF_some hz]
 exact ⟨hz, hs⟩
theorem exG_sgn {f : Nat} {p : Int} {n : Bool} (h : Sgn n f) (hp : p ≤ 37) : Sgn n (exG f p) := by
 by_cases h2 : 22 < p
 · rw [exG_hi h2]; exact (mul_ten h (by omega)).2
 · rw [exG_lo h2]; exact h
theorem exQ_lt (p : Int) : exQ p < 23 := by
 by_cases h2 : 22 < p
 · rw [exQ_hi h2]; decide
 · rw [exQ_lo h2]; omega
/-- What the exact way answers is no NaN and has the sign that was asked for. -/
theorem exF_sgn {m : Nat} {p : Int} {neg : Bool} (h : (exF m p neg).2 = true) : Sgn neg (exF m p neg).1 := by
 have h0 := f0_sgn m neg
 by_cases a1 : m / 2 ^ 52 ≠ 0
 · rw [exF_big a1] at h; cases h
 · by_cases a2 : p = 0
   · rw [exF_nil a1 a2]; exact h0
   · by_cases a3 : 0 < p ∧ p ≤ 37
     · have hx := exF_up (neg := neg) a1 a2 a3 rfl
       rw [hx] at h ⊢
       split at h
       · cases h
       · rename_i hb
         rw [if_neg hb]
         exact (mul_ten (exG_sgn h0 a3.2) (exQ_lt p)).2
     · by_cases a4 : p < 0 ∧ -22 ≤ p
       · rw [exF_down a1 a2 a3 a4]; exact (quo_ten h0 (by omega)).2
       · rw [exF_none a1 a2 a3 a4] at h; cases h
section
variable (w : World) {bp op cp bf of cf bl ol cl : Nat}
theorem exact_any (m : Nat) (p : Int) (neg : Bool) (hp : -10000 ≤ p ∧ p ≤ 10000) (hT : Tabs bp op cp bf of cf bl ol cl w) :
 Calls Tryz.prog 183 #[.int .u64 ((m : Nat) : Int), .int .i64 p, .bool neg] w fun e w' => e = .returned (.tuple #[.float .f64 (exF m p neg).1, .bool (exF m p neg).2]) ∧ Below w.heap.size w w' := by
 refine calls_cw Tryz.func183 rfl Tryz.ntmps183 rfl ?_
 have HF : Per (No) w (fun _ => True) := Per.true_
 have LW := Ext.refl (No) w
 have XLW : ∀ q9, (No) q9 → (No) q9 ∨ w.heap.size ≤ q9 := fun _ h => Or.inl h
 have E := Ext.refl (No) w
 replace HF := HF.on E
 replace LW := LW.step E XLW
 replace E := Ext.refl (No) w
 replace HF := HF.and (Per.tabs hT (fun _ h => h.elim))
 refine cw_seq ?_
 refine cw_region ?_
 refine rs_op rfl (ow_assign rfl ?_)
 refine rs_op rfl (ow_assign rfl ?_)
 refine rs_nil ?_
 refine ew_next ?_
 refine cw_seq ?_
 refine cw_seq ?_
 refine cw_region ?_
 refine rs_op rfl (ow_move rfl ?_)
 refine rs_op rfl (ow_fieldAddr Tryz.underlying206 rfl sz144 (by decide) rfl ?_)
 refine rs_op rfl (ow_load1 Tryz.underlying144 rfl rfl (HF.on E).here.2.man ?_)
 refine rs_op rfl (ow_shr rfl rfl (by decide) (shr_nat m 52 (by decide)) ?_)
 refine rs_op rfl (ow_neq rfl rfl ?_)
 refine rs_nil ?_
 refine ew_next ?_
 refine cw_set 12 (.bool (decide (m / 2 ^ 52 ≠ 0))) rfl ((by rw [ne_zero_b] : (.bool (((m / 2 ^ 52 : Nat) : Int) != 0) : Value) = _)) ?_
 refine cw_cond rfl (fun h => ?_) (fun h => ?_)
 ·
  have h := of_decide_eq_true h
  refine cw_ret ?_
  refine ew_then_ret ?_
  refine ew_ret (rs := [.tmp 6, .tmp 7]) (vs := [_, _]) rfl ⟨rfl, rfl, trivial⟩ ?_
  exact ⟨by rw [exF_big h]; rfl, (LW.step E XLW).toBelow⟩
 ·
  have h := of_decide_eq_false h
  refine cw_skip ?_
  refine ew_next ?_
  refine cw_seq ?_
  refine cw_region ?_
  refine rs_op rfl (ow_move rfl ?_)
  refine rs_op rfl (ow_i2f Tryz.underlying78 (by rw [Tryz.underlying32]; rfl) rfl ?_)
  refine rs_op rfl (ow_assign rfl ?_)
  refine rs_nil ?_
  refine ew_next ?_
  refine cw_seq ?_
  refine cw_seq ?_
  refine cw_region ?_
  refine rs_op rfl (ow_move rfl ?_)
  refine rs_nil ?_
  refine ew_next ?_
  replace HF := HF.on E
  replace LW := LW.step E XLW
  replace E := Ext.refl (No) w
  refine cw_join (ι := Nat) (fun f => [(1, .int .i64 p), (7, .bool false), (6, .float .f64 f)]) (fun f w' => Ext (No) w w' ∧ (f = f0 m neg)) ?_ ?_
  ·
   have M1 := Ext.refl (No) w
   have XM1 : ∀ q9, (No) q9 → (No) q9 ∨ w.heap.size ≤ q9 := fun _ h => Or.inl h
   refine cw_cond rfl (fun hn => ?_) (fun hn => ?_)
   ·
    refine cw_region ?_
    refine rs_op rfl (ow_move rfl ?_)
    refine rs_op rfl (ow_fneg rfl ?_)
    refine rs_op rfl (ow_assign rfl ?_)
    refine rs_nil ?_
    exact ew_mid (FloatKind.f64.nearest ((m : Nat) : Int) ^^^ 9223372036854775808) ⟨rfl, rfl, rfl, trivial⟩ ⟨M1.step E XM1, by rw [hn, f0, if_pos rfl]⟩
   ·
    refine cw_skip ?_
    exact ew_mid (FloatKind.f64.nearest ((m : Nat) : Int)) ⟨rfl, rfl, rfl, trivial⟩ ⟨M1.step E XM1, by rw [hn, f0, if_neg (by decide)]⟩
  ·
   rintro f w2 ⟨M1, hf⟩
   have XM1 : ∀ q9, (No) q9 → (No) q9 ∨ w.heap.size ≤ q9 := fun _ h => Or.inl h
   replace E := E.trans M1
   replace HF := HF.on E
   replace LW := LW.step E XLW
   replace E := Ext.refl (No) w2
   have hs := f0_sgn m neg
   rw [← hf] at hs
   refine cw_seq ?_
   refine cw_block ?_
   refine cw_seq ?_
   refine cw_region ?_
   refine rs_op rfl (ow_move rfl ?_)
   refine rs_op rfl (ow_eql rfl rfl ?_)
   refine rs_op rfl (ow_assign rfl ?_)
   refine rs_nil ?_
   refine ew_next ?_
   refine cw_set 18 (.bool (decide (p = 0))) rfl ((by rw [beq_dec] : (.bool (p == 0) : Value) = _)) ?_
   refine cw_cond rfl (fun h1 => ?_) (fun h1 => ?_)
   ·
    have h1 := of_decide_eq_true h1
    refine cw_seq ?_
    refine cw_region ?_
    refine rs_op rfl (ow_move rfl ?_)
    refine rs_op rfl (ow_assign rfl ?_)
    refine rs_op rfl (ow_assign rfl ?_)
    refine rs_nil ?_
    refine ew_next ?_
    refine cw_ret ?_
    refine ew_block_ret ?_
    refine ew_then_ret ?_
    refine ew_ret (rs := [.tmp 6, .tmp 7]) (vs := [_, _]) rfl ⟨rfl, rfl, trivial⟩ ?_
    exact ⟨by rw [exF_nil h h1, hf]; rfl, (LW.step E XLW).toBelow⟩
   ·
    have h1 := of_decide_eq_false h1
    refine cw_seq ?_
    refine cw_region ?_
    refine rs_op rfl (ow_move rfl ?_)
    refine rs_op rfl (ow_gtr rfl rfl ?_)
    refine rs_op rfl (ow_move rfl ?_)
    refine rs_split 25 rfl (fun h2 => ?_) (fun h2 => ?_)
    ·
     have h2 := of_decide_eq_true h2
     refine rs_op rfl (ow_on rfl (ow_move rfl ?_))
     refine rs_op rfl (ow_on rfl (ow_leq rfl rfl ?_))
     refine rs_op rfl (ow_pickT rfl rfl ?_)
     refine rs_op rfl (ow_assign rfl ?_)
     refine rs_nil ?_
     refine ew_next ?_
     refine cw_cond rfl (fun h3 => ?_) (fun h3 => ?_)
     ·
      have h3 := of_decide_eq_true h3
      refine cw_seq ?_
      refine cw_seq ?_
      refine cw_region ?_
      refine rs_op rfl (ow_move rfl ?_)
      refine rs_op rfl (ow_gtr rfl rfl ?_)
      refine rs_nil ?_
      refine ew_next ?_
      replace HF := HF.on E
      replace LW := LW.step E XLW
      replace E := Ext.refl (No) w2
      refine cw_join (ι := Nat × Nat) (fun (g, q) => [(1, .int .i64 ((q : Nat) : Int)), (7, .bool false), (6, .float .f64 g)]) (fun (g, q) w' => Ext (No) w2 w' ∧ (g = exG f p ∧ q = exQ p ∧ q < 23 ∧ Sgn neg g)) ?_ ?_
      ·
       have M3 := Ext.refl (No) w2
       have XM3 : ∀ q9, (No) q9 → (No) q9 ∨ w2.heap.size ≤ q9 := fun _ h => Or.inl h
       refine cw_cond rfl (fun h4 => ?_) (fun h4 => ?_)
       ·
        have h4 := of_decide_eq_true h4
        have hmt := mul_ten hs (j := (p - 22).toNat) (by omega)
        refine cw_seq ?_
        refine cw_region ?_
        refine rs_op rfl (ow_move rfl ?_)
        refine rs_op rfl (ow_load1 Tryz.underlying249 rfl rfl (HF.on E).here.2.ten.head ?_)
        refine rs_op rfl (ow_move rfl ?_)
        refine rs_op rfl (ow_sub rfl rfl (wrap_i64 (by omega)) ?_)
        refine rs_op rfl (ow_indexAddr (j := (p - 22).toNat) Tryz.underlying249 sz78 rfl rfl (by omega) (by omega) ?_)
        refine rs_op rfl (ow_load1 Tryz.underlying78 rfl rfl (by rw [Nat.mul_one]; exact (HF.on E).here.2.ten.cells _ _ (tenRow_at (by omega))) ?_)
        refine rs_op rfl (ow_fV (.inr (.inr (.inl rfl))) rfl rfl hmt.1 ?_)
        refine rs_op rfl (ow_assign rfl ?_)
        refine rs_nil ?_
        refine ew_next ?_
        refine cw_region ?_
        refine rs_op rfl (ow_assign rfl ?_)
        refine rs_nil ?_
        exact ew_mid (ansF (fop .mul f (tenF (p - 22).toNat)), 22) ⟨rfl, rfl, rfl, trivial⟩ ⟨M3.step E XM3, (exG_hi h4).symm, (exQ_hi h4).symm, by decide, hmt.2⟩
       ·
        have h4 := of_decide_eq_false h4
        refine cw_skip ?_
        exact ew_mid (f, p.toNat) ⟨congrArg (fun z : Int => some (Value.int .i64 z)) (by omega), rfl, rfl, trivial⟩ ⟨M3.step E XM3, (exG_lo h4).symm, (exQ_lo h4).symm, by omega, hs⟩
      ·
       rintro ⟨g, q⟩ w4 ⟨M3, ⟨hg, hq, hq23, hgs⟩⟩
       have XM3 : ∀ q9, (No) q9 → (No) q9 ∨ w2.heap.size ≤ q9 := fun _ h => Or.inl h
       replace E := E.trans M3
       replace HF := HF.on E
       replace LW := LW.step E XLW
       replace E := Ext.refl (No) w4
       have hx := exF_up (neg := neg) h h1 ⟨h2, h3⟩ rfl
       rw [← hf, ← hg, ← hq] at hx
       refine cw_seq ?_
       refine cw_seq ?_
       refine cw_region ?_
       refine rs_op rfl (ow_move rfl ?_)
       refine rs_op rfl (ow_fgtr rfl rfl ?_)
       refine rs_op rfl (ow_move rfl ?_)
       refine rs_split 40 rfl (fun h5 => ?_) (fun h5 => ?_)
       ·
        rw [h5, Bool.true_or, if_pos rfl] at hx
        refine rs_op rfl (ow_off rfl ?_)
        refine rs_op rfl (ow_off rfl ?_)
        refine rs_op rfl (ow_pickT rfl rfl ?_)
        refine rs_nil ?_
        refine ew_next ?_
        refine cw_then rfl ?_
        refine cw_ret ?_
        refine ew_then_ret ?_
        refine ew_block_ret ?_
        refine ew_then_ret ?_
        refine ew_ret (rs := [.tmp 6, .tmp 7]) (vs := [_, _]) rfl ⟨rfl, rfl, trivial⟩ ?_
        exact ⟨by rw [hx]; rfl, (LW.step E XLW).toBelow⟩
       ·
        rw [h5, Bool.false_or] at hx
        refine rs_op rfl (ow_on rfl (ow_move rfl ?_))
        refine rs_op rfl (ow_on rfl (ow_flss rfl rfl ?_))
        refine rs_op rfl (ow_pickF rfl rfl ?_)
        refine rs_nil ?_
        refine ew_next ?_
        refine cw_cond rfl (fun h6 => ?_) (fun h6 => ?_)
        ·
         rw [h6, if_pos rfl] at hx
         refine cw_ret ?_
         refine ew_then_ret ?_
         refine ew_block_ret ?_
         refine ew_then_ret ?_
         refine ew_ret (rs := [.tmp 6, .tmp 7]) (vs := [_, _]) rfl ⟨rfl, rfl, trivial⟩ ?_
         exact ⟨by rw [hx]; rfl, (LW.step E XLW).toBelow⟩
        ·
         rw [h6, if_neg (by decide)] at hx
         have hmt := mul_ten hgs hq23
         refine cw_skip ?_
         refine ew_next ?_
         refine cw_seq ?_
         refine cw_region ?_
         refine rs_op rfl (ow_move rfl ?_)
         refine rs_op rfl (ow_load1 Tryz.underlying249 rfl rfl (HF.on E).here.2.ten.head ?_)
         refine rs_op rfl (ow_move rfl ?_)
         refine rs_op rfl (ow_indexAddr (j := q) Tryz.underlying249 sz78 rfl rfl rfl hq23 ?_)
         refine rs_op rfl (ow_load1 Tryz.underlying78 rfl rfl (by rw [Nat.mul_one]; exact (HF.on E).here.2.ten.cells _ _ (tenRow_at hq23)) ?_)
         refine rs_op rfl (ow_fV (.inr (.inr (.inl rfl))) rfl rfl hmt.1 ?_)
         refine rs_op rfl (ow_assign rfl ?_)
         refine rs_op rfl (ow_assign rfl ?_)
         refine rs_nil ?_
         refine ew_next ?_
         refine cw_ret ?_
         refine ew_block_ret ?_
         refine ew_then_ret ?_
         refine ew_ret (rs := [.tmp 6, .tmp 7]) (vs := [_, _]) rfl ⟨rfl, rfl, trivial⟩ ?_
         exact ⟨by rw [hx]; rfl, (LW.step E XLW).toBelow⟩
     ·
      have h3 := of_decide_eq_false h3
      refine cw_seq ?_
      refine cw_region ?_
      refine rs_op rfl (ow_move rfl ?_)
      refine rs_op rfl (ow_lss rfl rfl ?_)
      refine rs_op rfl (ow_move rfl ?_)
      refine rs_set 53 (.bool false) rfl ((by rw [decide_eq_false (by omega)] : (.bool (decide (p < 0)) : Value) = _)) ?_
      refine rs_op rfl (ow_off rfl ?_)
      refine rs_op rfl (ow_off rfl ?_)
      refine rs_op rfl (ow_pickF rfl rfl ?_)
      refine rs_op rfl (ow_assign rfl ?_)
      refine rs_nil ?_
      refine ew_next ?_
      refine cw_else rfl ?_
      refine cw_skip ?_
      refine ew_block_normal ?_
      refine ew_next ?_
      refine cw_ret ?_
      refine ew_ret (rs := [.tmp 6, .tmp 7]) (vs := [_, _]) rfl ⟨rfl, rfl, trivial⟩ ?_
      exact ⟨by rw [exF_none h h1 (by omega) (by omega), hf]; rfl, (LW.step E XLW).toBelow⟩
    ·
     have h2 := of_decide_eq_false h2
     refine rs_op rfl (ow_off rfl ?_)
     refine rs_op rfl (ow_off rfl ?_)
     refine rs_op rfl (ow_pickF rfl rfl ?_)
     refine rs_op rfl (ow_assign rfl ?_)
     refine rs_nil ?_
     refine ew_next ?_
     refine cw_else rfl ?_
     refine cw_seq ?_
     refine cw_region ?_
     refine rs_op rfl (ow_move rfl ?_)
     refine rs_op rfl (ow_lss rfl rfl ?_)
     refine rs_op rfl (ow_move rfl ?_)
     refine rs_set 53 (.bool true) rfl ((by rw [decide_eq_true (by omega)] : (.bool (decide (p < 0)) : Value) = _)) ?_
     refine rs_op rfl (ow_on rfl (ow_move rfl ?_))
     refine rs_op rfl (ow_on rfl (ow_geq rfl rfl ?_))
     refine rs_op rfl (ow_pickT rfl rfl ?_)
     refine rs_op rfl (ow_assign rfl ?_)
     refine rs_nil ?_
     refine ew_next ?_
     refine cw_cond rfl (fun h3 => ?_) (fun h3 => ?_)
     ·
      have h3 := of_decide_eq_true h3
      have hmt := quo_ten hs (j := (-p).toNat) (by omega)
      refine cw_seq ?_
      refine cw_region ?_
      refine rs_op rfl (ow_move rfl ?_)
      refine rs_op rfl (ow_load1 Tryz.underlying249 rfl rfl (HF.on E).here.2.ten.head ?_)
      refine rs_op rfl (ow_move rfl ?_)
      refine rs_op rfl (ow_neg rfl (wrap_i64 (by omega)) ?_)
      refine rs_op rfl (ow_indexAddr (j := (-p).toNat) Tryz.underlying249 sz78 rfl rfl (by omega) (by omega) ?_)
      refine rs_op rfl (ow_load1 Tryz.underlying78 rfl rfl (by rw [Nat.mul_one]; exact (HF.on E).here.2.ten.cells _ _ (tenRow_at (by omega))) ?_)
      refine rs_op rfl (ow_fV (.inr (.inr (.inr rfl))) rfl rfl hmt.1 ?_)
      refine rs_op rfl (ow_assign rfl ?_)
      refine rs_op rfl (ow_assign rfl ?_)
      refine rs_nil ?_
      refine ew_next ?_
      refine cw_ret ?_
      refine ew_block_ret ?_
      refine ew_then_ret ?_
      refine ew_ret (rs := [.tmp 6, .tmp 7]) (vs := [_, _]) rfl ⟨rfl, rfl, trivial⟩ ?_
      exact ⟨by rw [exF_down h h1 (by omega) ⟨by omega, h3⟩, hf]; rfl, (LW.step E XLW).toBelow⟩
     ·
      have h3 := of_decide_eq_false h3
      refine cw_skip ?_
      refine ew_block_normal ?_
      refine ew_next ?_
      refine cw_ret ?_
      refine ew_ret (rs := [.tmp 6, .tmp 7]) (vs := [_, _]) rfl ⟨rfl, rfl, trivial⟩ ?_
      exact ⟨by rw [exF_none h h1 (by omega) (by omega), hf]; rfl, (LW.step E XLW).toBelow⟩
end
end Go.Proofs.YtjdcjdohghkcgaaGreatDoor
namespace Go.Proofs.YtjdcjdohghkcgaaGreatDoor
open Go.RowKit
set_option maxRecDepth 100000
attribute [local irreducible] OW RS
theorem byte_lt {s : ByteArray} {j u : Nat} (h : (s.data[j]?).map (·.toNat) = some u) : j < s.size ∧ u < 256 := by
 obtain ⟨c, h1, rfl⟩ := Option.map_eq_some_iff.1 h
 have h2 : j < s.data.size := by
  rcases Nat.lt_or_ge j s.data.size with h3 | h3
  · exact h3
  · rw [Array.getElem?_eq_none h3] at h1; cases h1
 exact ⟨h2, c.toNat_lt⟩
theorem beq_no {p q : Int} (h : p ≠ q) : (p == q) = false := beq_eq_false_iff_ne.2 h
theorem or_32 {u : Nat} (h : u < 256) : IntKind.u8.wrap (BitVec.ofInt IntKind.u8.bits ((u : Nat) : Int) ||| BitVec.ofInt IntKind.u8.bits 32).toNat = ((u ||| 32 : Nat) : Int) := by
 have key : ∀ v : Fin 256, IntKind.u8.wrap (BitVec.ofInt IntKind.u8.bits ((v.val : Nat) : Int) ||| BitVec.ofInt IntKind.u8.bits 32).toNat = ((v.val ||| 32 : Nat) : Int) := by decide +kernel
 exact key ⟨u, h⟩
section
variable (w : World)
theorem lower_any (u : Nat) (hu : u < 256) : Calls Tryz.prog 190 #[.int .u8 ((u : Nat) : Int)] w fun e w' => e = .returned (.int .u8 ((u ||| 32 : Nat) : Int)) ∧ Below w.heap.size w w' := by
 refine calls_cw Tryz.func190 rfl Tryz.ntmps190 rfl ?_
 have HF : Per (No) w (fun _ => True) := Per.true_
 have LW := Ext.refl (No) w
 have XLW : ∀ q9, (No) q9 → (No) q9 ∨ w.heap.size ≤ q9 := fun _ h => Or.inl h
 have E := Ext.refl (No) w
 refine cw_seq ?_
 refine cw_region ?_
 refine rs_op rfl (ow_assign rfl ?_)
 refine rs_nil ?_
 refine ew_next ?_
 refine cw_seq ?_
 refine cw_region ?_
 refine rs_op rfl (ow_move rfl ?_)
 refine rs_op rfl (ow_or rfl rfl (or_32 hu) ?_)
 refine rs_op rfl (ow_assign rfl ?_)
 refine rs_nil ?_
 refine ew_next ?_
 refine cw_ret ?_
 refine ew_ret (rs := [.tmp 2]) (vs := [_]) rfl ⟨rfl, trivial⟩ ?_
 exact ⟨rfl, (LW.step E XLW).toBelow⟩
theorem special_digit (s : ByteArray) (u : Nat) (hu : (s.data[0]?).map (·.toNat) = some u) (hd : 48 ≤ u ∧ u ≤ 57) : Calls Tryz.prog 172 #[.string s] w fun e w' => e = .returned (.tuple #[.float .f64 0, .int .i64 0, .bool false]) ∧ Below w.heap.size w w' := by
 have hs := (byte_lt hu).1
 refine calls_cw Tryz.func172 rfl Tryz.ntmps172 rfl ?_
 have HF : Per (No) w (fun _ => True) := Per.true_
 have LW := Ext.refl (No) w
 have XLW : ∀ q9, (No) q9 → (No) q9 ∨ w.heap.size ≤ q9 := fun _ h => Or.inl h
 have E := Ext.refl (No) w
 refine cw_seq ?_
 refine cw_region ?_
 refine rs_op rfl (ow_assign rfl ?_)
 refine rs_op rfl (ow_assign rfl ?_)
 refine rs_op rfl (ow_assign rfl ?_)
 refine rs_nil ?_
 refine ew_next ?_
 refine cw_seq ?_
 refine cw_seq ?_
 refine cw_region ?_
 refine rs_op rfl (ow_move rfl ?_)
 refine rs_op rfl (ow_lenS Tryz.underlying9 rfl ?_)
 refine rs_op rfl (ow_eql rfl rfl ?_)
 refine rs_nil ?_
 refine ew_next ?_
 refine cw_set 10 (.bool false) rfl (by rw [beq_no (by omega)]) ?_
 refine cw_else rfl ?_
 refine cw_skip ?_
 refine ew_next ?_
 refine cw_seq ?_
 refine cw_region ?_
 refine rs_op rfl (ow_assign rfl ?_)
 refine rs_nil ?_
 refine ew_next ?_
 refine cw_seq ?_
 refine cw_region ?_
 refine rs_op rfl (ow_assign rfl ?_)
 refine rs_nil ?_
 refine ew_next ?_
 refine cw_seq ?_
 refine cw_seq ?_
 refine cw_region ?_
 refine rs_op rfl (ow_move rfl ?_)
 refine rs_op rfl (ow_indexSL (j := 0) (b := u) Tryz.underlying9 rfl rfl rfl hu ?_)
 refine rs_nil ?_
 refine ew_next ?_
 refine cw_block ?_
 refine cw_seq ?_
 refine cw_block ?_
 refine cw_seq ?_
 refine cw_block ?_
 refine cw_seq ?_
 refine cw_block ?_
 refine cw_seq ?_
 refine cw_seq ?_
 refine cw_seq ?_
 refine cw_seq ?_
 refine cw_region ?_
 refine rs_op rfl (ow_eql rfl rfl ?_)
 refine rs_op rfl (ow_assign rfl ?_)
 refine rs_nil ?_
 refine ew_next ?_
 refine cw_set 13 (.bool false) rfl ((by rw [beq_no (by omega)] : (.bool (((u : Nat) : Int) == 43) : Value) = _)) ?_
 refine cw_else rfl ?_
 refine cw_region ?_
 refine rs_op rfl (ow_eql rfl rfl ?_)
 refine rs_op rfl (ow_assign rfl ?_)
 refine rs_nil ?_
 refine ew_next ?_
 refine cw_set 13 (.bool false) rfl ((by rw [beq_no (by omega)] : (.bool (((u : Nat) : Int) == 45) : Value) = _)) ?_
 refine cw_else rfl ?_
 refine cw_skip ?_
 refine ew_next ?_
 refine cw_seq ?_
 refine cw_seq ?_
 refine cw_seq ?_
 refine cw_region ?_
 refine rs_op rfl (ow_eql rfl rfl ?_)
 refine rs_op rfl (ow_assign rfl ?_)
 refine rs_nil ?_
 refine ew_next ?_
 refine cw_set 16 (.bool false) rfl ((by rw [beq_no (by omega)] : (.bool (((u : Nat) : Int) == 105) : Value) = _)) ?_
 refine cw_else rfl ?_
 refine cw_region ?_
 refine rs_op rfl (ow_eql rfl rfl ?_)
 refine rs_op rfl (ow_assign rfl ?_)
 refine rs_nil ?_
 refine ew_next ?_
 refine cw_set 16 (.bool false) rfl ((by rw [beq_no (by omega)] : (.bool (((u : Nat) : Int) == 73) : Value) = _)) ?_
 refine cw_else rfl ?_
 refine cw_skip ?_
 refine ew_next ?_
 refine cw_seq ?_
 refine cw_seq ?_
 refine cw_region ?_
 refine rs_op rfl (ow_eql rfl rfl ?_)
 refine rs_op rfl (ow_assign rfl ?_)
 refine rs_nil ?_
 refine ew_next ?_
 refine cw_set 19 (.bool false) rfl ((by rw [beq_no (by omega)] : (.bool (((u : Nat) : Int) == 110) : Value) = _)) ?_
 refine cw_else rfl ?_
 refine cw_region ?_
 refine rs_op rfl (ow_eql rfl rfl ?_)
 refine rs_op rfl (ow_assign rfl ?_)
 refine rs_nil ?_
 refine ew_next ?_
 refine cw_set 19 (.bool false) rfl ((by rw [beq_no (by omega)] : (.bool (((u : Nat) : Int) == 78) : Value) = _)) ?_
 refine cw_else rfl ?_
 refine cw_skip ?_
 refine ew_next ?_
 refine cw_exit ?_
 refine ew_block_past rfl ?_
 refine ew_then_exit ?_
 refine ew_block_past rfl ?_
 refine ew_then_exit ?_
 refine ew_block_past rfl ?_
 refine ew_then_exit ?_
 refine ew_block_here ?_
 refine ew_next ?_
 refine cw_seq ?_
 refine cw_region ?_
 refine rs_op rfl (ow_assign rfl ?_)
 refine rs_op rfl (ow_assign rfl ?_)
 refine rs_op rfl (ow_assign rfl ?_)
 refine rs_nil ?_
 refine ew_next ?_
 refine cw_ret ?_
 refine ew_ret (rs := [.tmp 2, .tmp 3, .tmp 4]) (vs := [_, _, _]) rfl ⟨rfl, rfl, rfl, trivial⟩ ?_
 exact ⟨rfl, (LW.step E XLW).toBelow⟩
end
end Go.Proofs.YtjdcjdohghkcgaaGreatDoor
namespace Go.Proofs.YtjdcjdohghkcgaaGreatDoor
open Go.RowKit
set_option maxRecDepth 100000
def sgB (neg : Bool) : Nat := if neg then 9223372036854775808 else 0
theorem sgB_lt (neg : Bool) : sgB neg < 18446744073709551616 := by cases neg <;> decide
theorem sgn_or {x : Nat} (h : x ≤ 9218868437227405312) (neg : Bool) : Sgn neg (sgB neg ||| x) := by
  cases neg with
  | false =>
    rw [show sgB false = 0 from rfl, Nat.zero_or]
    refine ⟨?_, ?_, by omega⟩
    · unfold isN rg; exact decide_eq_false (by omega)
    · unfold ng; exact beq_eq_false_iff_ne.2 (by omega)
  | true =>
    have e : sgB true ||| x = 9223372036854775808 + x := by
      have h1 : x < 2 ^ 63 := by show x < 9223372036854775808; omega
      have h2 := Nat.two_pow_add_eq_or_of_lt h1 1
      have h3 : (2 ^ 63 * 1 : Nat) = 9223372036854775808 := by decide
      rw [h3] at h2
      exact h2.symm
    rw [e]
    refine ⟨?_, ?_, by omega⟩
    · unfold isN rg; exact decide_eq_false (by omega)
    · unfold ng; exact beq_iff_eq.2 (by omega)
theorem packF_or (m k : Nat) (neg : Bool) : packF (sgB neg ||| m) k = sgB neg ||| packF m k := by
  have e1 : sgB neg &&& 4503599627370496 = 0 := by cases neg <;> decide +kernel
  have e2 : sgB neg &&& 9223372036854775808 = sgB neg := by cases neg <;> decide +kernel
  have e3 : sgB neg &&& 18442240474082181119 = sgB neg := by cases neg <;> decide +kernel
  unfold packF packI packN packA packC
  rw [Nat.and_or_distrib_right, Nat.and_or_distrib_right, Nat.and_or_distrib_right, e1, e2, e3, Nat.zero_or]
  split
  · rfl
  · split
    · rw [Nat.or_assoc]
    · rw [Nat.or_assoc]
theorem fast_sgn {d j : Nat} (neg : Bool) (hd : 0 < d ∧ d < 18446744073709551616) (hj : 3 ≤ j ∧ j ≤ 658) : Sgn neg (fastF d j (sgB neg)) := by
  unfold fastF
  split
  · exact sgn_or (Nat.zero_le _) neg
  · unfold mF
    rw [packF_or]
    exact sgn_or (packF_tame (roundU_le (vF_lt' (uF_lt hd hj)))) neg
/-! ### the slow way's float -/
theorem slowB_is (m e : Nat) (neg : Bool) : slowB m e neg = sgB neg ||| ((m &&& 4503599627370495) ||| e * 4503599627370496) := by
  unfold slowB
  cases neg with
  | false => rw [if_neg (by decide), show sgB false = 0 from rfl, Nat.zero_or]
  | true => rw [if_pos rfl, Nat.or_comm]; rfl
theorem slow_sgn {m e : Nat} {neg : Bool} (h : e ≤ 2046 ∨ (m = 0 ∧ e = 2047)) : Sgn neg (slowB m e neg) := by
  rw [slowB_is]
  refine sgn_or ?_ neg
  rcases h with h | ⟨rfl, rfl⟩
  · have h1 : m &&& 4503599627370495 < 2 ^ 52 := by
      have : m &&& 4503599627370495 ≤ 4503599627370495 := Nat.and_le_right
      show m &&& 4503599627370495 < 4503599627370496; omega
    have h2 := Nat.two_pow_add_eq_or_of_lt h1 e
    have h3 : (2 ^ 52 : Nat) = 4503599627370496 := by decide
    rw [h3] at h1 h2
    rw [Nat.or_comm, Nat.mul_comm e, ← h2]
    omega
  · decide +kernel
/-- A mantissa and an exponent that make a float. -/
def FbOK (r : Nat × Nat × Bool) : Prop := r.2.1 ≤ 2046 ∨ (r.1 = 0 ∧ r.2.1 = 2047)
theorem fbEnd_ok {t : Dec} {e : Int} (h : e ≤ 1023) : FbOK (fbEnd t e) := by
  unfold fbEnd
  split
  · split
    · exact .inr ⟨rfl, rfl⟩
    · exact .inl (by show (e + 1 + 1023).toNat ≤ 2046; omega)
  · refine .inl ?_
    show (if roundD t &&& 4503599627370496 = 0 then 0 else (e + 1023).toNat) ≤ 2046
    split <;> omega
theorem fbMid_ok (t : Dec) (e : Int) : FbOK (fbMid t e) := by
  unfold fbMid
  split
  · exact fbEnd_ok (by decide)
  · split
    · exact .inr ⟨rfl, rfl⟩
    · exact fbEnd_ok (by omega)
theorem fbAll_ok (t : Dec) : FbOK (fbAll t) := by
  unfold fbAll
  split
  · exact .inl (Nat.zero_le _)
  · split
    · exact .inr ⟨rfl, rfl⟩
    · split
      · exact .inl (Nat.zero_le _)
      · exact fbMid_ok _ _
theorem slowF_sgn (t : Dec) : Sgn t.neg (slowF t) := slow_sgn (fbAll_ok t)
theorem st_neg (s : ByteArray) (a : StS) : (stStep s a).t.neg = a.t.neg := by
  unfold stStep
  split
  · rfl
  · split
    · rfl
    · split <;> rfl
theorem stA_neg {s : ByteArray} {f p E q : Nat} (neg : Bool) (hs : Nm s f p E q) : (stA s f neg).t.neg = neg := by
  have h := until_ind (done := stDone s) (step := stStep s) (fun a => StN s f p E q a ∧ a.t.neg = neg) (fun t => E - t.i) (fun t h hd => ?_) ⟨stN_start neg hs, rfl⟩
  · exact h.1.2
  · obtain ⟨h1, h2⟩ := stN_keeps hs h.1 hd
    refine ⟨⟨h1, by rw [st_neg]; exact h.2⟩, ?_⟩
    rw [st_i]
    omega
theorem setD_neg {s : ByteArray} {f p E q : Nat} (neg : Bool) (hs : Nm s f p E q) : (setD s f neg).neg = neg := stA_neg neg hs
/-! ### both ways together -/
def rangeE : Value := .iface 153 (.int .i64 1)
noncomputable def rdM (s : ByteArray) (f : Nat) : Nat := (rdA s f).m
noncomputable def rdT (s : ByteArray) (f : Nat) : Bool := (rdA s f).tr
noncomputable def atJ (s : ByteArray) (f : Nat) : Nat := (rdX s f + 348).toNat
noncomputable def atF (s : ByteArray) (f : Nat) (neg : Bool) : Nat := fastF (rdM s f) (atJ s f) (sgB neg)
noncomputable def atG (s : ByteArray) (f : Nat) (neg : Bool) : Nat := fastF (rdM s f + 1) (atJ s f) (sgB neg)
noncomputable def atL (s : ByteArray) (f : Nat) (neg : Bool) : Bool := ford (atF s f neg) (atG s f neg) == some .eq
noncomputable def atV (s : ByteArray) (f : Nat) (neg : Bool) : Nat :=
  if rdM s f = 0 then sgB neg ||| 0
  else if 310 < rdX s f then sgB neg ||| 9218868437227405312
  else if rdX s f < -345 then sgB neg ||| 0
  else if rdT s f = false ∧ (exF (rdM s f) (rdX s f) neg).2 = true then (exF (rdM s f) (rdX s f) neg).1
  else if rdT s f = false ∨ atL s f neg = true then atF s f neg
  else slowF (setD s f neg)
noncomputable def atE (s : ByteArray) (f : Nat) (neg : Bool) : Value :=
  if rdM s f = 0 then .nilIface
  else if 310 < rdX s f then rangeE
  else if rdX s f < -345 then .nilIface
  else if rdT s f = false ∧ (exF (rdM s f) (rdX s f) neg).2 = true then .nilIface
  else if rdT s f = false ∨ atL s f neg = true then fastE (rdM s f) (atJ s f) (sgB neg)
  else if (fbAll (setD s f neg)).2.2 then rangeE else .nilIface
theorem packE_or (m k : Nat) : packE m k = .nilIface ∨ packE m k = rangeE := by
  unfold packE
  split
  · exact .inl rfl
  · split
    · exact .inr rfl
    · exact .inl rfl
theorem fastE_or (d j g : Nat) : fastE d j g = .nilIface ∨ fastE d j g = rangeE := by
  unfold fastE
  split
  · exact .inl rfl
  · exact packE_or _ _
theorem atE_or (s : ByteArray) (f : Nat) (neg : Bool) : atE s f neg = .nilIface ∨ atE s f neg = rangeE := by
  unfold atE
  split
  · exact .inl rfl
  · split
    · exact .inr rfl
    · split
      · exact .inl rfl
      · split
        · exact .inl rfl
        · split
          · exact fastE_or _ _ _
          · split
            · exact .inr rfl
            · exact .inl rfl
theorem rdM_lt {s : ByteArray} {f p E q : Nat} (hs : Nm s f p E q) : rdM s f < 10000000000000000000 := by
  obtain ⟨h, _⟩ := rdA_ends hs
  have h1 : 10 ^ (rdA s f).nm ≤ 10 ^ 19 := Nat.pow_le_pow_right (by decide) h.hn
  have h2 := h.hm
  unfold rdM
  have h3 : (10 : Nat) ^ 19 = 10000000000000000000 := by decide
  rw [h3] at h1
  omega
theorem atV_sgn {s : ByteArray} {f p E q : Nat} (neg : Bool) (hs : Nm s f p E q) : Sgn neg (atV s f neg) := by
  have hm := rdM_lt hs
  unfold atV
  split
  · exact sgn_or (Nat.zero_le _) neg
  · rename_i h0
    split
    · exact sgn_or (Nat.le_refl _) neg
    · rename_i h1
      split
      · exact sgn_or (Nat.zero_le _) neg
      · rename_i h2
        split
        · rename_i h3; exact exF_sgn h3.2
        · split
          · exact fast_sgn neg ⟨by omega, by omega⟩ (by unfold atJ; omega)
          · have := slowF_sgn (setD s f neg)
            rwa [setD_neg neg hs] at this
end Go.Proofs.YtjdcjdohghkcgaaGreatDoor
namespace Go.Proofs.YtjdcjdohghkcgaaGreatDoor
open Go.RowKit
set_option maxRecDepth 100000
attribute [local irreducible] OW RS
theorem or32_x {u : Nat} (h : (48 ≤ u ∧ u ≤ 57) ∨ u = 46 ∨ u = 101 ∨ u = 0) : (u ||| 32) ≠ 120 := by
 rcases h with h | rfl | rfl | rfl
 · have key : ∀ v : Fin 58, 48 ≤ v.val → (v.val ||| 32) ≠ 120 := by decide
   exact key ⟨u, by omega⟩ h.1
 · decide
 · decide
 · decide
theorem m_lt {m n : Nat} (h : m < 10 ^ n) (hn : n < 19) : m < 1000000000000000000 := by
 have h1 : 10 ^ n ≤ 10 ^ 18 := Nat.pow_le_pow_right (by decide) (by omega)
 have h2 : (10 : Nat) ^ 18 = 1000000000000000000 := by decide
 omega
/-- The byte behind a numeral's first. -/
theorem Nm.next {s : ByteArray} {f p E q : Nat} (h : Nm s f p E q) (h1 : f + 1 < s.size) : (48 ≤ bAt s (f + 1) ∧ bAt s (f + 1) ≤ 57) ∨ bAt s (f + 1) = 46 ∨ bAt s (f + 1) = 101 ∨ bAt s (f + 1) = 0 := by
 have hf := h.fp
 have hp := h.pE
 rcases Nat.lt_or_ge (f + 1) E with h2 | h2
 · rcases h.at_ (i := f + 1) (by omega) h2 with h3 | h3
   · exact .inl h3.2
   · exact .inr (.inl h3.2)
 · have e : E = f + 1 := by omega
   rw [← e]
   exact .inr (.inr (.inl (h.exp (by omega)).1))
theorem Nm.first {s : ByteArray} {f p E q : Nat} (h : Nm s f p E q) : 48 ≤ bAt s f ∧ bAt s f ≤ 57 := h.dig1 f (Nat.le_refl _) h.fp
theorem Nm.size {s : ByteArray} {f p E q : Nat} (h : Nm s f p E q) : f < s.size := by have := h.fp; have := h.pE; have := h.hE; omega
theorem bne_b {m : Nat} (h : m ≠ 0) : ((.bool (((m : Nat) : Int) != 0)) : Value) = .bool true := by rw [bne_iff_ne.2 (by omega)]
theorem pr2190_1 : Gives 190 #[.int .u8 101] (.int .u8 101) := by
 intro w
 refine calls_cw Tryz.func190 rfl Tryz.ntmps190 rfl ?_
 have HF : Per (No) w (fun _ => True) := Per.true_
 have LW := Ext.refl (No) w
 have XLW : ∀ q9, (No) q9 → (No) q9 ∨ w.heap.size ≤ q9 := fun _ h => Or.inl h
 have E := Ext.refl (No) w
 refine cw_seq ?_
 refine cw_region ?_
 refine rs_op rfl (ow_assign rfl ?_)
 refine rs_nil ?_
 refine ew_next ?_
 refine cw_seq ?_
 refine cw_region ?_
 refine rs_op rfl (ow_move rfl ?_)
 refine rs_op rfl (ow_or (z := 101) rfl rfl (by kernel_rfl) ?_)
 refine rs_op rfl (ow_assign rfl ?_)
 refine rs_nil ?_
 refine ew_next ?_
 refine cw_ret ?_
 refine ew_ret (rs := [.tmp 2]) (vs := [.int .u8 101]) rfl ⟨rfl, trivial⟩ ?_
 exact ⟨rfl, (LW.step E XLW).toBelow⟩
section
variable (w : World)
theorem read_pos (s : ByteArray) {p Z q : Nat} (hs : Nm s 0 p Z q) (hl : s.size < 100000) : Calls Tryz.prog 173 #[.string s] w fun e w' => e = .returned (.tuple #[.int .u64 ((rdM s 0 : Nat) : Int), .int .i64 (rdX s 0), .bool false, .bool (rdT s 0), .bool false, .int .i64 ((s.size : Nat) : Int), .bool true]) ∧ Below w.heap.size w w' := by
 have hfs : 0 < s.size := hs.size
 have hfd := hs.first
 refine calls_cw Tryz.func173 rfl Tryz.ntmps173 rfl ?_
 have HF : Per (No) w (fun _ => True) := Per.true_
 have LW := Ext.refl (No) w
 have XLW : ∀ q9, (No) q9 → (No) q9 ∨ w.heap.size ≤ q9 := fun _ h => Or.inl h
 have E := Ext.refl (No) w
 refine cw_seq ?_
 refine cw_region ?_
 refine rs_op rfl (ow_assign rfl ?_)
 refine rs_op rfl (ow_assign rfl ?_)
 refine rs_op rfl (ow_assign rfl ?_)
 refine rs_op rfl (ow_assign rfl ?_)
 refine rs_op rfl (ow_assign rfl ?_)
 refine rs_op rfl (ow_assign rfl ?_)
 refine rs_op rfl (ow_assign rfl ?_)
 refine rs_nil ?_
 refine ew_next ?_
 refine cw_scope 4 ?_
 refine cw_seq ?_
 refine cw_region ?_
 refine rs_op rfl (ow_assign rfl ?_)
 refine rs_nil ?_
 refine ew_next ?_
 refine cw_seq ?_
 refine cw_seq ?_
 refine cw_region ?_
 refine rs_op rfl (ow_move rfl ?_)
 refine rs_op rfl (ow_move rfl ?_)
 refine rs_op rfl (ow_lenS Tryz.underlying9 rfl ?_)
 refine rs_op rfl (ow_geq rfl rfl ?_)
 refine rs_nil ?_
 refine ew_next ?_
 refine cw_set 24 (.bool false) rfl ((by rw [decide_eq_false (by omega)] : (.bool (decide (((s.size : Nat) : Int) ≤ 0)) : Value) = _)) ?_
 refine cw_else rfl ?_
 refine cw_skip ?_
 refine ew_next ?_
 refine cw_seq ?_
 refine cw_seq ?_
 refine cw_region ?_
 refine rs_op rfl (ow_move rfl ?_)
 refine rs_op rfl (ow_move rfl ?_)
 refine rs_op rfl (ow_indexSL (j := 0) (b := bAt s 0) Tryz.underlying9 rfl rfl rfl (bAt_some (by omega)) ?_)
 refine rs_nil ?_
 refine ew_next ?_
 refine cw_block ?_
 refine cw_seq ?_
 refine cw_region ?_
 refine rs_op rfl (ow_eql rfl rfl ?_)
 refine rs_op rfl (ow_assign rfl ?_)
 refine rs_nil ?_
 refine ew_next ?_
 refine cw_set 28 (.bool false) rfl ((by rw [beq_no (by omega)] : (.bool (((bAt s 0 : Nat) : Int) == 43) : Value) = _)) ?_
 refine cw_else rfl ?_
 refine cw_seq ?_
 refine cw_region ?_
 refine rs_op rfl (ow_eql rfl rfl ?_)
 refine rs_op rfl (ow_assign rfl ?_)
 refine rs_nil ?_
 refine ew_next ?_
 refine cw_set 32 (.bool false) rfl ((by rw [beq_no (by omega)] : (.bool (((bAt s 0 : Nat) : Int) == 45) : Value) = _)) ?_
 refine cw_else rfl ?_
 refine cw_skip ?_
 refine ew_block_normal ?_
 refine ew_next ?_
 refine cw_seq ?_
 refine cw_region ?_
 refine rs_op rfl (ow_assign rfl ?_)
 refine rs_nil ?_
 refine ew_next ?_
 refine cw_seq ?_
 refine cw_region ?_
 refine rs_op rfl (ow_assign rfl ?_)
 refine rs_nil ?_
 refine ew_next ?_
 refine cw_seq ?_
 refine cw_region ?_
 refine rs_op rfl (ow_assign rfl ?_)
 refine rs_nil ?_
 refine ew_next ?_
 refine cw_seq ?_
 refine cw_seq ?_
 replace HF := HF.on E
 replace LW := LW.step E XLW
 replace E := Ext.refl (No) w
 refine cw_join (ι := Unit) (fun _ => [(0, .string s), (2, .int .u64 0), (3, .int .i64 0), (4, .bool false), (5, .bool false), (6, .bool false), (7, .int .i64 0), (8, .bool false), (9, .bool false), (10, .int .u64 10), (11, .int .i64 19), (12, .int .u8 101), (54, .bool false)]) (fun _ w' => Ext (No) w w' ∧ (True)) ?_ ?_
 ·
  have M1 := Ext.refl (No) w
  have XM1 : ∀ q9, (No) q9 → (No) q9 ∨ w.heap.size ≤ q9 := fun _ h => Or.inl h
  refine cw_region ?_
  refine rs_op rfl (ow_move rfl ?_)
  refine rs_op rfl (ow_add (z := 2) rfl rfl (by kernel_rfl) ?_)
  refine rs_op rfl (ow_move rfl ?_)
  refine rs_op rfl (ow_lenS Tryz.underlying9 rfl ?_)
  refine rs_op rfl (ow_lss rfl rfl ?_)
  refine rs_op rfl (ow_move rfl ?_)
  refine rs_split 41 rfl (fun hl => ?_) (fun hl => ?_)
  ·
   have hl := of_decide_eq_true hl
   refine rs_op rfl (ow_on rfl (ow_move rfl ?_))
   refine rs_op rfl (ow_on rfl (ow_move rfl ?_))
   refine rs_op rfl (ow_on rfl (ow_indexSL (j := 0) (b := bAt s 0) Tryz.underlying9 rfl rfl rfl (bAt_some hfs) ?_))
   refine rs_op rfl (ow_on rfl (ow_eql rfl rfl ?_))
   refine rs_op rfl (ow_pickT rfl rfl ?_)
   refine rs_op rfl (ow_move rfl ?_)
   refine rs_split 47 rfl (fun hz => ?_) (fun hz => ?_)
   ·
    refine rs_op rfl (ow_on rfl (ow_move rfl ?_))
    refine rs_op rfl (ow_on rfl (ow_move rfl ?_))
    refine rs_op rfl (ow_on rfl (ow_add (z := 1) rfl rfl (by kernel_rfl) ?_))
    refine rs_op rfl (ow_on rfl (ow_indexSL (j := 0 + 1) (b := bAt s (0 + 1)) Tryz.underlying9 rfl rfl rfl (bAt_some (by omega)) ?_))
    refine rs_op rfl (ow_on rfl (ow_enter en190 rfl ((lower_any _ (bAt s (0 + 1)) (bAt_lt _ _)).mono ?_)))
    rintro e w3 ⟨rfl, hb⟩
    refine ⟨_, rfl, ?_⟩
    have Ec := Ext.of_below hb No
    replace E := E.trans Ec.no
    clear hb Ec
    have hx := or32_x (hs.next (by omega))
    refine rs_op rfl (ow_on rfl (ow_eql rfl rfl ?_))
    refine rs_op rfl (ow_pickT rfl rfl ?_)
    refine rs_nil ?_
    refine ew_set 54 (.bool false) rfl ((by rw [beq_no (by omega)] : (.bool (((bAt s (0 + 1) ||| 32 : Nat) : Int) == 120) : Value) = _)) ?_
    exact ew_mid () ⟨rfl, rfl, rfl, rfl, rfl, rfl, rfl, rfl, rfl, rfl, rfl, rfl, rfl, trivial⟩ ⟨M1.step E XM1, trivial⟩
   ·
    refine rs_op rfl (ow_off rfl ?_)
    refine rs_op rfl (ow_off rfl ?_)
    refine rs_op rfl (ow_off rfl ?_)
    refine rs_op rfl (ow_off rfl ?_)
    refine rs_op rfl (ow_off rfl ?_)
    refine rs_op rfl (ow_off rfl ?_)
    refine rs_op rfl (ow_pickF rfl rfl ?_)
    refine rs_nil ?_
    exact ew_mid () ⟨rfl, rfl, rfl, rfl, rfl, rfl, rfl, rfl, rfl, rfl, rfl, rfl, rfl, trivial⟩ ⟨M1.step E XM1, trivial⟩
  ·
   refine rs_op rfl (ow_off rfl ?_)
   refine rs_op rfl (ow_off rfl ?_)
   refine rs_op rfl (ow_off rfl ?_)
   refine rs_op rfl (ow_off rfl ?_)
   refine rs_op rfl (ow_pickF rfl rfl ?_)
   refine rs_op rfl (ow_move rfl ?_)
   refine rs_op rfl (ow_off rfl ?_)
   refine rs_op rfl (ow_off rfl ?_)
   refine rs_op rfl (ow_off rfl ?_)
   refine rs_op rfl (ow_off rfl ?_)
   refine rs_op rfl (ow_off rfl ?_)
   refine rs_op rfl (ow_off rfl ?_)
   refine rs_op rfl (ow_pickF rfl rfl ?_)
   refine rs_nil ?_
   exact ew_mid () ⟨rfl, rfl, rfl, rfl, rfl, rfl, rfl, rfl, rfl, rfl, rfl, rfl, rfl, trivial⟩ ⟨M1.step E XM1, trivial⟩
 ·
  rintro _ w2 ⟨M1, _⟩
  have XM1 : ∀ q9, (No) q9 → (No) q9 ∨ w.heap.size ≤ q9 := fun _ h => Or.inl h
  replace E := E.trans M1
  replace HF := HF.on E
  replace LW := LW.step E XLW
  replace E := Ext.refl (No) w2
  refine cw_else rfl ?_
  refine cw_skip ?_
  refine ew_next ?_
  refine cw_seq ?_
  refine cw_region ?_
  refine rs_op rfl (ow_assign rfl ?_)
  refine rs_nil ?_
  refine ew_next ?_
  refine cw_seq ?_
  refine cw_region ?_
  refine rs_op rfl (ow_assign rfl ?_)
  refine rs_nil ?_
  refine ew_next ?_
  refine cw_seq ?_
  refine cw_region ?_
  refine rs_op rfl (ow_assign rfl ?_)
  refine rs_nil ?_
  refine ew_next ?_
  refine cw_seq ?_
  refine cw_region ?_
  refine rs_op rfl (ow_assign rfl ?_)
  refine rs_nil ?_
  refine ew_next ?_
  refine cw_seq ?_
  refine cw_region ?_
  refine rs_op rfl (ow_assign rfl ?_)
  refine rs_nil ?_
  refine ew_next ?_
  refine cw_seq ?_
  refine cw_label ?_
  refine ew_next ?_
  refine cw_seq ?_
  replace HF := HF.on E
  replace LW := LW.step E XLW
  replace E := Ext.refl (No) w2
  refine cw_join (ι := RdS) (fun t => [(0, .string s), (2, .int .u64 ((t.m : Nat) : Int)), (3, .int .i64 0), (4, .bool false), (5, .bool t.tr), (6, .bool false), (7, .int .i64 ((t.i : Nat) : Int)), (8, .bool false), (9, .bool false), (10, .int .u64 10), (11, .int .i64 19), (12, .int .u8 101), (13, .bool t.dot), (14, .bool t.dig), (15, .int .i64 ((t.nd : Nat) : Int)), (16, .int .i64 ((t.nm : Nat) : Int)), (17, .int .i64 t.dp)]) (fun t w' => Ext (No) w2 w' ∧ (t = rdA s 0)) ?_ ?_
  ·
   have M4 := Ext.refl (No) w2
   have XM4 : ∀ q9, (No) q9 → (No) q9 ∨ w2.heap.size ≤ q9 := fun _ h => Or.inl h
   refine cw_block ?_
   replace HF := HF.on E
   replace LW := LW.step E XLW
   replace M4 := M4.step E XM4
   replace E := Ext.refl (No) w2
   refine cw_loop (ι := RdS) (fun t => [(0, .string s), (2, .int .u64 ((t.m : Nat) : Int)), (3, .int .i64 0), (4, .bool false), (5, .bool t.tr), (6, .bool false), (7, .int .i64 ((t.i : Nat) : Int)), (8, .bool false), (9, .bool false), (10, .int .u64 10), (11, .int .i64 19), (12, .int .u8 101), (13, .bool t.dot), (14, .bool t.dig), (15, .int .i64 ((t.nd : Nat) : Int)), (16, .int .i64 ((t.nm : Nat) : Int)), (17, .int .i64 t.dp)]) (fun t w' => Ext (No) w2 w' ∧ (RdN s 0 p Z q t ∧ until_ (rdDone s) (rdStep s) t = rdA s 0)) (fun t => Z - t.i) (⟨0, 0, 0, 0, 0, false, false, false⟩) ⟨rfl, rfl, rfl, rfl, rfl, rfl, rfl, rfl, rfl, rfl, rfl, rfl, rfl, rfl, rfl, rfl, rfl, trivial⟩ ⟨Ext.refl _ _, rdN_start hs, rfl⟩ ?_
   rintro t w7 ⟨M6, ⟨hI, hu⟩⟩
   have XM6 : ∀ q9, (No) q9 → (No) q9 ∨ w2.heap.size ≤ q9 := fun _ h => Or.inl h
   replace E := E.trans M6
   replace HF := HF.on E
   replace LW := LW.step E XLW
   replace M4 := M4.step E XM4
   replace E := Ext.refl (No) w7
   have hsE := hs.hE
   have hiE := hI.iE
   have hti := hI.hi
   have hnd := hI.hd
   have hdp := hI.hp
   have hm := hI.hm
   have hfi := hI.fi
   refine cw_seq ?_
   refine cw_seq ?_
   refine cw_region ?_
   refine rs_op rfl (ow_move rfl ?_)
   refine rs_op rfl (ow_move rfl ?_)
   refine rs_op rfl (ow_lenS Tryz.underlying9 rfl ?_)
   refine rs_op rfl (ow_lss rfl rfl ?_)
   refine rs_nil ?_
   refine ew_next ?_
   refine cw_cond rfl (fun h1 => ?_) (fun h1 => ?_)
   ·
    have h1 : t.i < s.size := by have h1 := of_decide_eq_true h1; omega
    refine cw_skip ?_
    refine ew_next ?_
    refine cw_seq ?_
    refine cw_block ?_
    refine cw_seq ?_
    refine cw_seq ?_
    refine cw_region ?_
    refine rs_op rfl (ow_move rfl ?_)
    refine rs_op rfl (ow_move rfl ?_)
    refine rs_op rfl (ow_indexSL (j := t.i) (b := bAt s t.i) Tryz.underlying9 rfl rfl rfl (bAt_some h1) ?_)
    by_cases hE2 : t.i < Z
    ·
     have hdone := rdN_cont hs hI hE2
     have hkeep := (rdN_keeps hs hI hdone).1
     have hu2 := hu
     rw [until_next hdone] at hu2
     have hc := hs.at_ hfi hE2
     have hb := bAt_lt s t.i
     refine rs_op rfl (ow_assign rfl ?_)
     refine rs_nil ?_
     refine ew_next ?_
     refine cw_block ?_
     refine cw_seq ?_
     refine cw_region ?_
     refine rs_op rfl (ow_move rfl ?_)
     refine rs_op rfl (ow_eql rfl rfl ?_)
     refine rs_op rfl (ow_eqlB Tryz.underlying4 rfl rfl ?_)
     refine rs_op rfl (ow_assign rfl ?_)
     refine rs_nil ?_
     refine ew_next ?_
     refine cw_set 66 (.bool false) rfl ((by rw [beq_no (by omega)]; rfl : (.bool (true == (((bAt s t.i : Nat) : Int) == 95)) : Value) = _)) ?_
     by_cases hdot : bAt s t.i = 46
     ·
      have hstep : rdStep s t = { t with i := t.i + 1, dot := true, dp := t.nd } := by unfold rdStep; rw [if_pos hdot]
      have hnodot : t.dot = false := by
       rcases hc with ⟨_, h3⟩ | ⟨h3, _⟩
       · omega
       · cases h4 : t.dot with
         | false => rfl
         | true => have := hI.dt h4; omega
      rw [hstep] at hkeep hu2
      refine cw_else rfl ?_
      refine cw_seq ?_
      refine cw_region ?_
      refine rs_op rfl (ow_move rfl ?_)
      refine rs_op rfl (ow_eql rfl rfl ?_)
      refine rs_op rfl (ow_eqlB Tryz.underlying4 rfl rfl ?_)
      refine rs_op rfl (ow_assign rfl ?_)
      refine rs_nil ?_
      refine ew_next ?_
      refine cw_set 70 (.bool true) rfl ((by rw [hdot]; rfl : (.bool (true == (((bAt s t.i : Nat) : Int) == 46)) : Value) = _)) ?_
      refine cw_then rfl ?_
      refine cw_seq ?_
      refine cw_seq ?_
      refine cw_region ?_
      refine rs_op rfl (ow_move rfl ?_)
      refine rs_nil ?_
      refine ew_next ?_
      refine cw_set 74 (.bool false) rfl ((by rw [hnodot] : (.bool t.dot : Value) = _)) ?_
      refine cw_else rfl ?_
      refine cw_skip ?_
      refine ew_next ?_
      refine cw_seq ?_
      refine cw_region ?_
      refine rs_op rfl (ow_assign rfl ?_)
      refine rs_nil ?_
      refine ew_next ?_
      refine cw_seq ?_
      refine cw_region ?_
      refine rs_op rfl (ow_move rfl ?_)
      refine rs_op rfl (ow_assign rfl ?_)
      refine rs_nil ?_
      refine ew_next ?_
      refine cw_exit ?_
      refine ew_block_past rfl ?_
      refine ew_then_exit ?_
      refine ew_block_here ?_
      refine ew_next ?_
      refine cw_region ?_
      refine rs_op rfl (ow_move rfl ?_)
      refine rs_op rfl (ow_add rfl rfl (wrap_i64 (by omega)) ?_)
      refine rs_op rfl (ow_assign rfl ?_)
      refine rs_nil ?_
      exact ew_round (ι := RdS) (s := fun t => [(0, .string s), (2, .int .u64 ((t.m : Nat) : Int)), (3, .int .i64 0), (4, .bool false), (5, .bool t.tr), (6, .bool false), (7, .int .i64 ((t.i : Nat) : Int)), (8, .bool false), (9, .bool false), (10, .int .u64 10), (11, .int .i64 19), (12, .int .u8 101), (13, .bool t.dot), (14, .bool t.dig), (15, .int .i64 ((t.nd : Nat) : Int)), (16, .int .i64 ((t.nm : Nat) : Int)), (17, .int .i64 t.dp)]) (R := fun t w' => Ext (No) w2 w' ∧ (RdN s 0 p Z q t ∧ until_ (rdDone s) (rdStep s) t = rdA s 0)) (m := fun t => Z - t.i) (i := t) ({ t with i := t.i + 1, dot := true, dp := t.nd }) (by show Z - (t.i + 1) < Z - t.i; omega) ⟨rfl, rfl, rfl, rfl, rfl, rfl, rfl, rfl, rfl, rfl, rfl, rfl, rfl, rfl, rfl, rfl, rfl, trivial⟩ ⟨M6.step E XM6, hkeep, hu2⟩
     ·
      have hc : 48 ≤ bAt s t.i ∧ bAt s t.i ≤ 57 := by omega
      refine cw_else rfl ?_
      refine cw_seq ?_
      refine cw_region ?_
      refine rs_op rfl (ow_move rfl ?_)
      refine rs_op rfl (ow_eql rfl rfl ?_)
      refine rs_op rfl (ow_eqlB Tryz.underlying4 rfl rfl ?_)
      refine rs_op rfl (ow_assign rfl ?_)
      refine rs_nil ?_
      refine ew_next ?_
      refine cw_set 70 (.bool false) rfl ((by rw [beq_no (by omega)]; rfl : (.bool (true == (((bAt s t.i : Nat) : Int) == 46)) : Value) = _)) ?_
      refine cw_else rfl ?_
      refine cw_seq ?_
      refine cw_region ?_
      refine rs_op rfl (ow_move rfl ?_)
      refine rs_op rfl (ow_leq rfl rfl ?_)
      refine rs_op rfl (ow_move rfl ?_)
      refine rs_set 79 (.bool true) rfl ((by rw [decide_eq_true (by omega)] : (.bool (decide (48 ≤ ((bAt s t.i : Nat) : Int))) : Value) = _)) ?_
      refine rs_op rfl (ow_on rfl (ow_move rfl ?_))
      refine rs_op rfl (ow_on rfl (ow_leq rfl rfl ?_))
      refine rs_op rfl (ow_pickT rfl rfl ?_)
      refine rs_op rfl (ow_eqlB Tryz.underlying4 rfl rfl ?_)
      refine rs_op rfl (ow_assign rfl ?_)
      refine rs_nil ?_
      refine ew_next ?_
      refine cw_set 76 (.bool true) rfl ((by rw [decide_eq_true (by omega)]; rfl : (.bool (true == (decide (((bAt s t.i : Nat) : Int) ≤ 57))) : Value) = _)) ?_
      refine cw_then rfl ?_
      refine cw_seq ?_
      refine cw_region ?_
      refine rs_op rfl (ow_assign rfl ?_)
      refine rs_nil ?_
      refine ew_next ?_
      refine cw_seq ?_
      refine cw_seq ?_
      refine cw_region ?_
      refine rs_op rfl (ow_move rfl ?_)
      refine rs_op rfl (ow_eql rfl rfl ?_)
      refine rs_op rfl (ow_move rfl ?_)
      refine rs_split 86 rfl (fun h3 => ?_) (fun h3 => ?_)
      ·
       have h3 : bAt s t.i = 48 := by have h3 := eq_of_beq h3; omega
       refine rs_op rfl (ow_on rfl (ow_move rfl ?_))
       refine rs_op rfl (ow_on rfl (ow_eql rfl rfl ?_))
       refine rs_op rfl (ow_pickT rfl rfl ?_)
       refine rs_nil ?_
       refine ew_next ?_
       refine cw_cond rfl (fun h4 => ?_) (fun h4 => ?_)
       ·
        have h4 : t.nd = 0 := by have h4 := eq_of_beq h4; omega
        have hstep : rdStep s t = { t with i := t.i + 1, dig := true, dp := t.dp - 1 } := by unfold rdStep; rw [if_neg hdot, if_pos ⟨h3, h4⟩]
        rw [hstep] at hkeep hu2
        refine cw_seq ?_
        refine cw_region ?_
        refine rs_op rfl (ow_move rfl ?_)
        refine rs_op rfl (ow_sub rfl rfl (wrap_i64 (by omega)) ?_)
        refine rs_op rfl (ow_assign rfl ?_)
        refine rs_nil ?_
        refine ew_next ?_
        refine cw_exit ?_
        refine ew_then_exit ?_
        refine ew_block_past rfl ?_
        refine ew_then_exit ?_
        refine ew_block_here ?_
        refine ew_next ?_
        refine cw_region ?_
        refine rs_op rfl (ow_move rfl ?_)
        refine rs_op rfl (ow_add rfl rfl (wrap_i64 (by omega)) ?_)
        refine rs_op rfl (ow_assign rfl ?_)
        refine rs_nil ?_
        exact ew_round (ι := RdS) (s := fun t => [(0, .string s), (2, .int .u64 ((t.m : Nat) : Int)), (3, .int .i64 0), (4, .bool false), (5, .bool t.tr), (6, .bool false), (7, .int .i64 ((t.i : Nat) : Int)), (8, .bool false), (9, .bool false), (10, .int .u64 10), (11, .int .i64 19), (12, .int .u8 101), (13, .bool t.dot), (14, .bool t.dig), (15, .int .i64 ((t.nd : Nat) : Int)), (16, .int .i64 ((t.nm : Nat) : Int)), (17, .int .i64 t.dp)]) (R := fun t w' => Ext (No) w2 w' ∧ (RdN s 0 p Z q t ∧ until_ (rdDone s) (rdStep s) t = rdA s 0)) (m := fun t => Z - t.i) (i := t) ({ t with i := t.i + 1, dig := true, dp := t.dp - 1 }) (by show Z - (t.i + 1) < Z - t.i; omega) ⟨rfl, rfl, rfl, rfl, rfl, rfl, rfl, rfl, rfl, rfl, rfl, rfl, rfl, rfl, rfl, rfl, rfl, trivial⟩ ⟨M6.step E XM6, hkeep, hu2⟩
       ·
        have hnz : ¬ (bAt s t.i = 48 ∧ t.nd = 0) := fun h => absurd h4 (by rw [h.2]; decide)
        refine cw_skip ?_
        refine ew_next ?_
        refine cw_seq ?_
        refine cw_region ?_
        refine rs_op rfl (ow_move rfl ?_)
        refine rs_op rfl (ow_add rfl rfl (wrap_i64 (by omega)) ?_)
        refine rs_op rfl (ow_assign rfl ?_)
        refine rs_nil ?_
        refine ew_next ?_
        refine cw_seq ?_
        refine cw_seq ?_
        refine cw_region ?_
        refine rs_op rfl (ow_move rfl ?_)
        refine rs_op rfl (ow_move rfl ?_)
        refine rs_op rfl (ow_lss rfl rfl ?_)
        refine rs_nil ?_
        refine ew_next ?_
        refine cw_cond rfl (fun h5 => ?_) (fun h5 => ?_)
        ·
         have h5 : t.nm < 19 := by have h5 := of_decide_eq_true h5; omega
         have hm18 := m_lt hm h5
         have hstep : rdStep s t = { t with i := t.i + 1, dig := true, nd := t.nd + 1, nm := t.nm + 1, m := t.m * 10 + (bAt s t.i - 48) } := by unfold rdStep; rw [if_neg hdot, if_neg hnz, if_pos h5]
         rw [hstep] at hkeep hu2
         refine cw_seq ?_
         refine cw_region ?_
         refine rs_op rfl (ow_move rfl ?_)
         refine rs_op rfl (ow_move rfl ?_)
         refine rs_op rfl (ow_mul rfl rfl (wrap_u64 (by omega)) ?_)
         refine rs_op rfl (ow_assign rfl ?_)
         refine rs_nil ?_
         refine ew_next ?_
         refine cw_seq ?_
         refine cw_region ?_
         refine rs_op rfl (ow_move rfl ?_)
         refine rs_op rfl (ow_move rfl ?_)
         refine rs_op rfl (ow_sub rfl rfl (wrap_u8 (by omega)) ?_)
         refine rs_op rfl (ow_conv Tryz.underlying32 Tryz.underlying5 rfl (wrap_u64 (by omega)) ?_)
         refine rs_op rfl (ow_add rfl rfl (wrap_u64 (by omega)) ?_)
         refine rs_op rfl (ow_assign rfl ?_)
         refine rs_nil ?_
         refine ew_next ?_
         refine cw_region ?_
         refine rs_op rfl (ow_move rfl ?_)
         refine rs_op rfl (ow_add rfl rfl (wrap_i64 (by omega)) ?_)
         refine rs_op rfl (ow_assign rfl ?_)
         refine rs_nil ?_
         refine ew_next ?_
         refine cw_exit ?_
         refine ew_block_past rfl ?_
         refine ew_then_exit ?_
         refine ew_block_here ?_
         refine ew_next ?_
         refine cw_region ?_
         refine rs_op rfl (ow_move rfl ?_)
         refine rs_op rfl (ow_add rfl rfl (wrap_i64 (by omega)) ?_)
         refine rs_op rfl (ow_assign rfl ?_)
         refine rs_nil ?_
         refine ew_set 2 (.int .u64 ((t.m * 10 + (bAt s t.i - 48) : Nat) : Int)) rfl ((by congr 1; omega : (.int .u64 ((((t.m : Nat) : Int) * 10) + (((bAt s t.i : Nat) : Int) - 48)) : Value) = _)) ?_
         exact ew_round (ι := RdS) (s := fun t => [(0, .string s), (2, .int .u64 ((t.m : Nat) : Int)), (3, .int .i64 0), (4, .bool false), (5, .bool t.tr), (6, .bool false), (7, .int .i64 ((t.i : Nat) : Int)), (8, .bool false), (9, .bool false), (10, .int .u64 10), (11, .int .i64 19), (12, .int .u8 101), (13, .bool t.dot), (14, .bool t.dig), (15, .int .i64 ((t.nd : Nat) : Int)), (16, .int .i64 ((t.nm : Nat) : Int)), (17, .int .i64 t.dp)]) (R := fun t w' => Ext (No) w2 w' ∧ (RdN s 0 p Z q t ∧ until_ (rdDone s) (rdStep s) t = rdA s 0)) (m := fun t => Z - t.i) (i := t) ({ t with i := t.i + 1, dig := true, nd := t.nd + 1, nm := t.nm + 1, m := t.m * 10 + (bAt s t.i - 48) }) (by show Z - (t.i + 1) < Z - t.i; omega) ⟨rfl, rfl, rfl, rfl, rfl, rfl, rfl, rfl, rfl, rfl, rfl, rfl, rfl, rfl, rfl, rfl, rfl, trivial⟩ ⟨M6.step E XM6, hkeep, hu2⟩
        ·
         have h5 : ¬ t.nm < 19 := by have h5 := of_decide_eq_false h5; omega
         have hstep : rdStep s t = { t with i := t.i + 1, dig := true, nd := t.nd + 1, tr := t.tr || decide (bAt s t.i ≠ 48) } := by unfold rdStep; rw [if_neg hdot, if_neg hnz, if_neg h5]
         rw [hstep] at hkeep hu2
         refine cw_seq ?_
         refine cw_region ?_
         refine rs_op rfl (ow_move rfl ?_)
         refine rs_op rfl (ow_neq rfl rfl ?_)
         refine rs_nil ?_
         refine ew_next ?_
         refine cw_cond rfl (fun h6 => ?_) (fun h6 => ?_)
         ·
          have h6 : bAt s t.i ≠ 48 := fun e => absurd h6 (by rw [e]; decide)
          refine cw_region ?_
          refine rs_op rfl (ow_assign rfl ?_)
          refine rs_nil ?_
          refine ew_next ?_
          refine cw_exit ?_
          refine ew_block_past rfl ?_
          refine ew_then_exit ?_
          refine ew_block_here ?_
          refine ew_next ?_
          refine cw_region ?_
          refine rs_op rfl (ow_move rfl ?_)
          refine rs_op rfl (ow_add rfl rfl (wrap_i64 (by omega)) ?_)
          refine rs_op rfl (ow_assign rfl ?_)
          refine rs_nil ?_
          refine ew_set 5 (.bool (t.tr || decide (bAt s t.i ≠ 48))) rfl ((by rw [decide_eq_true h6, Bool.or_true] : (.bool true : Value) = _)) ?_
          exact ew_round (ι := RdS) (s := fun t => [(0, .string s), (2, .int .u64 ((t.m : Nat) : Int)), (3, .int .i64 0), (4, .bool false), (5, .bool t.tr), (6, .bool false), (7, .int .i64 ((t.i : Nat) : Int)), (8, .bool false), (9, .bool false), (10, .int .u64 10), (11, .int .i64 19), (12, .int .u8 101), (13, .bool t.dot), (14, .bool t.dig), (15, .int .i64 ((t.nd : Nat) : Int)), (16, .int .i64 ((t.nm : Nat) : Int)), (17, .int .i64 t.dp)]) (R := fun t w' => Ext (No) w2 w' ∧ (RdN s 0 p Z q t ∧ until_ (rdDone s) (rdStep s) t = rdA s 0)) (m := fun t => Z - t.i) (i := t) ({ t with i := t.i + 1, dig := true, nd := t.nd + 1, tr := t.tr || decide (bAt s t.i ≠ 48) }) (by show Z - (t.i + 1) < Z - t.i; omega) ⟨rfl, rfl, rfl, rfl, rfl, rfl, rfl, rfl, rfl, rfl, rfl, rfl, rfl, rfl, rfl, rfl, rfl, trivial⟩ ⟨M6.step E XM6, hkeep, hu2⟩
         ·
          have h6 : bAt s t.i = 48 := by
           rcases Nat.decEq (bAt s t.i) 48 with h7 | h7
           · rw [bne_iff_ne.2 (by omega)] at h6; cases h6
           · exact h7
          refine cw_skip ?_
          refine ew_next ?_
          refine cw_exit ?_
          refine ew_block_past rfl ?_
          refine ew_then_exit ?_
          refine ew_block_here ?_
          refine ew_next ?_
          refine cw_region ?_
          refine rs_op rfl (ow_move rfl ?_)
          refine rs_op rfl (ow_add rfl rfl (wrap_i64 (by omega)) ?_)
          refine rs_op rfl (ow_assign rfl ?_)
          refine rs_nil ?_
          refine ew_set 5 (.bool (t.tr || decide (bAt s t.i ≠ 48))) rfl ((by rw [decide_eq_false (fun h => h h6), Bool.or_false] : (.bool t.tr : Value) = _)) ?_
          exact ew_round (ι := RdS) (s := fun t => [(0, .string s), (2, .int .u64 ((t.m : Nat) : Int)), (3, .int .i64 0), (4, .bool false), (5, .bool t.tr), (6, .bool false), (7, .int .i64 ((t.i : Nat) : Int)), (8, .bool false), (9, .bool false), (10, .int .u64 10), (11, .int .i64 19), (12, .int .u8 101), (13, .bool t.dot), (14, .bool t.dig), (15, .int .i64 ((t.nd : Nat) : Int)), (16, .int .i64 ((t.nm : Nat) : Int)), (17, .int .i64 t.dp)]) (R := fun t w' => Ext (No) w2 w' ∧ (RdN s 0 p Z q t ∧ until_ (rdDone s) (rdStep s) t = rdA s 0)) (m := fun t => Z - t.i) (i := t) ({ t with i := t.i + 1, dig := true, nd := t.nd + 1, tr := t.tr || decide (bAt s t.i ≠ 48) }) (by show Z - (t.i + 1) < Z - t.i; omega) ⟨rfl, rfl, rfl, rfl, rfl, rfl, rfl, rfl, rfl, rfl, rfl, rfl, rfl, rfl, rfl, rfl, rfl, trivial⟩ ⟨M6.step E XM6, hkeep, hu2⟩
      ·
       have hnz : ¬ (bAt s t.i = 48 ∧ t.nd = 0) := fun h => absurd h3 (by rw [h.1]; decide)
       refine rs_op rfl (ow_off rfl ?_)
       refine rs_op rfl (ow_off rfl ?_)
       refine rs_op rfl (ow_pickF rfl rfl ?_)
       refine rs_nil ?_
       refine ew_next ?_
       refine cw_else rfl ?_
       refine cw_skip ?_
       refine ew_next ?_
       refine cw_seq ?_
       refine cw_region ?_
       refine rs_op rfl (ow_move rfl ?_)
       refine rs_op rfl (ow_add rfl rfl (wrap_i64 (by omega)) ?_)
       refine rs_op rfl (ow_assign rfl ?_)
       refine rs_nil ?_
       refine ew_next ?_
       refine cw_seq ?_
       refine cw_seq ?_
       refine cw_region ?_
       refine rs_op rfl (ow_move rfl ?_)
       refine rs_op rfl (ow_move rfl ?_)
       refine rs_op rfl (ow_lss rfl rfl ?_)
       refine rs_nil ?_
       refine ew_next ?_
       refine cw_cond rfl (fun h5 => ?_) (fun h5 => ?_)
       ·
        have h5 : t.nm < 19 := by have h5 := of_decide_eq_true h5; omega
        have hm18 := m_lt hm h5
        have hstep : rdStep s t = { t with i := t.i + 1, dig := true, nd := t.nd + 1, nm := t.nm + 1, m := t.m * 10 + (bAt s t.i - 48) } := by unfold rdStep; rw [if_neg hdot, if_neg hnz, if_pos h5]
        rw [hstep] at hkeep hu2
        refine cw_seq ?_
        refine cw_region ?_
        refine rs_op rfl (ow_move rfl ?_)
        refine rs_op rfl (ow_move rfl ?_)
        refine rs_op rfl (ow_mul rfl rfl (wrap_u64 (by omega)) ?_)
        refine rs_op rfl (ow_assign rfl ?_)
        refine rs_nil ?_
        refine ew_next ?_
        refine cw_seq ?_
        refine cw_region ?_
        refine rs_op rfl (ow_move rfl ?_)
        refine rs_op rfl (ow_move rfl ?_)
        refine rs_op rfl (ow_sub rfl rfl (wrap_u8 (by omega)) ?_)
        refine rs_op rfl (ow_conv Tryz.underlying32 Tryz.underlying5 rfl (wrap_u64 (by omega)) ?_)
        refine rs_op rfl (ow_add rfl rfl (wrap_u64 (by omega)) ?_)
        refine rs_op rfl (ow_assign rfl ?_)
        refine rs_nil ?_
        refine ew_next ?_
        refine cw_region ?_
        refine rs_op rfl (ow_move rfl ?_)
        refine rs_op rfl (ow_add rfl rfl (wrap_i64 (by omega)) ?_)
        refine rs_op rfl (ow_assign rfl ?_)
        refine rs_nil ?_
        refine ew_next ?_
        refine cw_exit ?_
        refine ew_block_past rfl ?_
        refine ew_then_exit ?_
        refine ew_block_here ?_
        refine ew_next ?_
        refine cw_region ?_
        refine rs_op rfl (ow_move rfl ?_)
        refine rs_op rfl (ow_add rfl rfl (wrap_i64 (by omega)) ?_)
        refine rs_op rfl (ow_assign rfl ?_)
        refine rs_nil ?_
        refine ew_set 2 (.int .u64 ((t.m * 10 + (bAt s t.i - 48) : Nat) : Int)) rfl ((by congr 1; omega : (.int .u64 ((((t.m : Nat) : Int) * 10) + (((bAt s t.i : Nat) : Int) - 48)) : Value) = _)) ?_
        exact ew_round (ι := RdS) (s := fun t => [(0, .string s), (2, .int .u64 ((t.m : Nat) : Int)), (3, .int .i64 0), (4, .bool false), (5, .bool t.tr), (6, .bool false), (7, .int .i64 ((t.i : Nat) : Int)), (8, .bool false), (9, .bool false), (10, .int .u64 10), (11, .int .i64 19), (12, .int .u8 101), (13, .bool t.dot), (14, .bool t.dig), (15, .int .i64 ((t.nd : Nat) : Int)), (16, .int .i64 ((t.nm : Nat) : Int)), (17, .int .i64 t.dp)]) (R := fun t w' => Ext (No) w2 w' ∧ (RdN s 0 p Z q t ∧ until_ (rdDone s) (rdStep s) t = rdA s 0)) (m := fun t => Z - t.i) (i := t) ({ t with i := t.i + 1, dig := true, nd := t.nd + 1, nm := t.nm + 1, m := t.m * 10 + (bAt s t.i - 48) }) (by show Z - (t.i + 1) < Z - t.i; omega) ⟨rfl, rfl, rfl, rfl, rfl, rfl, rfl, rfl, rfl, rfl, rfl, rfl, rfl, rfl, rfl, rfl, rfl, trivial⟩ ⟨M6.step E XM6, hkeep, hu2⟩
       ·
        have h5 : ¬ t.nm < 19 := by have h5 := of_decide_eq_false h5; omega
        have hstep : rdStep s t = { t with i := t.i + 1, dig := true, nd := t.nd + 1, tr := t.tr || decide (bAt s t.i ≠ 48) } := by unfold rdStep; rw [if_neg hdot, if_neg hnz, if_neg h5]
        rw [hstep] at hkeep hu2
        refine cw_seq ?_
        refine cw_region ?_
        refine rs_op rfl (ow_move rfl ?_)
        refine rs_op rfl (ow_neq rfl rfl ?_)
        refine rs_nil ?_
        refine ew_next ?_
        refine cw_cond rfl (fun h6 => ?_) (fun h6 => ?_)
        ·
         have h6 : bAt s t.i ≠ 48 := fun e => absurd h6 (by rw [e]; decide)
         refine cw_region ?_
         refine rs_op rfl (ow_assign rfl ?_)
         refine rs_nil ?_
         refine ew_next ?_
         refine cw_exit ?_
         refine ew_block_past rfl ?_
         refine ew_then_exit ?_
         refine ew_block_here ?_
         refine ew_next ?_
         refine cw_region ?_
         refine rs_op rfl (ow_move rfl ?_)
         refine rs_op rfl (ow_add rfl rfl (wrap_i64 (by omega)) ?_)
         refine rs_op rfl (ow_assign rfl ?_)
         refine rs_nil ?_
         refine ew_set 5 (.bool (t.tr || decide (bAt s t.i ≠ 48))) rfl ((by rw [decide_eq_true h6, Bool.or_true] : (.bool true : Value) = _)) ?_
         exact ew_round (ι := RdS) (s := fun t => [(0, .string s), (2, .int .u64 ((t.m : Nat) : Int)), (3, .int .i64 0), (4, .bool false), (5, .bool t.tr), (6, .bool false), (7, .int .i64 ((t.i : Nat) : Int)), (8, .bool false), (9, .bool false), (10, .int .u64 10), (11, .int .i64 19), (12, .int .u8 101), (13, .bool t.dot), (14, .bool t.dig), (15, .int .i64 ((t.nd : Nat) : Int)), (16, .int .i64 ((t.nm : Nat) : Int)), (17, .int .i64 t.dp)]) (R := fun t w' => Ext (No) w2 w' ∧ (RdN s 0 p Z q t ∧ until_ (rdDone s) (rdStep s) t = rdA s 0)) (m := fun t => Z - t.i) (i := t) ({ t with i := t.i + 1, dig := true, nd := t.nd + 1, tr := t.tr || decide (bAt s t.i ≠ 48) }) (by show Z - (t.i + 1) < Z - t.i; omega) ⟨rfl, rfl, rfl, rfl, rfl, rfl, rfl, rfl, rfl, rfl, rfl, rfl, rfl, rfl, rfl, rfl, rfl, trivial⟩ ⟨M6.step E XM6, hkeep, hu2⟩
        ·
         have h6 : bAt s t.i = 48 := by
          rcases Nat.decEq (bAt s t.i) 48 with h7 | h7
          · rw [bne_iff_ne.2 (by omega)] at h6; cases h6
          · exact h7
         refine cw_skip ?_
         refine ew_next ?_
         refine cw_exit ?_
         refine ew_block_past rfl ?_
         refine ew_then_exit ?_
         refine ew_block_here ?_
         refine ew_next ?_
         refine cw_region ?_
         refine rs_op rfl (ow_move rfl ?_)
         refine rs_op rfl (ow_add rfl rfl (wrap_i64 (by omega)) ?_)
         refine rs_op rfl (ow_assign rfl ?_)
         refine rs_nil ?_
         refine ew_set 5 (.bool (t.tr || decide (bAt s t.i ≠ 48))) rfl ((by rw [decide_eq_false (fun h => h h6), Bool.or_false] : (.bool t.tr : Value) = _)) ?_
         exact ew_round (ι := RdS) (s := fun t => [(0, .string s), (2, .int .u64 ((t.m : Nat) : Int)), (3, .int .i64 0), (4, .bool false), (5, .bool t.tr), (6, .bool false), (7, .int .i64 ((t.i : Nat) : Int)), (8, .bool false), (9, .bool false), (10, .int .u64 10), (11, .int .i64 19), (12, .int .u8 101), (13, .bool t.dot), (14, .bool t.dig), (15, .int .i64 ((t.nd : Nat) : Int)), (16, .int .i64 ((t.nm : Nat) : Int)), (17, .int .i64 t.dp)]) (R := fun t w' => Ext (No) w2 w' ∧ (RdN s 0 p Z q t ∧ until_ (rdDone s) (rdStep s) t = rdA s 0)) (m := fun t => Z - t.i) (i := t) ({ t with i := t.i + 1, dig := true, nd := t.nd + 1, tr := t.tr || decide (bAt s t.i ≠ 48) }) (by show Z - (t.i + 1) < Z - t.i; omega) ⟨rfl, rfl, rfl, rfl, rfl, rfl, rfl, rfl, rfl, rfl, rfl, rfl, rfl, rfl, rfl, rfl, rfl, trivial⟩ ⟨M6.step E XM6, hkeep, hu2⟩
    ·
     have hdone : rdDone s t = true := by
      have e : t.i = Z := by omega
      unfold rdDone
      rw [Bool.or_eq_true]
      right
      rw [e, (hs.exp (by omega)).1]
      rfl
     have hb : bAt s t.i = 101 := by
      have e : t.i = Z := by omega
      rw [e]; exact (hs.exp (by omega)).1
     rw [until_stop hdone] at hu
     refine rs_op rfl (ow_assign rfl ?_)
     refine rs_nil ?_
     refine ew_next ?_
     refine cw_block ?_
     refine cw_seq ?_
     refine cw_region ?_
     refine rs_op rfl (ow_move rfl ?_)
     refine rs_op rfl (ow_eql rfl rfl ?_)
     refine rs_op rfl (ow_eqlB Tryz.underlying4 rfl rfl ?_)
     refine rs_op rfl (ow_assign rfl ?_)
     refine rs_nil ?_
     refine ew_next ?_
     refine cw_set 66 (.bool false) rfl ((by rw [hb]; rfl : (.bool (true == (((bAt s t.i : Nat) : Int) == 95)) : Value) = _)) ?_
     refine cw_else rfl ?_
     refine cw_seq ?_
     refine cw_region ?_
     refine rs_op rfl (ow_move rfl ?_)
     refine rs_op rfl (ow_eql rfl rfl ?_)
     refine rs_op rfl (ow_eqlB Tryz.underlying4 rfl rfl ?_)
     refine rs_op rfl (ow_assign rfl ?_)
     refine rs_nil ?_
     refine ew_next ?_
     refine cw_set 70 (.bool false) rfl ((by rw [hb]; rfl : (.bool (true == (((bAt s t.i : Nat) : Int) == 46)) : Value) = _)) ?_
     refine cw_else rfl ?_
     refine cw_seq ?_
     refine cw_region ?_
     refine rs_op rfl (ow_move rfl ?_)
     refine rs_op rfl (ow_leq rfl rfl ?_)
     refine rs_op rfl (ow_move rfl ?_)
     refine rs_set 79 (.bool true) rfl ((by rw [hb]; rfl : (.bool (decide (48 ≤ ((bAt s t.i : Nat) : Int))) : Value) = _)) ?_
     refine rs_op rfl (ow_on rfl (ow_move rfl ?_))
     refine rs_op rfl (ow_on rfl (ow_leq rfl rfl ?_))
     refine rs_op rfl (ow_pickT rfl rfl ?_)
     refine rs_op rfl (ow_eqlB Tryz.underlying4 rfl rfl ?_)
     refine rs_op rfl (ow_assign rfl ?_)
     refine rs_nil ?_
     refine ew_next ?_
     refine cw_set 76 (.bool false) rfl ((by rw [hb]; rfl : (.bool (true == (decide (((bAt s t.i : Nat) : Int) ≤ 57))) : Value) = _)) ?_
     refine cw_else rfl ?_
     refine cw_seq ?_
     refine cw_region ?_
     refine rs_op rfl (ow_move rfl ?_)
     refine rs_op rfl (ow_eql rfl rfl ?_)
     refine rs_op rfl (ow_move rfl ?_)
     refine rs_op rfl (ow_off rfl ?_)
     refine rs_op rfl (ow_off rfl ?_)
     refine rs_op rfl (ow_off rfl ?_)
     refine rs_op rfl (ow_pickF rfl rfl ?_)
     refine rs_op rfl (ow_move rfl ?_)
     refine rs_op rfl (ow_off rfl ?_)
     refine rs_op rfl (ow_off rfl ?_)
     refine rs_op rfl (ow_off rfl ?_)
     refine rs_op rfl (ow_pickF rfl rfl ?_)
     refine rs_op rfl (ow_eqlB Tryz.underlying4 rfl rfl ?_)
     refine rs_op rfl (ow_assign rfl ?_)
     refine rs_nil ?_
     refine ew_next ?_
     refine cw_else rfl ?_
     refine cw_skip ?_
     refine ew_block_normal ?_
     refine ew_next ?_
     refine cw_exit ?_
     refine ew_block_past rfl ?_
     refine ew_then_exit ?_
     refine ew_then_exit ?_
     refine ew_block_here ?_
     exact ew_mid t ⟨rfl, rfl, rfl, rfl, rfl, rfl, rfl, rfl, rfl, rfl, rfl, rfl, rfl, rfl, rfl, rfl, rfl, trivial⟩ ⟨M4.step E XM4, hu⟩
   ·
    have h1 : ¬ t.i < s.size := by have h1 := of_decide_eq_false h1; omega
    have hdone : rdDone s t = true := by
     unfold rdDone
     rw [decide_eq_true (by omega)]; rfl
    rw [until_stop hdone] at hu
    refine cw_exit ?_
    refine ew_then_exit ?_
    refine ew_then_exit ?_
    refine ew_block_here ?_
    exact ew_mid t ⟨rfl, rfl, rfl, rfl, rfl, rfl, rfl, rfl, rfl, rfl, rfl, rfl, rfl, rfl, rfl, rfl, rfl, trivial⟩ ⟨M4.step E XM4, hu⟩
  ·
   rintro t w5 ⟨M4, ht⟩
   have XM4 : ∀ q9, (No) q9 → (No) q9 ∨ w2.heap.size ≤ q9 := fun _ h => Or.inl h
   replace E := E.trans M4
   replace HF := HF.on E
   replace LW := LW.step E XLW
   replace E := Ext.refl (No) w5
   obtain ⟨hR, hRi⟩ := rdA_ends hs
   rw [← ht] at hR hRi
   have e1 : rdM s 0 = t.m := by unfold rdM; rw [ht]
   have e3 : rdT s 0 = t.tr := by unfold rdT; rw [ht]
   have hfp := hs.fp
   have hpE := hs.pE
   have hsE := hs.hE
   have hdig : t.dig = true := hR.dg (by omega)
   have hnd := hR.hd
   have hdp := hR.hp
   have hnm := hR.hn
   have hti := hR.hi
   refine cw_seq ?_
   refine cw_seq ?_
   refine cw_region ?_
   refine rs_op rfl (ow_move rfl ?_)
   refine rs_op rfl (ow_not rfl ?_)
   refine rs_nil ?_
   refine ew_next ?_
   refine cw_set 140 (.bool false) rfl ((by rw [hdig]; rfl : (.bool (!t.dig) : Value) = _)) ?_
   refine cw_else rfl ?_
   refine cw_skip ?_
   refine ew_next ?_
   refine cw_seq ?_
   refine cw_seq ?_
   refine cw_region ?_
   refine rs_op rfl (ow_move rfl ?_)
   refine rs_op rfl (ow_not rfl ?_)
   refine rs_nil ?_
   refine ew_next ?_
   replace HF := HF.on E
   replace LW := LW.step E XLW
   replace E := Ext.refl (No) w5
   refine cw_join (ι := Int) (fun d2 => [(0, .string s), (2, .int .u64 ((t.m : Nat) : Int)), (3, .int .i64 0), (4, .bool false), (5, .bool t.tr), (6, .bool false), (7, .int .i64 ((t.i : Nat) : Int)), (8, .bool false), (9, .bool false), (10, .int .u64 10), (12, .int .u8 101), (16, .int .i64 ((t.nm : Nat) : Int)), (17, .int .i64 d2)]) (fun d2 w' => Ext (No) w5 w' ∧ (d2 = (if t.dot then t.dp else ((t.nd : Nat) : Int)))) ?_ ?_
   ·
    have M8 := Ext.refl (No) w5
    have XM8 : ∀ q9, (No) q9 → (No) q9 ∨ w5.heap.size ≤ q9 := fun _ h => Or.inl h
    by_cases hdd : t.dot = true
    ·
     refine cw_set 142 (.bool false) rfl ((by rw [hdd]; rfl : (.bool (!t.dot) : Value) = _)) ?_
     refine cw_else rfl ?_
     refine cw_skip ?_
     exact ew_mid t.dp ⟨rfl, rfl, rfl, rfl, rfl, rfl, rfl, rfl, rfl, rfl, rfl, rfl, rfl, trivial⟩ ⟨M8.step E XM8, by rw [hdd, if_pos rfl]⟩
    ·
     refine cw_set 142 (.bool true) rfl ((by rw [Bool.eq_false_iff.2 hdd]; rfl : (.bool (!t.dot) : Value) = _)) ?_
     refine cw_then rfl ?_
     refine cw_region ?_
     refine rs_op rfl (ow_move rfl ?_)
     refine rs_op rfl (ow_assign rfl ?_)
     refine rs_nil ?_
     exact ew_mid ((t.nd : Nat) : Int) ⟨rfl, rfl, rfl, rfl, rfl, rfl, rfl, rfl, rfl, rfl, rfl, rfl, rfl, trivial⟩ ⟨M8.step E XM8, by rw [if_neg hdd]⟩
   ·
    rintro d2 w9 ⟨M8, hd2⟩
    have XM8 : ∀ q9, (No) q9 → (No) q9 ∨ w5.heap.size ≤ q9 := fun _ h => Or.inl h
    replace E := E.trans M8
    replace HF := HF.on E
    replace LW := LW.step E XLW
    replace E := Ext.refl (No) w9
    have hb2 : -100000 ≤ d2 ∧ d2 ≤ 100000 := by rw [hd2]; split <;> omega
    have hP0 : rdP s 0 = d2 + expo s Z := by unfold rdP; rw [← ht, hRi, hd2]
    by_cases he : Z < s.size
    ·
     obtain ⟨hx1, hx2, hx3, hx4⟩ := hs.exp he
     have hb : bAt s t.i = 101 := by rw [hRi]; exact hx1
     refine cw_seq ?_
     refine cw_seq ?_
     refine cw_region ?_
     refine rs_op rfl (ow_move rfl ?_)
     refine rs_op rfl (ow_eql rfl rfl ?_)
     refine rs_nil ?_
     refine ew_next ?_
     refine cw_else rfl ?_
     refine cw_skip ?_
     refine ew_next ?_
     refine cw_seq ?_
     refine cw_seq ?_
     refine cw_region ?_
     refine rs_op rfl (ow_move rfl ?_)
     refine rs_op rfl (ow_move rfl ?_)
     refine rs_op rfl (ow_lenS Tryz.underlying9 rfl ?_)
     refine rs_op rfl (ow_lss rfl rfl ?_)
     refine rs_op rfl (ow_move rfl ?_)
     refine rs_set 154 (.bool true) rfl ((by rw [decide_eq_true (by omega)] : (.bool (decide (((t.i : Nat) : Int) < ((s.size : Nat) : Int))) : Value) = _)) ?_
     refine rs_op rfl (ow_on rfl (ow_move rfl ?_))
     refine rs_op rfl (ow_on rfl (ow_move rfl ?_))
     refine rs_op rfl (ow_on rfl (ow_indexSL (j := t.i) (b := bAt s t.i) Tryz.underlying9 rfl rfl rfl (bAt_some (by omega)) ?_))
     refine rs_set 157 (.int .u8 101) rfl ((by rw [hb]; rfl : (.int .u8 ((bAt s t.i : Nat) : Int) : Value) = _)) ?_
     refine rs_op rfl (ow_on rfl (ow_enter en190 rfl ((pr2190_1 _).mono ?_)))
     rintro e w10 ⟨rfl, hb⟩
     refine ⟨_, rfl, ?_⟩
     have Ec := Ext.of_below hb No
     replace E := E.trans Ec.no
     clear hb Ec
     refine rs_op rfl (ow_on rfl (ow_move rfl ?_))
     refine rs_op rfl (ow_on rfl (ow_eql rfl rfl ?_))
     refine rs_op rfl (ow_pickT rfl rfl ?_)
     refine rs_nil ?_
     refine ew_next ?_
     refine cw_then rfl ?_
     refine cw_seq ?_
     refine cw_region ?_
     refine rs_op rfl (ow_move rfl ?_)
     refine rs_op rfl (ow_add rfl rfl (wrap_i64 (by omega)) ?_)
     refine rs_op rfl (ow_assign rfl ?_)
     refine rs_nil ?_
     refine ew_next ?_
     refine cw_seq ?_
     refine cw_seq ?_
     refine cw_region ?_
     refine rs_op rfl (ow_move rfl ?_)
     refine rs_op rfl (ow_move rfl ?_)
     refine rs_op rfl (ow_lenS Tryz.underlying9 rfl ?_)
     refine rs_op rfl (ow_geq rfl rfl ?_)
     refine rs_nil ?_
     refine ew_next ?_
     refine cw_set 167 (.bool false) rfl ((by rw [decide_eq_false (by omega)] : (.bool (decide (((s.size : Nat) : Int) ≤ (((t.i : Nat) : Int) + 1))) : Value) = _)) ?_
     refine cw_else rfl ?_
     refine cw_skip ?_
     refine ew_next ?_
     refine cw_seq ?_
     refine cw_region ?_
     refine rs_op rfl (ow_assign rfl ?_)
     refine rs_nil ?_
     refine ew_next ?_
     refine cw_seq ?_
     refine cw_seq ?_
     refine cw_region ?_
     refine rs_op rfl (ow_move rfl ?_)
     refine rs_op rfl (ow_move rfl ?_)
     refine rs_op rfl (ow_indexSL (j := t.i + 1) (b := bAt s (t.i + 1)) Tryz.underlying9 rfl rfl rfl (bAt_some (by omega)) ?_)
     rw [← hRi] at hx2
     refine rs_nil ?_
     refine ew_next ?_
     replace HF := HF.on E
     replace LW := LW.step E XLW
     replace E := Ext.refl (No) w10
     refine cw_join (ι := Nat × Int) (fun (k, g) => [(0, .string s), (2, .int .u64 ((t.m : Nat) : Int)), (3, .int .i64 0), (4, .bool false), (5, .bool t.tr), (6, .bool false), (7, .int .i64 ((k : Nat) : Int)), (8, .bool false), (9, .bool false), (16, .int .i64 ((t.nm : Nat) : Int)), (17, .int .i64 d2), (19, .int .i64 g)]) (fun (k, g) w' => Ext (No) w10 w' ∧ (k = q ∧ g = (if bAt s (t.i + 1) = 45 then -1 else 1))) ?_ ?_
     ·
      have M11 := Ext.refl (No) w10
      have XM11 : ∀ q9, (No) q9 → (No) q9 ∨ w10.heap.size ≤ q9 := fun _ h => Or.inl h
      refine cw_block ?_
      refine cw_seq ?_
      refine cw_region ?_
      refine rs_op rfl (ow_eql rfl rfl ?_)
      refine rs_op rfl (ow_assign rfl ?_)
      refine rs_nil ?_
      refine ew_next ?_
      by_cases c43 : bAt s (t.i + 1) = 43
      ·
       refine cw_set 171 (.bool true) rfl ((by rw [c43]; rfl : (.bool (((bAt s (t.i + 1) : Nat) : Int) == 43) : Value) = _)) ?_
       refine cw_then rfl ?_
       refine cw_region ?_
       refine rs_op rfl (ow_move rfl ?_)
       refine rs_op rfl (ow_add rfl rfl (wrap_i64 (by omega)) ?_)
       refine rs_op rfl (ow_assign rfl ?_)
       refine rs_nil ?_
       refine ew_block_normal ?_
       exact ew_mid (t.i + 2, 1) ⟨rfl, rfl, rfl, rfl, rfl, rfl, rfl, rfl, rfl, rfl, rfl, rfl, trivial⟩ ⟨M11.step E XM11, by omega, by rw [if_neg (by omega)]⟩
      ·
       refine cw_set 171 (.bool false) rfl ((by rw [beq_no (by omega)] : (.bool (((bAt s (t.i + 1) : Nat) : Int) == 43) : Value) = _)) ?_
       refine cw_else rfl ?_
       refine cw_seq ?_
       refine cw_region ?_
       refine rs_op rfl (ow_eql rfl rfl ?_)
       refine rs_op rfl (ow_assign rfl ?_)
       refine rs_nil ?_
       refine ew_next ?_
       by_cases c45 : bAt s (t.i + 1) = 45
       ·
        refine cw_set 175 (.bool true) rfl ((by rw [c45]; rfl : (.bool (((bAt s (t.i + 1) : Nat) : Int) == 45) : Value) = _)) ?_
        refine cw_then rfl ?_
        refine cw_seq ?_
        refine cw_region ?_
        refine rs_op rfl (ow_move rfl ?_)
        refine rs_op rfl (ow_add rfl rfl (wrap_i64 (by omega)) ?_)
        refine rs_op rfl (ow_assign rfl ?_)
        refine rs_nil ?_
        refine ew_next ?_
        refine cw_region ?_
        refine rs_op rfl (ow_assign rfl ?_)
        refine rs_nil ?_
        refine ew_block_normal ?_
        exact ew_mid (t.i + 2, -1) ⟨rfl, rfl, rfl, rfl, rfl, rfl, rfl, rfl, rfl, rfl, rfl, rfl, trivial⟩ ⟨M11.step E XM11, by omega, by rw [if_pos c45]⟩
       ·
        refine cw_set 175 (.bool false) rfl ((by rw [beq_no (by omega)] : (.bool (((bAt s (t.i + 1) : Nat) : Int) == 45) : Value) = _)) ?_
        refine cw_else rfl ?_
        refine cw_skip ?_
        refine ew_block_normal ?_
        exact ew_mid (t.i + 1, 1) ⟨rfl, rfl, rfl, rfl, rfl, rfl, rfl, rfl, rfl, rfl, rfl, rfl, trivial⟩ ⟨M11.step E XM11, by omega, by rw [if_neg c45]⟩
     ·
      rintro ⟨k, g⟩ w12 ⟨M11, ⟨hk, hg⟩⟩
      have XM11 : ∀ q9, (No) q9 → (No) q9 ∨ w10.heap.size ≤ q9 := fun _ h => Or.inl h
      replace E := E.trans M11
      replace HF := HF.on E
      replace LW := LW.step E XLW
      replace E := Ext.refl (No) w12
      subst hk
      have hdq := hx4 k (Nat.le_refl _) hx3
      refine cw_seq ?_
      refine cw_seq ?_
      refine cw_region ?_
      refine rs_op rfl (ow_move rfl ?_)
      refine rs_op rfl (ow_move rfl ?_)
      refine rs_op rfl (ow_lenS Tryz.underlying9 rfl ?_)
      refine rs_op rfl (ow_geq rfl rfl ?_)
      refine rs_op rfl (ow_move rfl ?_)
      refine rs_set 183 (.bool false) rfl ((by rw [decide_eq_false (by omega)] : (.bool (decide (((s.size : Nat) : Int) ≤ ((k : Nat) : Int))) : Value) = _)) ?_
      refine rs_op rfl (ow_on rfl (ow_move rfl ?_))
      refine rs_op rfl (ow_on rfl (ow_move rfl ?_))
      refine rs_op rfl (ow_on rfl (ow_indexSL (j := k) (b := bAt s k) Tryz.underlying9 rfl rfl rfl (bAt_some hx3) ?_))
      refine rs_op rfl (ow_on rfl (ow_lss rfl rfl ?_))
      refine rs_op rfl (ow_pickF rfl rfl ?_)
      refine rs_op rfl (ow_move rfl ?_)
      refine rs_set 189 (.bool false) rfl ((by rw [decide_eq_false (by omega)] : (.bool (decide (((bAt s k : Nat) : Int) < 48)) : Value) = _)) ?_
      refine rs_op rfl (ow_on rfl (ow_move rfl ?_))
      refine rs_op rfl (ow_on rfl (ow_move rfl ?_))
      refine rs_op rfl (ow_on rfl (ow_indexSL (j := k) (b := bAt s k) Tryz.underlying9 rfl rfl rfl (bAt_some hx3) ?_))
      refine rs_op rfl (ow_on rfl (ow_gtr rfl rfl ?_))
      refine rs_op rfl (ow_pickF rfl rfl ?_)
      refine rs_nil ?_
      refine ew_next ?_
      refine cw_set 194 (.bool false) rfl ((by rw [decide_eq_false (by omega)] : (.bool (decide (57 < ((bAt s k : Nat) : Int))) : Value) = _)) ?_
      refine cw_else rfl ?_
      refine cw_skip ?_
      refine ew_next ?_
      refine cw_seq ?_
      refine cw_region ?_
      refine rs_op rfl (ow_assign rfl ?_)
      refine rs_nil ?_
      refine ew_next ?_
      refine cw_seq ?_
      replace HF := HF.on E
      replace LW := LW.step E XLW
      replace E := Ext.refl (No) w12
      refine cw_join (ι := ExS) (fun x => [(0, .string s), (2, .int .u64 ((t.m : Nat) : Int)), (3, .int .i64 0), (4, .bool false), (5, .bool t.tr), (6, .bool false), (7, .int .i64 ((x.i : Nat) : Int)), (8, .bool false), (9, .bool false), (16, .int .i64 ((t.nm : Nat) : Int)), (17, .int .i64 d2), (19, .int .i64 g), (20, .int .i64 ((x.e : Nat) : Int))]) (fun x w' => Ext (No) w12 w' ∧ (x = exA s k)) ?_ ?_
      ·
       have M13 := Ext.refl (No) w12
       have XM13 : ∀ q9, (No) q9 → (No) q9 ∨ w12.heap.size ≤ q9 := fun _ h => Or.inl h
       refine cw_block ?_
       replace HF := HF.on E
       replace LW := LW.step E XLW
       replace M13 := M13.step E XM13
       replace E := Ext.refl (No) w12
       refine cw_loop (ι := ExS) (fun x => [(0, .string s), (2, .int .u64 ((t.m : Nat) : Int)), (3, .int .i64 0), (4, .bool false), (5, .bool t.tr), (6, .bool false), (7, .int .i64 ((x.i : Nat) : Int)), (8, .bool false), (9, .bool false), (16, .int .i64 ((t.nm : Nat) : Int)), (17, .int .i64 d2), (19, .int .i64 g), (20, .int .i64 ((x.e : Nat) : Int))]) (fun x w' => Ext (No) w12 w' ∧ (ExI s k x ∧ until_ (exDone s) (exStep s) x = exA s k)) (fun x => s.size - x.i) (⟨k, 0⟩) ⟨rfl, rfl, rfl, rfl, rfl, rfl, rfl, rfl, rfl, rfl, rfl, rfl, rfl, trivial⟩ ⟨Ext.refl _ _, ⟨⟨Nat.le_refl _, Nat.le_of_lt hx3⟩, by show 0 < 100000; decide⟩, rfl⟩ ?_
       rintro x w16 ⟨M15, ⟨hI, hu⟩⟩
       have XM15 : ∀ q9, (No) q9 → (No) q9 ∨ w12.heap.size ≤ q9 := fun _ h => Or.inl h
       replace E := E.trans M15
       replace HF := HF.on E
       replace LW := LW.step E XLW
       replace M13 := M13.step E XM13
       replace E := Ext.refl (No) w16
       have hhi := hI.hi
       have hhe := hI.he
       refine cw_seq ?_
       refine cw_seq ?_
       refine cw_region ?_
       refine rs_op rfl (ow_move rfl ?_)
       refine rs_op rfl (ow_move rfl ?_)
       refine rs_op rfl (ow_lenS Tryz.underlying9 rfl ?_)
       refine rs_op rfl (ow_lss rfl rfl ?_)
       refine rs_op rfl (ow_move rfl ?_)
       refine rs_split 199 rfl (fun h7 => ?_) (fun h7 => ?_)
       ·
        have h7 : x.i < s.size := by have h7 := of_decide_eq_true h7; omega
        have hc := hx4 x.i hhi.1 h7
        have hdone : exDone s x = false := by unfold exDone; rw [decide_eq_false (by omega), isDg_of hc]; rfl
        have hkeep := (ex_keeps hI hdone).1
        rw [until_next hdone] at hu
        refine rs_op rfl (ow_on rfl (ow_move rfl ?_))
        refine rs_op rfl (ow_on rfl (ow_move rfl ?_))
        refine rs_op rfl (ow_on rfl (ow_indexSL (j := x.i) (b := bAt s x.i) Tryz.underlying9 rfl rfl rfl (bAt_some h7) ?_))
        refine rs_op rfl (ow_on rfl (ow_leq rfl rfl ?_))
        refine rs_op rfl (ow_on rfl (ow_move rfl ?_))
        refine rs_set 204 (.bool true) rfl ((by rw [decide_eq_true (by omega)] : (.bool (decide (48 ≤ ((bAt s x.i : Nat) : Int))) : Value) = _)) ?_
        refine rs_op rfl (ow_on rfl (ow_move rfl ?_))
        refine rs_op rfl (ow_on rfl (ow_move rfl ?_))
        refine rs_op rfl (ow_on rfl (ow_indexSL (j := x.i) (b := bAt s x.i) Tryz.underlying9 rfl rfl rfl (bAt_some h7) ?_))
        refine rs_op rfl (ow_on rfl (ow_leq rfl rfl ?_))
        refine rs_op rfl (ow_on rfl (ow_pickT rfl rfl ?_))
        refine rs_op rfl (ow_on rfl (ow_move rfl ?_))
        refine rs_set 210 (.bool true) rfl ((by rw [decide_eq_true (by omega)] : (.bool (decide (((bAt s x.i : Nat) : Int) ≤ 57)) : Value) = _)) ?_
        refine rs_op rfl (ow_off rfl ?_)
        refine rs_op rfl (ow_off rfl ?_)
        refine rs_op rfl (ow_off rfl ?_)
        refine rs_op rfl (ow_off rfl ?_)
        refine rs_op rfl (ow_on rfl (ow_pickT rfl rfl ?_))
        refine rs_op rfl (ow_pickT rfl rfl ?_)
        refine rs_nil ?_
        refine ew_next ?_
        refine cw_then rfl ?_
        refine cw_skip ?_
        refine ew_next ?_
        refine cw_seq ?_
        refine cw_block ?_
        refine cw_seq ?_
        refine cw_seq ?_
        refine cw_region ?_
        refine rs_op rfl (ow_move rfl ?_)
        refine rs_op rfl (ow_move rfl ?_)
        refine rs_op rfl (ow_indexSL (j := x.i) (b := bAt s x.i) Tryz.underlying9 rfl rfl rfl (bAt_some h7) ?_)
        refine rs_op rfl (ow_eql rfl rfl ?_)
        refine rs_nil ?_
        refine ew_next ?_
        refine cw_set 222 (.bool false) rfl ((by rw [beq_no (by omega)] : (.bool (((bAt s x.i : Nat) : Int) == 95) : Value) = _)) ?_
        refine cw_else rfl ?_
        refine cw_skip ?_
        refine ew_next ?_
        refine cw_seq ?_
        refine cw_region ?_
        refine rs_op rfl (ow_move rfl ?_)
        refine rs_op rfl (ow_lss rfl rfl ?_)
        refine rs_nil ?_
        refine ew_next ?_
        refine cw_cond rfl (fun h8 => ?_) (fun h8 => ?_)
        ·
         have h8 : x.e < 10000 := by have h8 := of_decide_eq_true h8; omega
         have hstep : exStep s x = ⟨x.i + 1, x.e * 10 + (bAt s x.i - 48)⟩ := by unfold exStep; rw [if_pos h8]
         rw [hstep] at hkeep hu
         refine cw_region ?_
         refine rs_op rfl (ow_move rfl ?_)
         refine rs_op rfl (ow_mul rfl rfl (wrap_i64 (by omega)) ?_)
         refine rs_op rfl (ow_move rfl ?_)
         refine rs_op rfl (ow_move rfl ?_)
         refine rs_op rfl (ow_indexSL (j := x.i) (b := bAt s x.i) Tryz.underlying9 rfl rfl rfl (bAt_some h7) ?_)
         refine rs_op rfl (ow_conv Tryz.underlying3 Tryz.underlying5 rfl (wrap_i64 (by omega)) ?_)
         refine rs_op rfl (ow_add rfl rfl (wrap_i64 (by omega)) ?_)
         refine rs_op rfl (ow_sub rfl rfl (wrap_i64 (by omega)) ?_)
         refine rs_op rfl (ow_assign rfl ?_)
         refine rs_nil ?_
         refine ew_block_normal ?_
         refine ew_next ?_
         refine cw_region ?_
         refine rs_op rfl (ow_move rfl ?_)
         refine rs_op rfl (ow_add rfl rfl (wrap_i64 (by omega)) ?_)
         refine rs_op rfl (ow_assign rfl ?_)
         refine rs_nil ?_
         refine ew_set 20 (.int .i64 ((x.e * 10 + (bAt s x.i - 48) : Nat) : Int)) rfl ((by congr 1; omega : (.int .i64 (((((x.e : Nat) : Int) * 10) + ((bAt s x.i : Nat) : Int)) - 48) : Value) = _)) ?_
         exact ew_round (ι := ExS) (s := fun x => [(0, .string s), (2, .int .u64 ((t.m : Nat) : Int)), (3, .int .i64 0), (4, .bool false), (5, .bool t.tr), (6, .bool false), (7, .int .i64 ((x.i : Nat) : Int)), (8, .bool false), (9, .bool false), (16, .int .i64 ((t.nm : Nat) : Int)), (17, .int .i64 d2), (19, .int .i64 g), (20, .int .i64 ((x.e : Nat) : Int))]) (R := fun x w' => Ext (No) w12 w' ∧ (ExI s k x ∧ until_ (exDone s) (exStep s) x = exA s k)) (m := fun x => s.size - x.i) (i := x) (⟨x.i + 1, x.e * 10 + (bAt s x.i - 48)⟩) (by show s.size - (x.i + 1) < s.size - x.i; omega) ⟨rfl, rfl, rfl, rfl, rfl, rfl, rfl, rfl, rfl, rfl, rfl, rfl, rfl, trivial⟩ ⟨M15.step E XM15, hkeep, hu⟩
        ·
         have h8 : ¬ x.e < 10000 := by have h8 := of_decide_eq_false h8; omega
         have hstep : exStep s x = ⟨x.i + 1, x.e⟩ := by unfold exStep; rw [if_neg h8]
         rw [hstep] at hkeep hu
         refine cw_skip ?_
         refine ew_block_normal ?_
         refine ew_next ?_
         refine cw_region ?_
         refine rs_op rfl (ow_move rfl ?_)
         refine rs_op rfl (ow_add rfl rfl (wrap_i64 (by omega)) ?_)
         refine rs_op rfl (ow_assign rfl ?_)
         refine rs_nil ?_
         exact ew_round (ι := ExS) (s := fun x => [(0, .string s), (2, .int .u64 ((t.m : Nat) : Int)), (3, .int .i64 0), (4, .bool false), (5, .bool t.tr), (6, .bool false), (7, .int .i64 ((x.i : Nat) : Int)), (8, .bool false), (9, .bool false), (16, .int .i64 ((t.nm : Nat) : Int)), (17, .int .i64 d2), (19, .int .i64 g), (20, .int .i64 ((x.e : Nat) : Int))]) (R := fun x w' => Ext (No) w12 w' ∧ (ExI s k x ∧ until_ (exDone s) (exStep s) x = exA s k)) (m := fun x => s.size - x.i) (i := x) (⟨x.i + 1, x.e⟩) (by show s.size - (x.i + 1) < s.size - x.i; omega) ⟨rfl, rfl, rfl, rfl, rfl, rfl, rfl, rfl, rfl, rfl, rfl, rfl, rfl, trivial⟩ ⟨M15.step E XM15, hkeep, hu⟩
       ·
        have h7 : ¬ x.i < s.size := by have h7 := of_decide_eq_false h7; omega
        have hdone : exDone s x = true := by unfold exDone; rw [decide_eq_true (by omega)]; rfl
        rw [until_stop hdone] at hu
        refine rs_op rfl (ow_off rfl ?_)
        refine rs_op rfl (ow_off rfl ?_)
        refine rs_op rfl (ow_off rfl ?_)
        refine rs_op rfl (ow_off rfl ?_)
        refine rs_op rfl (ow_off rfl ?_)
        refine rs_op rfl (ow_offU rfl rfl ?_)
        refine rs_op rfl (ow_offU rfl rfl ?_)
        refine rs_op rfl (ow_offU rfl rfl ?_)
        refine rs_op rfl (ow_offU rfl rfl ?_)
        refine rs_op rfl (ow_off rfl ?_)
        refine rs_op rfl (ow_off rfl ?_)
        refine rs_op rfl (ow_offU rfl rfl ?_)
        refine rs_op rfl (ow_offU rfl rfl ?_)
        refine rs_op rfl (ow_offU rfl rfl ?_)
        refine rs_op rfl (ow_offU rfl rfl ?_)
        refine rs_op rfl (ow_off rfl ?_)
        refine rs_op rfl (ow_pickF rfl rfl ?_)
        refine rs_nil ?_
        refine ew_next ?_
        refine cw_else rfl ?_
        refine cw_exit ?_
        refine ew_then_exit ?_
        refine ew_then_exit ?_
        refine ew_block_here ?_
        exact ew_mid x ⟨rfl, rfl, rfl, rfl, rfl, rfl, rfl, rfl, rfl, rfl, rfl, rfl, rfl, trivial⟩ ⟨M13.step E XM13, hu⟩
      ·
       rintro x w14 ⟨M13, hx⟩
       have XM13 : ∀ q9, (No) q9 → (No) q9 ∨ w12.heap.size ≤ q9 := fun _ h => Or.inl h
       replace E := E.trans M13
       replace HF := HF.on E
       replace LW := LW.step E XLW
       replace E := Ext.refl (No) w14
       obtain ⟨hI, hdx⟩ := exA_ends (s := s) (q := k) (by omega)
       rw [← hx] at hI hdx
       have hxi := ex_out hx4 hI hdx
       have hxe := hI.he
       have hX : IntKind.i64.wrap (((x.e : Nat) : Int) * g) = expo s Z := by
        have e9 : expo s Z = ((x.e : Nat) : Int) * g := by
         unfold expo
         rw [if_neg (by omega), ← hRi, hg, hx]
         rcases hx2 with ⟨h9, h10, h11⟩ | ⟨h9, h10⟩
         · rw [if_neg h11, if_neg h10, if_neg h11, ← h9, Int.mul_one]
         · rcases h10 with h10 | h10
           · rw [if_neg (by omega), if_pos h10, if_neg (by omega), ← h9, Int.mul_one]
           · rw [if_pos h10, if_pos h10, ← h9, Int.mul_neg, Int.mul_one]
        have h12 := expo_le hs
        rw [← e9]
        exact wrap_i64 (by omega)
       have h12 := expo_le hs
       refine cw_region ?_
       refine rs_op rfl (ow_move rfl ?_)
       refine rs_op rfl (ow_move rfl ?_)
       refine rs_op rfl (ow_move rfl ?_)
       refine rs_op rfl (ow_mul rfl rfl hX ?_)
       refine rs_op rfl (ow_add rfl rfl (wrap_i64 (by omega)) ?_)
       refine rs_op rfl (ow_assign rfl ?_)
       refine rs_nil ?_
       refine ew_next ?_
       refine cw_seq ?_
       refine cw_seq ?_
       refine cw_region ?_
       refine rs_op rfl (ow_move rfl ?_)
       refine rs_op rfl (ow_neq rfl rfl ?_)
       refine rs_nil ?_
       refine ew_next ?_
       refine cw_set 7 (.int .i64 ((s.size : Nat) : Int)) rfl ((by rw [hxi] : (.int .i64 ((x.i : Nat) : Int) : Value) = _)) ?_
       have hP : d2 + expo s Z = rdP s 0 := hP0.symm
       by_cases hm0 : t.m = 0
       ·
        refine cw_set 241 (.bool false) rfl ((by rw [hm0]; rfl : (.bool (((t.m : Nat) : Int) != 0) : Value) = _)) ?_
        refine cw_else rfl ?_
        refine cw_skip ?_
        refine ew_next ?_
        refine cw_seq ?_
        refine cw_seq ?_
        refine cw_region ?_
        refine rs_op rfl (ow_move rfl ?_)
        refine rs_op rfl (ow_move rfl ?_)
        refine rs_op rfl (ow_off rfl ?_)
        refine rs_op rfl (ow_off rfl ?_)
        refine rs_op rfl (ow_off rfl ?_)
        refine rs_op rfl (ow_off rfl ?_)
        refine rs_op rfl (ow_off rfl ?_)
        refine rs_op rfl (ow_pickF rfl rfl ?_)
        refine rs_nil ?_
        refine ew_next ?_
        refine cw_else rfl ?_
        refine cw_skip ?_
        refine ew_next ?_
        refine cw_seq ?_
        refine cw_region ?_
        refine rs_op rfl (ow_assign rfl ?_)
        refine rs_nil ?_
        refine ew_next ?_
        refine cw_ret ?_
        refine ew_scope_ret ?_
        have e2 : rdX s 0 = 0 := by unfold rdX; rw [← ht, if_neg (fun h => h hm0)]
        refine ew_ret (rs := [.tmp 2, .tmp 3, .tmp 4, .tmp 5, .tmp 6, .tmp 7, .tmp 8]) (vs := [_, _, _, _, _, _, _]) rfl ⟨rfl, rfl, rfl, rfl, rfl, rfl, rfl, trivial⟩ ?_
        exact ⟨by rw [e1, e2, e3]; rfl, (LW.step E XLW).toBelow⟩
       ·
        refine cw_set 241 (.bool true) rfl (bne_b (by omega)) ?_
        refine cw_then rfl ?_
        refine cw_region ?_
        refine rs_op rfl (ow_move rfl ?_)
        refine rs_op rfl (ow_move rfl ?_)
        refine rs_op rfl (ow_sub rfl rfl (wrap_i64 (by omega)) ?_)
        refine rs_op rfl (ow_assign rfl ?_)
        refine rs_nil ?_
        refine ew_next ?_
        refine cw_seq ?_
        refine cw_seq ?_
        refine cw_region ?_
        refine rs_op rfl (ow_move rfl ?_)
        refine rs_op rfl (ow_move rfl ?_)
        refine rs_op rfl (ow_off rfl ?_)
        refine rs_op rfl (ow_off rfl ?_)
        refine rs_op rfl (ow_off rfl ?_)
        refine rs_op rfl (ow_off rfl ?_)
        refine rs_op rfl (ow_off rfl ?_)
        refine rs_op rfl (ow_pickF rfl rfl ?_)
        refine rs_nil ?_
        refine ew_next ?_
        refine cw_else rfl ?_
        refine cw_skip ?_
        refine ew_next ?_
        refine cw_seq ?_
        refine cw_region ?_
        refine rs_op rfl (ow_assign rfl ?_)
        refine rs_nil ?_
        refine ew_next ?_
        refine cw_ret ?_
        refine ew_scope_ret ?_
        have e2 : rdX s 0 = rdP s 0 - ((t.nm : Nat) : Int) := by unfold rdX; rw [← ht, if_pos hm0]
        refine ew_ret (rs := [.tmp 2, .tmp 3, .tmp 4, .tmp 5, .tmp 6, .tmp 7, .tmp 8]) (vs := [_, _, _, _, _, _, _]) rfl ⟨rfl, rfl, rfl, rfl, rfl, rfl, rfl, trivial⟩ ?_
        exact ⟨by rw [e1, e2, e3, ← hP]; rfl, (LW.step E XLW).toBelow⟩
    ·
     have hz : expo s Z = 0 := by unfold expo; rw [if_pos (by omega)]
     refine cw_seq ?_
     refine cw_seq ?_
     refine cw_region ?_
     refine rs_op rfl (ow_move rfl ?_)
     refine rs_op rfl (ow_eql rfl rfl ?_)
     refine rs_nil ?_
     refine ew_next ?_
     refine cw_else rfl ?_
     refine cw_skip ?_
     refine ew_next ?_
     refine cw_seq ?_
     refine cw_seq ?_
     refine cw_region ?_
     refine rs_op rfl (ow_move rfl ?_)
     refine rs_op rfl (ow_move rfl ?_)
     refine rs_op rfl (ow_lenS Tryz.underlying9 rfl ?_)
     refine rs_op rfl (ow_lss rfl rfl ?_)
     refine rs_op rfl (ow_move rfl ?_)
     refine rs_set 154 (.bool false) rfl ((by rw [decide_eq_false (by omega)] : (.bool (decide (((t.i : Nat) : Int) < ((s.size : Nat) : Int))) : Value) = _)) ?_
     refine rs_op rfl (ow_off rfl ?_)
     refine rs_op rfl (ow_off rfl ?_)
     refine rs_op rfl (ow_off rfl ?_)
     refine rs_op rfl (ow_off rfl ?_)
     refine rs_op rfl (ow_off rfl ?_)
     refine rs_op rfl (ow_off rfl ?_)
     refine rs_op rfl (ow_pickF rfl rfl ?_)
     refine rs_nil ?_
     refine ew_next ?_
     refine cw_else rfl ?_
     refine cw_seq ?_
     refine cw_region ?_
     refine rs_op rfl (ow_move rfl ?_)
     refine rs_op rfl (ow_eql rfl rfl ?_)
     refine rs_nil ?_
     refine ew_next ?_
     refine cw_else rfl ?_
     refine cw_skip ?_
     refine ew_next ?_
     refine cw_seq ?_
     refine cw_seq ?_
     refine cw_region ?_
     refine rs_op rfl (ow_move rfl ?_)
     refine rs_op rfl (ow_neq rfl rfl ?_)
     refine rs_nil ?_
     refine ew_next ?_
     refine cw_set 7 (.int .i64 ((s.size : Nat) : Int)) rfl ((by congr 1; omega : (.int .i64 ((t.i : Nat) : Int) : Value) = _)) ?_
     have hP : d2 = rdP s 0 := by rw [hP0, hz, Int.add_zero]
     by_cases hm0 : t.m = 0
     ·
      refine cw_set 241 (.bool false) rfl ((by rw [hm0]; rfl : (.bool (((t.m : Nat) : Int) != 0) : Value) = _)) ?_
      refine cw_else rfl ?_
      refine cw_skip ?_
      refine ew_next ?_
      refine cw_seq ?_
      refine cw_seq ?_
      refine cw_region ?_
      refine rs_op rfl (ow_move rfl ?_)
      refine rs_op rfl (ow_move rfl ?_)
      refine rs_op rfl (ow_off rfl ?_)
      refine rs_op rfl (ow_off rfl ?_)
      refine rs_op rfl (ow_off rfl ?_)
      refine rs_op rfl (ow_off rfl ?_)
      refine rs_op rfl (ow_off rfl ?_)
      refine rs_op rfl (ow_pickF rfl rfl ?_)
      refine rs_nil ?_
      refine ew_next ?_
      refine cw_else rfl ?_
      refine cw_skip ?_
      refine ew_next ?_
      refine cw_seq ?_
      refine cw_region ?_
      refine rs_op rfl (ow_assign rfl ?_)
      refine rs_nil ?_
      refine ew_next ?_
      refine cw_ret ?_
      refine ew_scope_ret ?_
      have e2 : rdX s 0 = 0 := by unfold rdX; rw [← ht, if_neg (fun h => h hm0)]
      refine ew_ret (rs := [.tmp 2, .tmp 3, .tmp 4, .tmp 5, .tmp 6, .tmp 7, .tmp 8]) (vs := [_, _, _, _, _, _, _]) rfl ⟨rfl, rfl, rfl, rfl, rfl, rfl, rfl, trivial⟩ ?_
      exact ⟨by rw [e1, e2, e3]; rfl, (LW.step E XLW).toBelow⟩
     ·
      refine cw_set 241 (.bool true) rfl (bne_b (by omega)) ?_
      refine cw_then rfl ?_
      refine cw_region ?_
      refine rs_op rfl (ow_move rfl ?_)
      refine rs_op rfl (ow_move rfl ?_)
      refine rs_op rfl (ow_sub rfl rfl (wrap_i64 (by omega)) ?_)
      refine rs_op rfl (ow_assign rfl ?_)
      refine rs_nil ?_
      refine ew_next ?_
      refine cw_seq ?_
      refine cw_seq ?_
      refine cw_region ?_
      refine rs_op rfl (ow_move rfl ?_)
      refine rs_op rfl (ow_move rfl ?_)
      refine rs_op rfl (ow_off rfl ?_)
      refine rs_op rfl (ow_off rfl ?_)
      refine rs_op rfl (ow_off rfl ?_)
      refine rs_op rfl (ow_off rfl ?_)
      refine rs_op rfl (ow_off rfl ?_)
      refine rs_op rfl (ow_pickF rfl rfl ?_)
      refine rs_nil ?_
      refine ew_next ?_
      refine cw_else rfl ?_
      refine cw_skip ?_
      refine ew_next ?_
      refine cw_seq ?_
      refine cw_region ?_
      refine rs_op rfl (ow_assign rfl ?_)
      refine rs_nil ?_
      refine ew_next ?_
      refine cw_ret ?_
      refine ew_scope_ret ?_
      have e2 : rdX s 0 = rdP s 0 - ((t.nm : Nat) : Int) := by unfold rdX; rw [← ht, if_pos hm0]
      refine ew_ret (rs := [.tmp 2, .tmp 3, .tmp 4, .tmp 5, .tmp 6, .tmp 7, .tmp 8]) (vs := [_, _, _, _, _, _, _]) rfl ⟨rfl, rfl, rfl, rfl, rfl, rfl, rfl, trivial⟩ ?_
      exact ⟨by rw [e1, e2, e3, ← hP]; rfl, (LW.step E XLW).toBelow⟩
end
end Go.Proofs.YtjdcjdohghkcgaaGreatDoor
namespace Go.Proofs.YtjdcjdohghkcgaaGreatDoor
open Go.RowKit
set_option maxRecDepth 100000
attribute [local irreducible] OW RS
theorem trimN_on {d : List Nat} {n : Nat} (h0 : n ≠ 0) (h : dg d (n - 1) = 48) : trimN d n = trimN d (n - 1) := by
 obtain ⟨m, rfl⟩ : ∃ m, n = m + 1 := ⟨n - 1, by omega⟩
 rw [Nat.add_sub_cancel] at h ⊢
 rw [trimN, if_pos h]
theorem trimN_off {d : List Nat} {n : Nat} (h0 : n ≠ 0) (h : dg d (n - 1) ≠ 48) : trimN d n = n := by
 obtain ⟨m, rfl⟩ : ∃ m, n = m + 1 := ⟨n - 1, by omega⟩
 rw [Nat.add_sub_cancel] at h
 rw [trimN, if_neg h]
theorem preLess_at {b l : List Nat} {i x y : Nat} (hb : b[i]? = some x) (hl : l[i]? = some y) : preLess (b.drop i) (l.drop i) = if x = y then preLess (b.drop (i + 1)) (l.drop (i + 1)) else decide (x < y) := by
 obtain ⟨h1, h2⟩ := List.getElem?_eq_some_iff.1 hb
 obtain ⟨h3, h4⟩ := List.getElem?_eq_some_iff.1 hl
 rw [List.drop_eq_getElem_cons h1, List.drop_eq_getElem_cons h3, h2, h4]
 rfl
theorem preLess_end (b : List Nat) {l : List Nat} {i : Nat} (h : l.length ≤ i) : preLess b (l.drop i) = false := by
 rw [List.drop_eq_nil_of_le h]
 cases b <;> rfl
theorem preLess_short {b l : List Nat} {i : Nat} (h : b.length ≤ i) (h2 : i < l.length) : preLess (b.drop i) (l.drop i) = true := by
 rw [List.drop_eq_nil_of_le h, List.drop_eq_getElem_cons h2]
 rfl
theorem take_at {d : List Nat} {n i : Nat} (hi : i < n) (hn : n ≤ d.length) : (d.take n)[i]? = some (dg d i) := by
 rw [List.getElem?_take, if_pos hi, dg_at (by omega)]
theorem two60 {n k : Nat} (h : n < 2 ^ k) (hk : k ≤ 60) : n < 1152921504606846976 := by
 have h1 : 2 ^ k ≤ 2 ^ 60 := Nat.pow_le_pow_right (by decide) hk
 have h2 : (2 : Nat) ^ 60 = 1152921504606846976 := by decide
 omega
theorem two64 {n k : Nat} (h : n < 10 * 2 ^ k) (hk : k ≤ 60) : n < 11529215046068469760 := by
 have h1 : 2 ^ k ≤ 2 ^ 60 := Nat.pow_le_pow_right (by decide) hk
 have h2 : (2 : Nat) ^ 60 = 1152921504606846976 := by decide
 omega
theorem beq_0 {m : Nat} (h : m ≠ 0) : ((.bool (((m : Nat) : Int) == 0)) : Value) = .bool false := by rw [beq_eq_false_iff_ne.2 (by omega)]
theorem ndAt {t : Dec} (h : t.d.length = 800) (n : Nat) (e : t.nd = n) : (decC t)[800]? = some (.int .i64 ((n : Nat) : Int)) := e ▸ dec_nd h
theorem dpAt {t : Dec} (h : t.d.length = 800) (p : Int) (e : t.dp = p) : (decC t)[801]? = some (.int .i64 p) := e ▸ dec_dp h
theorem ngAt {t : Dec} (h : t.d.length = 800) (b : Bool) (e : t.neg = b) : (decC t)[802]? = some (.bool b) := e ▸ dec_neg h
theorem trAt {t : Dec} (h : t.d.length = 800) (b : Bool) (e : t.tr = b) : (decC t)[803]? = some (.bool b) := e ▸ dec_tr h
theorem dAt {t : Dec} (h : t.d.length = 800) (b j : Nat) (e : dg t.d j = b) (hj : j < 800) : (decC t)[j]? = some (.int .u8 ((b : Nat) : Int)) := e ▸ dec_at h hj
theorem in_ {t : Dec} (h : t.d.length = 800) {j : Nat} (hj : j < 804) : j < (decC t).size := by rw [dec_size h]; exact hj
section
variable (w : World)
theorem trim_any (ga : Nat) (t : Dec) (hl : t.d.length = 800) (hn : t.nd ≤ 800) (hB : Blk w ga 193 (decC t)) :
 Calls Tryz.prog 202 #[.pointer (some ⟨ga, 0, none⟩)] w fun e w' => e = .returned (.tuple #[]) ∧ Blk w' ga 193 (decC (trimD t)) ∧ Ext (Mut [some ga]) w w' := by
 refine calls_cw Tryz.func202 rfl Tryz.ntmps202 rfl ?_
 have Ba := hB
 have HF : Per (Mut [(some ga)]) w (fun _ => True) := Per.true_
 have LW := Ext.refl (Mut [(some ga)]) w
 have XLW : ∀ q9, (Mut [(some ga)]) q9 → (Mut [(some ga)]) q9 ∨ w.heap.size ≤ q9 := fun _ h => Or.inl h
 have E := Ext.refl (Mut [(some ga)]) w
 refine cw_seq ?_
 replace HF := HF.on E
 replace LW := LW.step E XLW
 replace E := Ext.refl (Mut [(some ga)]) w
 refine cw_join (ι := Unit) (fun _ => [(0, .pointer (some ⟨ga, 0, none⟩))]) (fun _ w' => Ext (Mut [(some ga)]) w w' ∧ Blk w' ga 193 (decC { t with nd := trimN t.d t.nd }) ∧ (True)) ?_ ?_
 ·
  have M1 := Ext.refl (Mut [(some ga)]) w
  have XM1 : ∀ q9, (Mut [(some ga)]) q9 → (Mut [(some ga)]) q9 ∨ w.heap.size ≤ q9 := fun _ h => Or.inl h
  refine cw_block ?_
  replace HF := HF.on E
  replace LW := LW.step E XLW
  replace M1 := M1.step E XM1
  replace E := Ext.refl (Mut [(some ga)]) w
  refine cw_loop (ι := Nat) (fun n => [(0, .pointer (some ⟨ga, 0, none⟩))]) (fun n w' => Ext (Mut [(some ga)]) w w' ∧ Blk w' ga 193 (decC { t with nd := n }) ∧ (n ≤ 800 ∧ trimN t.d n = trimN t.d t.nd)) (fun n => n) t.nd ⟨rfl, trivial⟩ ⟨Ext.refl _ _, (by exact Ba), hn, rfl⟩ ?_
  have LTa := (some_lt Ba.lt)
  clear Ba
  rintro n w4 ⟨M3, Ba, ⟨hn8, he⟩⟩
  have XM3 : ∀ q9, (Mut [(some ga)]) q9 → (Mut [(some ga)]) q9 ∨ w.heap.size ≤ q9 := (Mut.grow Mut.none_ (fun k e => Or.inl (Mut.head k e)))
  replace E := E.trans M3
  replace HF := HF.on E
  replace LW := LW.step E XLW
  replace M1 := M1.step E XM1
  replace E := Ext.refl (Mut [(some ga)]) w4
  clear LTa
  have hl1 : ({ t with nd := n } : Dec).d.length = 800 := hl
  by_cases h0 : n = 0
  ·
   have e : trimN t.d t.nd = n := by rw [← he, h0]; rfl
   refine cw_seq ?_
   refine cw_seq ?_
   have OY : ∀ q9, (Mut (outM [])) q9 → q9 < (World.drew w4).heap.size → (Mut [(some ga)]) q9 := fun k h _ => (Mut.none_) k h
   refine cw_drawn (Mut [(some ga)]) (Mut.grow Mut.none_ (some_lt Ba.lt)) [] [] (fxAt [Fx.of (.pointer (some ⟨ga, 0, none⟩)),
    Fx.of (.pointer (some ⟨ga, 0, none⟩)),
    Fx.of (.pointer (some ⟨ga, 800, none⟩)),
    Fx.of (.int .i64 ((n : Nat) : Int)),
    Fx.of (.bool false),
    Fx.of (.bool false),
    Fx.of undef,
    Fx.of undef,
    Fx.of undef,
    Fx.of undef,
    Fx.of undef,
    Fx.of undef,
    Fx.of undef,
    Fx.of undef,
    Fx.of undef,
    Fx.of undef,
    Fx.of undef,
    Fx.of (.bool false)]) mixed rfl trivial (fun _ h => by cases h) ?_ ?_
   · refine ⟨?_, ?_, ?_, ?_, ?_, ?_, ?_, ?_, ?_, ?_, ?_, ?_, ?_, ?_, ?_, ?_, ?_, ?_, trivial⟩
     · intro vs X wq K
       have LE := K.1
       have XN := K.2.1
       have SQ := Nat.le_trans LW.size (Nat.le_trans E.size LE.size)
       exact ow_move rfl ⟨Below.refl _ _, Left.of rfl⟩
     · intro vs X wq K
       have LE := K.1
       have XN := K.2.1
       have SQ := Nat.le_trans LW.size (Nat.le_trans E.size LE.size)
       obtain ⟨_, e0, k0⟩ := K.dep 0 rfl rfl rfl
       refine ow_set 2 (.pointer (some ⟨ga, 0, none⟩)) rfl e0 ?_
       exact ow_nilCheck rfl ⟨Below.refl _ _, Left.of rfl⟩
     · intro vs X wq K
       have LE := K.1
       have XN := K.2.1
       have SQ := Nat.le_trans LW.size (Nat.le_trans E.size LE.size)
       obtain ⟨_, e1, k1⟩ := K.dep 1 rfl rfl rfl
       refine ow_set 3 (.pointer (some ⟨ga, 0, none⟩)) rfl e1 ?_
       exact ow_fieldAddr Tryz.underlying193 rfl sz3 (by decide) rfl ⟨Below.refl _ _, Left.of rfl⟩
     · intro vs X wq K
       have LE := K.1
       have XN := K.2.1
       have SQ := Nat.le_trans LW.size (Nat.le_trans E.size LE.size)
       obtain ⟨_, e2, k2⟩ := K.dep 2 rfl rfl rfl
       refine ow_set 4 (.pointer (some ⟨ga, 800, none⟩)) rfl e2 ?_
       exact ow_loadF Tryz.underlying3 rfl rfl (Ba.drew.extN LE NotIn.nil) (ndAt hl1 n rfl) ⟨Below.refl _ _, Left.of rfl⟩
     · intro vs X wq K
       have LE := K.1
       have XN := K.2.1
       have SQ := Nat.le_trans LW.size (Nat.le_trans E.size LE.size)
       obtain ⟨_, e3, k3⟩ := K.dep 3 rfl rfl rfl
       refine ow_set 5 (.int .i64 ((n : Nat) : Int)) rfl e3 ?_
       exact ow_gtr rfl rfl ⟨Below.refl _ _, Left.of ((by rw [decide_eq_false (by omega)] : (.bool (decide (0 < ((n : Nat) : Int))) : Value) = _))⟩
     · intro vs X wq K
       have LE := K.1
       have XN := K.2.1
       have SQ := Nat.le_trans LW.size (Nat.le_trans E.size LE.size)
       obtain ⟨_, e4, k4⟩ := K.dep 4 rfl rfl rfl
       refine ow_set 6 (.bool false) rfl e4 ?_
       exact ow_move rfl ⟨Below.refl _ _, Left.of rfl⟩
     · intro vs X wq K
       have LE := K.1
       have XN := K.2.1
       have SQ := Nat.le_trans LW.size (Nat.le_trans E.size LE.size)
       obtain ⟨_, e5, k5⟩ := K.dep 5 rfl rfl rfl
       refine ow_set 7 (.bool false) rfl e5 ?_
       exact ow_off rfl ⟨Below.refl _ _, Left.of rfl⟩
     · intro vs X wq K
       have LE := K.1
       have XN := K.2.1
       have SQ := Nat.le_trans LW.size (Nat.le_trans E.size LE.size)
       obtain ⟨_, e5, k5⟩ := K.dep 5 rfl rfl rfl
       refine ow_set 7 (.bool false) rfl e5 ?_
       exact ow_off rfl ⟨Below.refl _ _, Left.of rfl⟩
     · intro vs X wq K
       have LE := K.1
       have XN := K.2.1
       have SQ := Nat.le_trans LW.size (Nat.le_trans E.size LE.size)
       obtain ⟨_, e7, k7⟩ := K.dep 7 rfl rfl rfl
       refine ow_set 9 (undef) rfl e7 ?_
       obtain ⟨_, e5, k5⟩ := K.dep 5 rfl rfl rfl
       refine ow_set 7 (.bool false) rfl e5 ?_
       exact ow_off rfl ⟨Below.refl _ _, Left.of rfl⟩
     · intro vs X wq K
       have LE := K.1
       have XN := K.2.1
       have SQ := Nat.le_trans LW.size (Nat.le_trans E.size LE.size)
       obtain ⟨_, e8, k8⟩ := K.dep 8 rfl rfl rfl
       refine ow_set 10 (undef) rfl e8 ?_
       obtain ⟨_, e5, k5⟩ := K.dep 5 rfl rfl rfl
       refine ow_set 7 (.bool false) rfl e5 ?_
       exact ow_off rfl ⟨Below.refl _ _, Left.of rfl⟩
     · intro vs X wq K
       have LE := K.1
       have XN := K.2.1
       have SQ := Nat.le_trans LW.size (Nat.le_trans E.size LE.size)
       obtain ⟨_, e9, k9⟩ := K.dep 9 rfl rfl rfl
       refine ow_set 11 (undef) rfl e9 ?_
       obtain ⟨_, e5, k5⟩ := K.dep 5 rfl rfl rfl
       refine ow_set 7 (.bool false) rfl e5 ?_
       exact ow_off rfl ⟨Below.refl _ _, Left.of rfl⟩
     · intro vs X wq K
       have LE := K.1
       have XN := K.2.1
       have SQ := Nat.le_trans LW.size (Nat.le_trans E.size LE.size)
       obtain ⟨_, e10, k10⟩ := K.dep 10 rfl rfl rfl
       refine ow_set 12 (undef) rfl e10 ?_
       obtain ⟨_, e5, k5⟩ := K.dep 5 rfl rfl rfl
       refine ow_set 7 (.bool false) rfl e5 ?_
       exact ow_off rfl ⟨Below.refl _ _, Left.of rfl⟩
     · intro vs X wq K
       have LE := K.1
       have XN := K.2.1
       have SQ := Nat.le_trans LW.size (Nat.le_trans E.size LE.size)
       obtain ⟨_, e6, k6⟩ := K.dep 6 rfl rfl rfl
       refine ow_set 8 (undef) rfl e6 ?_
       obtain ⟨_, e5, k5⟩ := K.dep 5 rfl rfl rfl
       refine ow_set 7 (.bool false) rfl e5 ?_
       exact ow_off rfl ⟨Below.refl _ _, Left.of rfl⟩
     · intro vs X wq K
       have LE := K.1
       have XN := K.2.1
       have SQ := Nat.le_trans LW.size (Nat.le_trans E.size LE.size)
       obtain ⟨_, e12, k12⟩ := K.dep 12 rfl rfl rfl
       refine ow_set 14 (undef) rfl e12 ?_
       obtain ⟨_, e5, k5⟩ := K.dep 5 rfl rfl rfl
       refine ow_set 7 (.bool false) rfl e5 ?_
       exact ow_off rfl ⟨Below.refl _ _, Left.of rfl⟩
     · intro vs X wq K
       have LE := K.1
       have XN := K.2.1
       have SQ := Nat.le_trans LW.size (Nat.le_trans E.size LE.size)
       obtain ⟨_, e13, k13⟩ := K.dep 13 rfl rfl rfl
       refine ow_set 15 (undef) rfl e13 ?_
       obtain ⟨_, e11, k11⟩ := K.dep 11 rfl rfl rfl
       refine ow_set 13 (undef) rfl e11 ?_
       obtain ⟨_, e5, k5⟩ := K.dep 5 rfl rfl rfl
       refine ow_set 7 (.bool false) rfl e5 ?_
       exact ow_off rfl ⟨Below.refl _ _, Left.of rfl⟩
     · intro vs X wq K
       have LE := K.1
       have XN := K.2.1
       have SQ := Nat.le_trans LW.size (Nat.le_trans E.size LE.size)
       obtain ⟨_, e14, k14⟩ := K.dep 14 rfl rfl rfl
       refine ow_set 16 (undef) rfl e14 ?_
       obtain ⟨_, e5, k5⟩ := K.dep 5 rfl rfl rfl
       refine ow_set 7 (.bool false) rfl e5 ?_
       exact ow_off rfl ⟨Below.refl _ _, Left.of rfl⟩
     · intro vs X wq K
       have LE := K.1
       have XN := K.2.1
       have SQ := Nat.le_trans LW.size (Nat.le_trans E.size LE.size)
       obtain ⟨_, e15, k15⟩ := K.dep 15 rfl rfl rfl
       refine ow_set 17 (undef) rfl e15 ?_
       obtain ⟨_, e5, k5⟩ := K.dep 5 rfl rfl rfl
       refine ow_set 7 (.bool false) rfl e5 ?_
       exact ow_off rfl ⟨Below.refl _ _, Left.of rfl⟩
     · intro vs X wq K
       have LE := K.1
       have XN := K.2.1
       have SQ := Nat.le_trans LW.size (Nat.le_trans E.size LE.size)
       obtain ⟨_, e5, k5⟩ := K.dep 5 rfl rfl rfl
       refine ow_set 7 (.bool false) rfl e5 ?_
       obtain ⟨_, e16, k16⟩ := K.dep 16 rfl rfl rfl
       refine ow_set 18 (undef) rfl e16 ?_
       exact ow_pickF rfl rfl ⟨Below.refl _ _, Left.of rfl⟩
   intro vs w5 LE AO AL AF AA
   have LBa := Ba
   replace Ba := Ba.drew.extN LE NotIn.nil
   replace E := E.drew.trans (LE.mono OY)
   obtain ⟨_, e17, k17⟩ := AL.2.2.2.2.2.2.2.2.2.2.2.2.2.2.2.2.2.1
   refine ew_sub (τ := [(0, _), (19, .bool false)]) ⟨rfl, congrArg some e17, trivial⟩ ?_
   clear AL AF AA LE AO OY e17 k17 LBa
   refine ew_next ?_
   refine cw_else rfl ?_
   refine cw_exit ?_
   refine ew_then_exit ?_
   refine ew_then_exit ?_
   refine ew_block_here ?_
   replace Ba : Blk w5 ga 193 (decC { t with nd := trimN t.d t.nd }) := by rw [e]; exact Ba
   exact ew_mid () ⟨rfl, trivial⟩ ⟨M1.step E XM1, (by exact Ba), trivial⟩
  ·
   refine cw_seq ?_
   refine cw_seq ?_
   have OY : ∀ q9, (Mut (outM [])) q9 → q9 < (World.drew w4).heap.size → (Mut [(some ga)]) q9 := fun k h _ => (Mut.none_) k h
   refine cw_drawn (Mut [(some ga)]) (Mut.grow Mut.none_ (some_lt Ba.lt)) [] [] (fxAt [Fx.of (.pointer (some ⟨ga, 0, none⟩)),
    Fx.of (.pointer (some ⟨ga, 0, none⟩)),
    Fx.of (.pointer (some ⟨ga, 800, none⟩)),
    Fx.of (.int .i64 ((n : Nat) : Int)),
    Fx.of (.bool true),
    Fx.of (.bool true),
    Fx.of (.pointer (some ⟨ga, 0, none⟩)),
    Fx.of (.pointer (some ⟨ga, 0, none⟩)),
    Fx.of (.pointer (some ⟨ga, 0, none⟩)),
    Fx.of (.pointer (some ⟨ga, 800, none⟩)),
    Fx.of (.int .i64 ((n : Nat) : Int)),
    Fx.of (.int .i64 (((n : Nat) : Int) - 1)),
    Fx.of (.pointer (some ⟨ga, 0, none⟩)),
    Fx.of (.pointer (some ⟨ga, 0, none⟩)),
    Fx.of (.pointer (some ⟨ga, n - 1, none⟩)),
    Fx.of (.int .u8 ((dg t.d (n - 1) : Nat) : Int)),
    Fx.of (.bool (((dg t.d (n - 1) : Nat) : Int) == 48)),
    Fx.of (.bool (((dg t.d (n - 1) : Nat) : Int) == 48))]) mixed rfl trivial (fun _ h => by cases h) ?_ ?_
   · refine ⟨?_, ?_, ?_, ?_, ?_, ?_, ?_, ?_, ?_, ?_, ?_, ?_, ?_, ?_, ?_, ?_, ?_, ?_, trivial⟩
     · intro vs X wq K
       have LE := K.1
       have XN := K.2.1
       have SQ := Nat.le_trans LW.size (Nat.le_trans E.size LE.size)
       exact ow_move rfl ⟨Below.refl _ _, Left.of rfl⟩
     · intro vs X wq K
       have LE := K.1
       have XN := K.2.1
       have SQ := Nat.le_trans LW.size (Nat.le_trans E.size LE.size)
       obtain ⟨_, e0, k0⟩ := K.dep 0 rfl rfl rfl
       refine ow_set 2 (.pointer (some ⟨ga, 0, none⟩)) rfl e0 ?_
       exact ow_nilCheck rfl ⟨Below.refl _ _, Left.of rfl⟩
     · intro vs X wq K
       have LE := K.1
       have XN := K.2.1
       have SQ := Nat.le_trans LW.size (Nat.le_trans E.size LE.size)
       obtain ⟨_, e1, k1⟩ := K.dep 1 rfl rfl rfl
       refine ow_set 3 (.pointer (some ⟨ga, 0, none⟩)) rfl e1 ?_
       exact ow_fieldAddr Tryz.underlying193 rfl sz3 (by decide) rfl ⟨Below.refl _ _, Left.of rfl⟩
     · intro vs X wq K
       have LE := K.1
       have XN := K.2.1
       have SQ := Nat.le_trans LW.size (Nat.le_trans E.size LE.size)
       obtain ⟨_, e2, k2⟩ := K.dep 2 rfl rfl rfl
       refine ow_set 4 (.pointer (some ⟨ga, 800, none⟩)) rfl e2 ?_
       exact ow_loadF Tryz.underlying3 rfl rfl (Ba.drew.extN LE NotIn.nil) (ndAt hl1 n rfl) ⟨Below.refl _ _, Left.of rfl⟩
     · intro vs X wq K
       have LE := K.1
       have XN := K.2.1
       have SQ := Nat.le_trans LW.size (Nat.le_trans E.size LE.size)
       obtain ⟨_, e3, k3⟩ := K.dep 3 rfl rfl rfl
       refine ow_set 5 (.int .i64 ((n : Nat) : Int)) rfl e3 ?_
       exact ow_gtr rfl rfl ⟨Below.refl _ _, Left.of ((by rw [decide_eq_true (by omega)] : (.bool (decide (0 < ((n : Nat) : Int))) : Value) = _))⟩
     · intro vs X wq K
       have LE := K.1
       have XN := K.2.1
       have SQ := Nat.le_trans LW.size (Nat.le_trans E.size LE.size)
       obtain ⟨_, e4, k4⟩ := K.dep 4 rfl rfl rfl
       refine ow_set 6 (.bool true) rfl e4 ?_
       exact ow_move rfl ⟨Below.refl _ _, Left.of rfl⟩
     · intro vs X wq K
       have LE := K.1
       have XN := K.2.1
       have SQ := Nat.le_trans LW.size (Nat.le_trans E.size LE.size)
       obtain ⟨_, e5, k5⟩ := K.dep 5 rfl rfl rfl
       refine ow_set 7 (.bool true) rfl e5 ?_
       exact ow_on rfl (ow_move rfl ⟨Below.refl _ _, Left.of rfl⟩)
     · intro vs X wq K
       have LE := K.1
       have XN := K.2.1
       have SQ := Nat.le_trans LW.size (Nat.le_trans E.size LE.size)
       obtain ⟨_, e5, k5⟩ := K.dep 5 rfl rfl rfl
       refine ow_set 7 (.bool true) rfl e5 ?_
       exact ow_on rfl (ow_move rfl ⟨Below.refl _ _, Left.of rfl⟩)
     · intro vs X wq K
       have LE := K.1
       have XN := K.2.1
       have SQ := Nat.le_trans LW.size (Nat.le_trans E.size LE.size)
       obtain ⟨_, e7, k7⟩ := K.dep 7 rfl rfl rfl
       refine ow_set 9 (.pointer (some ⟨ga, 0, none⟩)) rfl e7 ?_
       obtain ⟨_, e5, k5⟩ := K.dep 5 rfl rfl rfl
       refine ow_set 7 (.bool true) rfl e5 ?_
       exact ow_on rfl (ow_nilCheck rfl ⟨Below.refl _ _, Left.of rfl⟩)
     · intro vs X wq K
       have LE := K.1
       have XN := K.2.1
       have SQ := Nat.le_trans LW.size (Nat.le_trans E.size LE.size)
       obtain ⟨_, e8, k8⟩ := K.dep 8 rfl rfl rfl
       refine ow_set 10 (.pointer (some ⟨ga, 0, none⟩)) rfl e8 ?_
       obtain ⟨_, e5, k5⟩ := K.dep 5 rfl rfl rfl
       refine ow_set 7 (.bool true) rfl e5 ?_
       exact ow_on rfl (ow_fieldAddr Tryz.underlying193 rfl sz3 (by decide) rfl ⟨Below.refl _ _, Left.of rfl⟩)
     · intro vs X wq K
       have LE := K.1
       have XN := K.2.1
       have SQ := Nat.le_trans LW.size (Nat.le_trans E.size LE.size)
       obtain ⟨_, e9, k9⟩ := K.dep 9 rfl rfl rfl
       refine ow_set 11 (.pointer (some ⟨ga, 800, none⟩)) rfl e9 ?_
       obtain ⟨_, e5, k5⟩ := K.dep 5 rfl rfl rfl
       refine ow_set 7 (.bool true) rfl e5 ?_
       exact ow_on rfl (ow_loadF Tryz.underlying3 rfl rfl (Ba.drew.extN LE NotIn.nil) (ndAt hl1 n rfl) ⟨Below.refl _ _, Left.of rfl⟩)
     · intro vs X wq K
       have LE := K.1
       have XN := K.2.1
       have SQ := Nat.le_trans LW.size (Nat.le_trans E.size LE.size)
       obtain ⟨_, e10, k10⟩ := K.dep 10 rfl rfl rfl
       refine ow_set 12 (.int .i64 ((n : Nat) : Int)) rfl e10 ?_
       obtain ⟨_, e5, k5⟩ := K.dep 5 rfl rfl rfl
       refine ow_set 7 (.bool true) rfl e5 ?_
       exact ow_on rfl (ow_sub rfl rfl (wrap_i64 (by omega)) ⟨Below.refl _ _, Left.of rfl⟩)
     · intro vs X wq K
       have LE := K.1
       have XN := K.2.1
       have SQ := Nat.le_trans LW.size (Nat.le_trans E.size LE.size)
       obtain ⟨_, e6, k6⟩ := K.dep 6 rfl rfl rfl
       refine ow_set 8 (.pointer (some ⟨ga, 0, none⟩)) rfl e6 ?_
       obtain ⟨_, e5, k5⟩ := K.dep 5 rfl rfl rfl
       refine ow_set 7 (.bool true) rfl e5 ?_
       exact ow_on rfl (ow_nilCheck rfl ⟨Below.refl _ _, Left.of rfl⟩)
     · intro vs X wq K
       have LE := K.1
       have XN := K.2.1
       have SQ := Nat.le_trans LW.size (Nat.le_trans E.size LE.size)
       obtain ⟨_, e12, k12⟩ := K.dep 12 rfl rfl rfl
       refine ow_set 14 (.pointer (some ⟨ga, 0, none⟩)) rfl e12 ?_
       obtain ⟨_, e5, k5⟩ := K.dep 5 rfl rfl rfl
       refine ow_set 7 (.bool true) rfl e5 ?_
       exact ow_on rfl (ow_fieldAddr Tryz.underlying193 rfl sz191 (by decide) rfl ⟨Below.refl _ _, Left.of rfl⟩)
     · intro vs X wq K
       have LE := K.1
       have XN := K.2.1
       have SQ := Nat.le_trans LW.size (Nat.le_trans E.size LE.size)
       obtain ⟨_, e13, k13⟩ := K.dep 13 rfl rfl rfl
       refine ow_set 15 (.pointer (some ⟨ga, 0, none⟩)) rfl e13 ?_
       obtain ⟨_, e11, k11⟩ := K.dep 11 rfl rfl rfl
       refine ow_set 13 (.int .i64 (((n : Nat) : Int) - 1)) rfl e11 ?_
       obtain ⟨_, e5, k5⟩ := K.dep 5 rfl rfl rfl
       refine ow_set 7 (.bool true) rfl e5 ?_
       exact ow_on rfl (ow_indexAddrZ (j := n - 1) Tryz.underlying191 sz5 rfl rfl (by omega) (by omega) ⟨Below.refl _ _, Left.of rfl⟩)
     · intro vs X wq K
       have LE := K.1
       have XN := K.2.1
       have SQ := Nat.le_trans LW.size (Nat.le_trans E.size LE.size)
       obtain ⟨_, e14, k14⟩ := K.dep 14 rfl rfl rfl
       refine ow_set 16 (.pointer (some ⟨ga, n - 1, none⟩)) rfl e14 ?_
       obtain ⟨_, e5, k5⟩ := K.dep 5 rfl rfl rfl
       refine ow_set 7 (.bool true) rfl e5 ?_
       exact ow_on rfl (ow_loadF Tryz.underlying5 rfl rfl (Ba.drew.extN LE NotIn.nil) (dAt hl1 (dg t.d (n - 1)) (n - 1) rfl (by omega)) ⟨Below.refl _ _, Left.of rfl⟩)
     · intro vs X wq K
       have LE := K.1
       have XN := K.2.1
       have SQ := Nat.le_trans LW.size (Nat.le_trans E.size LE.size)
       obtain ⟨_, e15, k15⟩ := K.dep 15 rfl rfl rfl
       refine ow_set 17 (.int .u8 ((dg t.d (n - 1) : Nat) : Int)) rfl e15 ?_
       obtain ⟨_, e5, k5⟩ := K.dep 5 rfl rfl rfl
       refine ow_set 7 (.bool true) rfl e5 ?_
       exact ow_on rfl (ow_eql rfl rfl ⟨Below.refl _ _, Left.of rfl⟩)
     · intro vs X wq K
       have LE := K.1
       have XN := K.2.1
       have SQ := Nat.le_trans LW.size (Nat.le_trans E.size LE.size)
       obtain ⟨_, e5, k5⟩ := K.dep 5 rfl rfl rfl
       refine ow_set 7 (.bool true) rfl e5 ?_
       obtain ⟨_, e16, k16⟩ := K.dep 16 rfl rfl rfl
       refine ow_set 18 (.bool (((dg t.d (n - 1) : Nat) : Int) == 48)) rfl e16 ?_
       exact ow_pickT rfl rfl ⟨Below.refl _ _, Left.of rfl⟩
   intro vs w6 LE AO AL AF AA
   have LBa := Ba
   replace Ba := Ba.drew.extN LE NotIn.nil
   replace E := E.drew.trans (LE.mono OY)
   obtain ⟨_, e17, k17⟩ := AL.2.2.2.2.2.2.2.2.2.2.2.2.2.2.2.2.2.1
   refine ew_sub (τ := [(0, _), (19, .bool (((dg t.d (n - 1) : Nat) : Int) == 48))]) ⟨rfl, congrArg some e17, trivial⟩ ?_
   clear AL AF AA LE AO OY e17 k17 LBa
   refine ew_next ?_
   refine cw_cond rfl (fun hd => ?_) (fun hd => ?_)
   ·
    have hd : dg t.d (n - 1) = 48 := by have hd := eq_of_beq hd; omega
    refine cw_skip ?_
    refine ew_next ?_
    refine cw_block ?_
    refine cw_region ?_
    refine rs_op rfl (ow_move rfl ?_)
    refine rs_op rfl (ow_nilCheck rfl ?_)
    refine rs_op rfl (ow_fieldAddr Tryz.underlying193 rfl sz3 (by decide) rfl ?_)
    refine rs_op rfl (ow_loadF Tryz.underlying3 rfl rfl Ba (ndAt hl1 (n) rfl) ?_)
    refine rs_op rfl (ow_sub rfl rfl (wrap_i64 (by omega)) ?_)
    refine rs_op rfl (ow_nilCheck rfl ?_)
    refine rs_op rfl (ow_fieldAddr Tryz.underlying193 rfl sz3 (by decide) rfl ?_)
    refine rs_set 24 (.int .i64 ((n - 1 : Nat) : Int)) rfl ((by congr 1; omega : (.int .i64 (((n : Nat) : Int) - 1) : Value) = _)) ?_
    refine rs_op0 (ow_storeE sz3 rfl rfl Ba rfl rfl (in_ hl1 (by decide : 800 < 804)) (set_nd hl1 (n - 1)) ?_)
    intro w7 Bx Ea
    replace Ba : Blk w7 ga 193 (decC { t with nd := n - 1 }) := Bx
    clear Bx
    replace E := E.step1 Ea Mut.head
    clear Ea
    refine rs_nil ?_
    refine ew_block_normal ?_
    exact ew_round (ι := Nat) (s := fun n => [(0, .pointer (some ⟨ga, 0, none⟩))]) (R := fun n w' => Ext (Mut [(some ga)]) w w' ∧ Blk w' ga 193 (decC { t with nd := n }) ∧ (n ≤ 800 ∧ trimN t.d n = trimN t.d t.nd)) (m := fun n => n) (i := n) (n - 1) (by omega) ⟨rfl, trivial⟩ ⟨M3.step E XM3, (by exact Ba), by omega, by rw [← he, trimN_on h0 hd]⟩
   ·
    have hd : dg t.d (n - 1) ≠ 48 := fun e => absurd hd (by rw [e]; decide)
    have e : trimN t.d t.nd = n := by rw [← he, trimN_off h0 hd]
    refine cw_exit ?_
    refine ew_then_exit ?_
    refine ew_then_exit ?_
    refine ew_block_here ?_
    replace Ba : Blk w6 ga 193 (decC { t with nd := trimN t.d t.nd }) := by rw [e]; exact Ba
    exact ew_mid () ⟨rfl, trivial⟩ ⟨M1.step E XM1, (by exact Ba), trivial⟩
 ·
  have LTa := (some_lt Ba.lt)
  clear Ba
  rintro _ w2 ⟨M1, Ba, _⟩
  have XM1 : ∀ q9, (Mut [(some ga)]) q9 → (Mut [(some ga)]) q9 ∨ w.heap.size ≤ q9 := (Mut.grow Mut.none_ (fun k e => Or.inl (Mut.head k e)))
  replace E := E.trans M1
  replace HF := HF.on E
  replace LW := LW.step E XLW
  replace E := Ext.refl (Mut [(some ga)]) w2
  clear LTa
  have hl' : ({ t with nd := trimN t.d t.nd } : Dec).d.length = 800 := hl
  refine cw_seq ?_
  refine cw_region ?_
  refine rs_op rfl (ow_move rfl ?_)
  refine rs_op rfl (ow_nilCheck rfl ?_)
  refine rs_op rfl (ow_fieldAddr Tryz.underlying193 rfl sz3 (by decide) rfl ?_)
  refine rs_op rfl (ow_loadF Tryz.underlying3 rfl rfl Ba (ndAt hl' (trimN t.d t.nd) rfl) ?_)
  refine rs_op rfl (ow_eql rfl rfl ?_)
  refine rs_nil ?_
  refine ew_next ?_
  refine cw_cond rfl (fun h1 => ?_) (fun h1 => ?_)
  ·
   have h1 : trimN t.d t.nd = 0 := by have h1 := eq_of_beq h1; omega
   refine cw_region ?_
   refine rs_op rfl (ow_move rfl ?_)
   refine rs_op rfl (ow_nilCheck rfl ?_)
   refine rs_op rfl (ow_fieldAddr Tryz.underlying193 rfl sz3 (by decide) rfl ?_)
   refine rs_op0 (ow_storeE sz3 rfl rfl Ba rfl rfl (in_ hl' (by decide : 801 < 804)) (set_dp hl' 0) ?_)
   intro w8 Bx Ea
   replace Ba : Blk w8 ga 193 (decC { t with nd := trimN t.d t.nd, dp := 0 }) := Bx
   clear Bx
   replace E := E.step1 Ea Mut.head
   clear Ea
   refine rs_nil ?_
   refine ew_end rfl ?_
   exact ⟨rfl, by unfold trimD; rw [if_pos h1]; exact Ba, (LW.step E XLW)⟩
  ·
   have h1 : trimN t.d t.nd ≠ 0 := fun e => absurd h1 (by rw [e]; decide)
   refine cw_skip ?_
   refine ew_end rfl ?_
   exact ⟨rfl, by unfold trimD; rw [if_neg h1]; exact Ba, (LW.step E XLW)⟩
theorem prefix_any (ga : Nat) (t : Dec) (n : Nat) (c : ByteArray) (l : List Nat) (hl : t.d.length = 800) (hn : n ≤ 800) (hc : c.size = l.length) (hcl : ∀ i, i < l.length → l[i]? = some (bAt c i)) (hB : Blk w ga 193 (decC t)) :
 Calls Tryz.prog 220 #[.slice (some ⟨ga, 0, none⟩) n 800, .string c] w fun e w' => e = .returned (.bool (preLess (t.d.take n) l)) ∧ Below w.heap.size w w' := by
 refine calls_cw Tryz.func220 rfl Tryz.ntmps220 rfl ?_
 have HF : Per (No) w (fun _ => True) := Per.true_
 have LW := Ext.refl (No) w
 have XLW : ∀ q9, (No) q9 → (No) q9 ∨ w.heap.size ≤ q9 := fun _ h => Or.inl h
 have E := Ext.refl (No) w
 replace HF := HF.on E
 replace LW := LW.step E XLW
 replace E := Ext.refl (No) w
 replace HF := HF.and (Per.blk hB (fun h => h.elim))
 refine cw_seq ?_
 refine cw_region ?_
 refine rs_op rfl (ow_assign rfl ?_)
 refine rs_nil ?_
 refine ew_next ?_
 refine cw_seq ?_
 refine cw_seq ?_
 refine cw_region ?_
 refine rs_op rfl (ow_assign rfl ?_)
 refine rs_nil ?_
 refine ew_next ?_
 refine cw_block ?_
 replace HF := HF.on E
 replace LW := LW.step E XLW
 replace E := Ext.refl (No) w
 refine cw_loop (ι := Nat) (fun i => [(0, .slice (some ⟨ga, 0, none⟩) n 800), (1, .string c), (4, .bool false), (5, .int .i64 ((i : Nat) : Int))]) (fun i w' => Ext (No) w w' ∧ (i ≤ l.length ∧ i ≤ n ∧ preLess ((t.d.take n).drop i) (l.drop i) = preLess (t.d.take n) l)) (fun i => l.length - i) 0 ⟨rfl, rfl, rfl, rfl, trivial⟩ ⟨Ext.refl _ _, Nat.zero_le _, Nat.zero_le _, rfl⟩ ?_
 rintro i w2 ⟨M1, ⟨hi, hin, he⟩⟩
 have XM1 : ∀ q9, (No) q9 → (No) q9 ∨ w.heap.size ≤ q9 := fun _ h => Or.inl h
 replace E := E.trans M1
 replace HF := HF.on E
 replace LW := LW.step E XLW
 replace E := Ext.refl (No) w2
 refine cw_seq ?_
 refine cw_seq ?_
 refine cw_region ?_
 refine rs_op rfl (ow_move rfl ?_)
 refine rs_op rfl (ow_move rfl ?_)
 refine rs_op rfl (ow_lenS Tryz.underlying9 rfl ?_)
 refine rs_op rfl (ow_lss rfl rfl ?_)
 refine rs_nil ?_
 refine ew_next ?_
 refine cw_cond rfl (fun h1 => ?_) (fun h1 => ?_)
 ·
  have h1 : i < l.length := by have h1 := of_decide_eq_true h1; omega
  refine cw_skip ?_
  refine ew_next ?_
  refine cw_seq ?_
  refine cw_block ?_
  refine cw_seq ?_
  refine cw_seq ?_
  refine cw_region ?_
  refine rs_op rfl (ow_move rfl ?_)
  refine rs_op rfl (ow_move rfl ?_)
  refine rs_op rfl (ow_len Tryz.underlying97 rfl ?_)
  refine rs_op rfl (ow_geq rfl rfl ?_)
  refine rs_nil ?_
  refine ew_next ?_
  refine cw_cond rfl (fun h2 => ?_) (fun h2 => ?_)
  ·
   have h2 : n ≤ i := by have h2 := of_decide_eq_true h2; omega
   have e : preLess (t.d.take n) l = true := by rw [← he, preLess_short (by rw [List.length_take]; omega) h1]
   refine cw_seq ?_
   refine cw_region ?_
   refine rs_op rfl (ow_assign rfl ?_)
   refine rs_nil ?_
   refine ew_next ?_
   refine cw_ret ?_
   refine ew_then_ret ?_
   refine ew_block_ret ?_
   refine ew_then_ret ?_
   refine ew_then_ret ?_
   refine ew_block_ret ?_
   refine ew_then_ret ?_
   refine ew_ret (rs := [.tmp 4]) (vs := [_]) rfl ⟨rfl, trivial⟩ ?_
   exact ⟨by rw [e]; rfl, (LW.step E XLW).toBelow⟩
  ·
   have h2 : i < n := by have h2 := of_decide_eq_false h2; omega
   have hs := preLess_at (take_at (d := t.d) h2 (by omega)) (hcl i h1)
   rw [he] at hs
   refine cw_skip ?_
   refine ew_next ?_
   refine cw_seq ?_
   have OY : ∀ q9, (Mut (outM [])) q9 → q9 < (World.drew w2).heap.size → (No) q9 := fun k h _ => (Mut.none_) k h
   refine cw_drawn (No) Mut.none_ [] [] (fxAt [Fx.of (.slice (some ⟨ga, 0, none⟩) n 800),
    Fx.of (.int .i64 ((i : Nat) : Int)),
    Fx.of (.pointer (some ⟨ga, i, none⟩)),
    Fx.of (.int .u8 ((dg t.d i : Nat) : Int)),
    Fx.of (.string c),
    Fx.of (.int .i64 ((i : Nat) : Int)),
    Fx.of (.int .u8 ((bAt c i : Nat) : Int)),
    Fx.of (.bool (((dg t.d i : Nat) : Int) != ((bAt c i : Nat) : Int)))]) mixed rfl trivial (fun _ h => by cases h) ?_ ?_
   · refine ⟨?_, ?_, ?_, ?_, ?_, ?_, ?_, ?_, trivial⟩
     · intro vs X wq K
       have LE := K.1
       have XN := K.2.1
       have SQ := Nat.le_trans LW.size (Nat.le_trans E.size LE.size)
       exact ow_move rfl ⟨Below.refl _ _, Left.of rfl⟩
     · intro vs X wq K
       have LE := K.1
       have XN := K.2.1
       have SQ := Nat.le_trans LW.size (Nat.le_trans E.size LE.size)
       exact ow_move rfl ⟨Below.refl _ _, Left.of rfl⟩
     · intro vs X wq K
       have LE := K.1
       have XN := K.2.1
       have SQ := Nat.le_trans LW.size (Nat.le_trans E.size LE.size)
       obtain ⟨_, e0, k0⟩ := K.dep 0 rfl rfl rfl
       refine ow_set 16 (.slice (some ⟨ga, 0, none⟩) n 800) rfl e0 ?_
       obtain ⟨_, e1, k1⟩ := K.dep 1 rfl rfl rfl
       refine ow_set 17 (.int .i64 ((i : Nat) : Int)) rfl e1 ?_
       exact ow_indexAddrS (j := i) Tryz.underlying97 sz5 rfl rfl rfl h2 ⟨Below.refl _ _, Left.of rfl⟩
     · intro vs X wq K
       have LE := K.1
       have XN := K.2.1
       have SQ := Nat.le_trans LW.size (Nat.le_trans E.size LE.size)
       obtain ⟨_, e2, k2⟩ := K.dep 2 rfl rfl rfl
       refine ow_set 18 (.pointer (some ⟨ga, i, none⟩)) rfl e2 ?_
       exact ow_loadF Tryz.underlying5 rfl rfl (HF.on (E.drew.trans (LE.mono OY))).here.2 (dec_at hl (by omega)) ⟨Below.refl _ _, Left.of rfl⟩
     · intro vs X wq K
       have LE := K.1
       have XN := K.2.1
       have SQ := Nat.le_trans LW.size (Nat.le_trans E.size LE.size)
       exact ow_move rfl ⟨Below.refl _ _, Left.of rfl⟩
     · intro vs X wq K
       have LE := K.1
       have XN := K.2.1
       have SQ := Nat.le_trans LW.size (Nat.le_trans E.size LE.size)
       exact ow_move rfl ⟨Below.refl _ _, Left.of rfl⟩
     · intro vs X wq K
       have LE := K.1
       have XN := K.2.1
       have SQ := Nat.le_trans LW.size (Nat.le_trans E.size LE.size)
       obtain ⟨_, e4, k4⟩ := K.dep 4 rfl rfl rfl
       refine ow_set 20 (.string c) rfl e4 ?_
       obtain ⟨_, e5, k5⟩ := K.dep 5 rfl rfl rfl
       refine ow_set 21 (.int .i64 ((i : Nat) : Int)) rfl e5 ?_
       exact ow_indexSL (j := i) (b := bAt c i) Tryz.underlying9 rfl rfl rfl (bAt_some (by omega)) ⟨Below.refl _ _, Left.of rfl⟩
     · intro vs X wq K
       have LE := K.1
       have XN := K.2.1
       have SQ := Nat.le_trans LW.size (Nat.le_trans E.size LE.size)
       obtain ⟨_, e3, k3⟩ := K.dep 3 rfl rfl rfl
       refine ow_set 19 (.int .u8 ((dg t.d i : Nat) : Int)) rfl e3 ?_
       obtain ⟨_, e6, k6⟩ := K.dep 6 rfl rfl rfl
       refine ow_set 22 (.int .u8 ((bAt c i : Nat) : Int)) rfl e6 ?_
       exact ow_neq rfl rfl ⟨Below.refl _ _, Left.of rfl⟩
   intro vs w3 LE AO AL AF AA
   replace E := E.drew.trans (LE.mono OY)
   obtain ⟨_, e7, k7⟩ := AL.2.2.2.2.2.2.2.1
   refine ew_sub (τ := [(0, _), (1, _), (4, _), (5, _), (23, .bool (((dg t.d i : Nat) : Int) != ((bAt c i : Nat) : Int)))]) ⟨rfl, rfl, rfl, rfl, congrArg some e7, trivial⟩ ?_
   clear AL AF AA LE AO OY e7 k7
   refine ew_next ?_
   refine cw_cond rfl (fun h3 => ?_) (fun h3 => ?_)
   ·
    have h3 : dg t.d i ≠ bAt c i := fun e => absurd h3 (by rw [e]; simp)
    rw [if_neg h3] at hs
    refine cw_seq ?_
    have OY : ∀ q9, (Mut (outM [])) q9 → q9 < (World.drew w3).heap.size → (No) q9 := fun k h _ => (Mut.none_) k h
    refine cw_drawn (No) Mut.none_ [] [] (fxAt [Fx.of (.slice (some ⟨ga, 0, none⟩) n 800),
     Fx.of (.int .i64 ((i : Nat) : Int)),
     Fx.of (.pointer (some ⟨ga, i, none⟩)),
     Fx.of (.int .u8 ((dg t.d i : Nat) : Int)),
     Fx.of (.string c),
     Fx.of (.int .i64 ((i : Nat) : Int)),
     Fx.of (.int .u8 ((bAt c i : Nat) : Int)),
     Fx.of (.bool (decide (dg t.d i < bAt c i))),
     Fx.of (.bool (decide (dg t.d i < bAt c i)))]) mixed rfl trivial (fun _ h => by cases h) ?_ ?_
    · refine ⟨?_, ?_, ?_, ?_, ?_, ?_, ?_, ?_, ?_, trivial⟩
      · intro vs X wq K
        have LE := K.1
        have XN := K.2.1
        have SQ := Nat.le_trans LW.size (Nat.le_trans E.size LE.size)
        exact ow_move rfl ⟨Below.refl _ _, Left.of rfl⟩
      · intro vs X wq K
        have LE := K.1
        have XN := K.2.1
        have SQ := Nat.le_trans LW.size (Nat.le_trans E.size LE.size)
        exact ow_move rfl ⟨Below.refl _ _, Left.of rfl⟩
      · intro vs X wq K
        have LE := K.1
        have XN := K.2.1
        have SQ := Nat.le_trans LW.size (Nat.le_trans E.size LE.size)
        obtain ⟨_, e0, k0⟩ := K.dep 0 rfl rfl rfl
        refine ow_set 24 (.slice (some ⟨ga, 0, none⟩) n 800) rfl e0 ?_
        obtain ⟨_, e1, k1⟩ := K.dep 1 rfl rfl rfl
        refine ow_set 25 (.int .i64 ((i : Nat) : Int)) rfl e1 ?_
        exact ow_indexAddrS (j := i) Tryz.underlying97 sz5 rfl rfl rfl h2 ⟨Below.refl _ _, Left.of rfl⟩
      · intro vs X wq K
        have LE := K.1
        have XN := K.2.1
        have SQ := Nat.le_trans LW.size (Nat.le_trans E.size LE.size)
        obtain ⟨_, e2, k2⟩ := K.dep 2 rfl rfl rfl
        refine ow_set 26 (.pointer (some ⟨ga, i, none⟩)) rfl e2 ?_
        exact ow_loadF Tryz.underlying5 rfl rfl (HF.on (E.drew.trans (LE.mono OY))).here.2 (dec_at hl (by omega)) ⟨Below.refl _ _, Left.of rfl⟩
      · intro vs X wq K
        have LE := K.1
        have XN := K.2.1
        have SQ := Nat.le_trans LW.size (Nat.le_trans E.size LE.size)
        exact ow_move rfl ⟨Below.refl _ _, Left.of rfl⟩
      · intro vs X wq K
        have LE := K.1
        have XN := K.2.1
        have SQ := Nat.le_trans LW.size (Nat.le_trans E.size LE.size)
        exact ow_move rfl ⟨Below.refl _ _, Left.of rfl⟩
      · intro vs X wq K
        have LE := K.1
        have XN := K.2.1
        have SQ := Nat.le_trans LW.size (Nat.le_trans E.size LE.size)
        obtain ⟨_, e4, k4⟩ := K.dep 4 rfl rfl rfl
        refine ow_set 28 (.string c) rfl e4 ?_
        obtain ⟨_, e5, k5⟩ := K.dep 5 rfl rfl rfl
        refine ow_set 29 (.int .i64 ((i : Nat) : Int)) rfl e5 ?_
        exact ow_indexSL (j := i) (b := bAt c i) Tryz.underlying9 rfl rfl rfl (bAt_some (by omega)) ⟨Below.refl _ _, Left.of rfl⟩
      · intro vs X wq K
        have LE := K.1
        have XN := K.2.1
        have SQ := Nat.le_trans LW.size (Nat.le_trans E.size LE.size)
        obtain ⟨_, e3, k3⟩ := K.dep 3 rfl rfl rfl
        refine ow_set 27 (.int .u8 ((dg t.d i : Nat) : Int)) rfl e3 ?_
        obtain ⟨_, e6, k6⟩ := K.dep 6 rfl rfl rfl
        refine ow_set 30 (.int .u8 ((bAt c i : Nat) : Int)) rfl e6 ?_
        exact ow_lss rfl rfl ⟨Below.refl _ _, Left.of (bool_dec (by omega))⟩
      · intro vs X wq K
        have LE := K.1
        have XN := K.2.1
        have SQ := Nat.le_trans LW.size (Nat.le_trans E.size LE.size)
        obtain ⟨_, e7, k7⟩ := K.dep 7 rfl rfl rfl
        refine ow_set 31 (.bool (decide (dg t.d i < bAt c i))) rfl e7 ?_
        exact ow_assign rfl ⟨Below.refl _ _, Left.of rfl⟩
    intro vs w4 LE AO AL AF AA
    replace E := E.drew.trans (LE.mono OY)
    obtain ⟨_, e8, k8⟩ := AL.2.2.2.2.2.2.2.2.1
    refine ew_sub (τ := [(0, _), (1, _), (4, .bool (decide (dg t.d i < bAt c i))), (5, _)]) ⟨rfl, rfl, congrArg some e8, rfl, trivial⟩ ?_
    clear AL AF AA LE AO OY e8 k8
    refine ew_next ?_
    refine cw_ret ?_
    refine ew_block_ret ?_
    refine ew_then_ret ?_
    refine ew_then_ret ?_
    refine ew_block_ret ?_
    refine ew_then_ret ?_
    refine ew_ret (rs := [.tmp 4]) (vs := [_]) rfl ⟨rfl, trivial⟩ ?_
    exact ⟨by rw [hs]; rfl, (LW.step E XLW).toBelow⟩
   ·
    have h3 : dg t.d i = bAt c i := by
     rcases Nat.decEq (dg t.d i) (bAt c i) with h | h
     · rw [bne_iff_ne.2 (by omega)] at h3; cases h3
     · exact h
    rw [if_pos h3] at hs
    refine cw_skip ?_
    refine ew_block_normal ?_
    refine ew_next ?_
    refine cw_region ?_
    refine rs_op rfl (ow_move rfl ?_)
    refine rs_op rfl (ow_add rfl rfl (wrap_i64 (by omega)) ?_)
    refine rs_op rfl (ow_assign rfl ?_)
    refine rs_nil ?_
    refine ew_set 5 (.int .i64 ((i + 1 : Nat) : Int)) rfl (rfl) ?_
    exact ew_round (ι := Nat) (s := fun i => [(0, .slice (some ⟨ga, 0, none⟩) n 800), (1, .string c), (4, .bool false), (5, .int .i64 ((i : Nat) : Int))]) (R := fun i w' => Ext (No) w w' ∧ (i ≤ l.length ∧ i ≤ n ∧ preLess ((t.d.take n).drop i) (l.drop i) = preLess (t.d.take n) l)) (m := fun i => l.length - i) (i := i) (i + 1) (by omega) ⟨rfl, rfl, rfl, rfl, trivial⟩ ⟨M1.step E XM1, by omega, by omega, hs.symm⟩
 ·
  have h1 : l.length ≤ i := by have h1 := of_decide_eq_false h1; omega
  have e : preLess (t.d.take n) l = false := by rw [← he, preLess_end _ h1]
  refine cw_exit ?_
  refine ew_then_exit ?_
  refine ew_then_exit ?_
  refine ew_block_here ?_
  refine ew_next ?_
  refine cw_seq ?_
  refine cw_region ?_
  refine rs_op rfl (ow_assign rfl ?_)
  refine rs_nil ?_
  refine ew_next ?_
  refine cw_ret ?_
  refine ew_ret (rs := [.tmp 4]) (vs := [_]) rfl ⟨rfl, trivial⟩ ?_
  exact ⟨by rw [e]; rfl, (LW.step E XLW).toBelow⟩
end
end Go.Proofs.YtjdcjdohghkcgaaGreatDoor

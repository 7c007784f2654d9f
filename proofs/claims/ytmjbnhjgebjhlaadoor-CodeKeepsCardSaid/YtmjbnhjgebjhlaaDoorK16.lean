/- Texts of this claim. -/
import Derived.Test.YtmjbnhjgebjhlaaDoorK15
import Derived.WalkKit
import Derived.Lib.Mul64
import Derived.Laws.Bits64b
import Derived.BigQuiet
import Derived.Deep.QuietTactic
import Derived.Lib.Hide
import Derived.Laws.Externs
import Derived.Deep.DeepCutAuto
import Derived.Deep.CutBlock
import Derived.Test.YtmjbnhjgebjhlaaDoorRows
namespace Go.Proofs.YtmjbnhjgebjhlaaDoor
open Go.RowKit Go.Lib
namespace M64
theorem maskN (a : Nat) (ha : a < 18446744073709551616) : bits .and .u64 (a : Int) 4294967295 = ((a % 4294967296 : Nat) : Int) := by
 have h := bits_and_u64_nat a 4294967295 ha (by omega);have e : a &&& 4294967295 = a % 4294967296 := Nat.and_two_pow_sub_one_eq_mod a 32;rw [e] at h;exact h
theorem divN (a : Nat) : (a : Int) / 4294967296 = ((a / 4294967296 : Nat) : Int) := by omega
theorem mulN (a b : Nat) : (a : Int) * (b : Int) = ((a * b : Nat) : Int) := (Int.natCast_mul a b).symm
theorem addN (a b : Nat) : (a : Int) + (b : Int) = ((a + b : Nat) : Int) := (Int.natCast_add a b).symm
theorem wrapN (a : Nat) (ha : a < 18446744073709551616) : IntKind.u64.wrap (a : Int) = (a : Int) := by rw [IntKind.wrap_u64]; omega
theorem wrapM (a : Nat) : IntKind.u64.wrap (a : Int) = ((a % 18446744073709551616 : Nat) : Int) := by rw [IntKind.wrap_u64]; omega
end M64
set_option maxHeartbeats 1000000 in
theorem mul64_any (x y : Nat) (hx : x < 18446744073709551616) (hy : y < 18446744073709551616) (w : World) :
 Calls Tryd.prog 85 #[.int .u64 x, .int .u64 y] w fun e w' => e = .returned (.tuple #[.int .u64 ((x * y / 18446744073709551616 : Nat) : Int), .int .u64 ((x * y % 18446744073709551616 : Nat) : Int)]) ∧ w = w' := by
 obtain ⟨bd, bt, bw, hhi⟩ := Lib.mul64_hi x y hx hy;have ba := Lib.half_mul_le (a := x / 4294967296) (b := y / 4294967296) (by omega) (by omega);have bb := Lib.half_mul_le (a := x / 4294967296) (b := y % 4294967296) (by omega) (by omega);have bc := Lib.half_mul_le (a := x % 4294967296) (b := y / 4294967296) (by omega) (by omega)
 have ba' : x / 4294967296 * (y / 4294967296) < 18446744073709551616 := by omega
 have bb' : x / 4294967296 * (y % 4294967296) < 18446744073709551616 := by omega
 have bc' : x % 4294967296 * (y / 4294967296) < 18446744073709551616 := by omega
 have bh1 : x / 4294967296 * (y / 4294967296) + (x / 4294967296 * (y % 4294967296) + x % 4294967296 * (y % 4294967296) / 4294967296) / 4294967296 < 18446744073709551616 := by omega
 have bh : x / 4294967296 * (y / 4294967296) + (x / 4294967296 * (y % 4294967296) + x % 4294967296 * (y % 4294967296) / 4294967296) / 4294967296 + ((x / 4294967296 * (y % 4294967296) + x % 4294967296 * (y % 4294967296) / 4294967296) % 4294967296 + x % 4294967296 * (y / 4294967296)) / 4294967296 < 18446744073709551616 := by omega
 go_enter Tryd.func85, Tryd.ntmps85
 go_wp2
 simp only [M64.maskN x hx, M64.maskN y hy, M64.divN, M64.mulN, M64.addN, M64.wrapN _ bd, M64.wrapN _ bb', M64.wrapN _ bt, M64.maskN _ bt, M64.wrapN _ bc', M64.wrapN _ bw, M64.wrapN _ ba', M64.wrapN _ bh1, M64.wrapN _ bh, M64.wrapM (x * y)]
 rw [hhi];go_ret2
 exact ⟨rfl, rfl⟩
set_option maxRecDepth 100000
set_option maxRecDepth 100000
end Go.Proofs.YtmjbnhjgebjhlaaDoor
namespace Go.Proofs.YtmjbnhjgebjhlaaDoor
open Go.RowKit
set_option maxRecDepth 100000
theorem below_same {w w' : World} (h : w = w') : Below w.heap.size w w' := by subst h; exact Below.refl _ _
theorem mul64_b (x y : Nat) (hx : x < 18446744073709551616) (hy : y < 18446744073709551616) (w : World) :
 Calls Tryd.prog 85 #[.int .u64 x, .int .u64 y] w fun e w' => e = .returned (.tuple #[.int .u64 ((x * y / 18446744073709551616 : Nat) : Int), .int .u64 ((x * y % 18446744073709551616 : Nat) : Int)]) ∧ Below w.heap.size w w' :=
 (mul64_any x y hx hy w).mono fun _ _ ⟨h1, h2⟩ => ⟨h1, below_same h2⟩
def hashF (a : Nat) : Int := if isN a then 0 else (if ng a then -1 else 1) * (if rg a = 9218868437227405312 then 314159 else ((hashM (rg a) : Nat) : Int))
section
variable (w : World) (a : Nat) (ha : a < 18446744073709551616)
include ha
section
variable (hf : rg a < 9218868437227405312)
include hf
section
variable (h0 : rg a ≠ 0)
include h0
end
end
end
def zjx (j : Nat) : Nat := (Go.Pinned.pow10Rows.getD j (0, 0)).1
def ziv (j : Nat) : Nat := (Go.Pinned.pow10Rows.getD j (0, 0)).2
theorem tab_all : Go.Pinned.pow10Rows.all (fun x => Nat.blt x.1 18446744073709551616 && Nat.blt x.2 18446744073709551616) = true := by kernel_rfl
theorem tab_length : Go.Pinned.pow10Rows.length = 696 := by kernel_rfl
theorem tab_row {j : Nat} (hj : j < 696) : Go.Pinned.pow10Rows[j]? = some (zjx j, ziv j) ∧ zjx j < 18446744073709551616 ∧ ziv j < 18446744073709551616 := by
 have hl : j < Go.Pinned.pow10Rows.length := by rw [tab_length]; exact hj
 have h := List.all_eq_true.1 tab_all _ (List.getElem_mem hl);rw [Bool.and_eq_true] at h;have e : Go.Pinned.pow10Rows[j]? = some Go.Pinned.pow10Rows[j] := List.getElem?_eq_getElem hl;have e1 : Go.Pinned.pow10Rows.getD j (0, 0) = Go.Pinned.pow10Rows[j] := by rw [List.getD_eq_getElem?_getD, e]; rfl
 unfold zjx ziv;rw [e1, e];exact ⟨rfl, Nat.le_of_ble_eq_true h.1, Nat.le_of_ble_eq_true h.2⟩
def PowT (w : World) : Prop := ∀ j, j < 696 → w.cell? ⟨9, j * 2, none⟩ = some (.int .u64 ((zjx j : Nat) : Int)) ∧ w.cell? ⟨9, j * 2 + 1, none⟩ = some (.int .u64 ((ziv j : Nat) : Int))
theorem PowT.lt {w : World} (h : PowT w) : 9 < w.heap.size := World.block_lt_of_cell? w _ (h 0 (by decide)).1
theorem Per.powT {X : Nat → Prop} {w : World} (h : PowT w) (hx : ¬ X 9) : Per X w PowT := fun b hb j hj =>
 ⟨(hb.cell (p := ⟨9, j * 2, none⟩) h.lt hx).trans (h j hj).1, (hb.cell (p := ⟨9, j * 2 + 1, none⟩) h.lt hx).trans (h j hj).2⟩
section
variable (w : World)
theorem prescale_any (gpre : Nat) (c0 c1 c2 : Value) (e lp : Int) (j : Nat) (hj : j < 696) (hB : Blk w gpre 138 #[c0, c1, c2]) (hT : PowT w) (hne : gpre ≠ 9) (he : -10000 ≤ e ∧ e ≤ 10000) (hlp : -10000 ≤ lp ∧ lp ≤ 10000) :
 Calls Tryd.prog 72 #[.pointer (some ⟨gpre, 0, none⟩), .int .i64 e, .int .i64 (((j : Nat) : Int) - 348), .int .i64 lp] w fun en w' => en = .returned (.tuple #[]) ∧ Blk w' gpre 138 #[.int .u64 ((zjx j : Nat) : Int), .int .u64 ((ziv j : Nat) : Int), .int .i64 (0 - (e + lp + 3))] ∧ Ext (Mut [some gpre]) w w' := by
 refine yl Tryd.func72 rfl Tryd.ntmps72 rfl ?_;have Bpre := hB;have HF : Per (Mut [(some gpre)]) w (fun _ => True) := Per.true_;have LW := erx (Mut [(some gpre)]) w;have XLW := grx (Mut [(some gpre)]) w;have E := erx (Mut [(some gpre)]) w;replace HF := HF.on E;replace LW := LW.step E XLW;replace E := erx (Mut [(some gpre)]) w
 replace HF := HF.and (Per.powT hT (fun h => h.elim (fun e => hne (Option.some.inj e).symm) (fun e => e.elim)))
 refine srx (mvx rfl (mvx rfl (za rfl (yw rfl rfl (zo (by omega)) (za rfl (xm (j := j) Tryd.underlying157 sz156 rfl rfl (by omega) hj (za rfl (zb Tryd.underlying156 rfl sz30 (by decide) rfl (za rfl (yk Tryd.underlying30 rfl rfl (by rw [Nat.zero_add]; exact ((HF.on E).here.2 j hj).1) (za rfl (zk rfl (za rfl (zb Tryd.underlying138 rfl sz30 (by decide) rfl (qf (qz sz30 rfl rfl Bpre rfl rfl (Nat.le_of_ble_eq_true rfl) ?_))))))))))))))))
 intro w1 Bx Epre;replace Bpre := Bx;replace E := E.step1 Epre Mut.head;clear Epre
 refine rnx (srx (mvx rfl (mvx rfl (za rfl (yw rfl rfl (zo (by omega)) (za rfl (xm (j := j) Tryd.underlying157 sz156 rfl rfl (by omega) hj (za rfl (zb Tryd.underlying156 rfl sz30 (by decide) rfl (za rfl (yk Tryd.underlying30 rfl rfl (by rw [Nat.zero_add]; exact ((HF.on E).here.2 j hj).2) (za rfl (zk rfl (za rfl (zb Tryd.underlying138 rfl sz30 (by decide) rfl (qf (qz sz30 rfl rfl Bpre rfl rfl (Nat.le_of_ble_eq_true rfl) ?_)))))))))))))))))
 intro w2 Bx Epre;replace Bpre := Bx;replace E := E.step1 Epre Mut.head;clear Epre
 refine rnx (zi (mvx rfl (mvx rfl (mvx rfl (za rfl (yg rfl rfl (zo (by omega)) (za rfl (yg rfl rfl (zo (by omega)) (za rfl (zkq rfl (zo (by omega)) (za rfl (zk rfl (za rfl (zb Tryd.underlying138 rfl sz3 (by decide) rfl (qf (qz sz3 rfl rfl Bpre rfl rfl (Nat.le_of_ble_eq_true rfl) ?_))))))))))))))));intro w3 Bx Epre
 replace Bpre := Bx;replace E := E.step1 Epre Mut.head;clear Epre;replace HF := HF.on E;replace LW := LW.step E XLW;have SB : ∀ q9, No q9 → Mut [(some gpre)] q9 := (Mut.skip Mut.nil_);replace HF := HF.less SB;replace XLW := fun k h => XLW k (SB k h);clear SB;replace E := erx (No) w3;replace HF := HF.and (Per.blkN Bpre NotIn.nil);clear Bpre;refine yf (ztz rfl ?_)
 exact ⟨rfl, by first | exact (HF.on E).here.2 | exact Bpre, (LW.step E XLW)⟩
end
/-! ### uscale -/
theorem sub_modM {M x y : Nat} (hM : 0 < M) (hy : y ≤ M) : ((x : Int) - (y : Int)) % (M : Int) = (((x + M - y) % M : Nat) : Int) := by
 refine sub_mod_gen (Nat.mod_lt _ hM) ?_;rw [Nat.mod_add_mod, Nat.sub_add_cancel (by omega), Nat.add_mod_right]
theorem sub_wrap {x y : Nat} (hy : y ≤ 18446744073709551616) : IntKind.u64.wrap (((x : Nat) : Int) - ((y : Nat) : Int)) = (((x + 18446744073709551616 - y) % 18446744073709551616 : Nat) : Int) := by
 rw [IntKind.wrap_u64];exact sub_modM (by decide) hy
theorem and_63 {s : Nat} (h : s < 64) : IntKind.i64.wrap (BitVec.ofInt IntKind.i64.bits ((s : Nat) : Int) &&& BitVec.ofInt IntKind.i64.bits 63).toNat = ((s : Nat) : Int) := by
 have key : ∀ s : Fin 64, IntKind.i64.wrap (BitVec.ofInt IntKind.i64.bits ((s.val : Nat) : Int) &&& BitVec.ofInt IntKind.i64.bits 63).toNat = ((s.val : Nat) : Int) := by decide +kernel
 exact key ⟨s, h⟩
theorem bne_nat (m n : Nat) : (((m : Nat) : Int) != ((n : Nat) : Int)) = decide (m ≠ n) := by
 by_cases h : m = n
 · subst h; simp
 · rw [decide_eq_true h]; exact bne_iff_ne.2 (by omega)
def b2n (b : Bool) : Nat := if b then 1 else 0
theorem b2n_le (b : Bool) : b2n b ≤ 1 := by cases b <;> decide
section
variable (w : World)
theorem bool2u (b : Bool) : Calls Tryd.prog 62 #[.bool b] w fun e w' => e = .returned (.int .u64 ((b2n b : Nat) : Int)) ∧ Below w.heap.size w w' := by
 refine yl Tryd.func62 rfl Tryd.ntmps62 rfl ?_;have LW := erx (No) w;have XLW := grx (No) w;have E := erx (No) w;refine srx (anx rfl (zf (srx (mvx rfl (rnx (zt rfl (fun h => ?_) (fun h => ?_)))))))
 ·
  refine srx (anx rfl (zr (zd (zp (rs := [.tmp 2]) (vs := [_]) rfl ⟨rfl, trivial⟩ ?_))));exact ⟨by rw [h]; rfl, (LW.step E XLW).toBelow⟩
 ·
  refine zj (ze (srx (anx rfl (zr (zp (rs := [.tmp 2]) (vs := [_]) rfl ⟨rfl, trivial⟩ ?_)))));exact ⟨by rw [h]; rfl, (LW.step E XLW).toBelow⟩
theorem bool2i (b : Bool) : Calls Tryd.prog 74 #[.bool b] w fun e w' => e = .returned (.int .i64 ((b2n b : Nat) : Int)) ∧ Below w.heap.size w w' := by
 refine yl Tryd.func74 rfl Tryd.ntmps74 rfl ?_;have LW := erx (No) w;have XLW := grx (No) w;have E := erx (No) w;refine srx (anx rfl (zf (srx (mvx rfl (rnx (zt rfl (fun h => ?_) (fun h => ?_)))))))
 ·
  refine srx (anx rfl (zr (zd (zp (rs := [.tmp 2]) (vs := [_]) rfl ⟨rfl, trivial⟩ ?_))));exact ⟨by rw [h]; rfl, (LW.step E XLW).toBelow⟩
 ·
  refine zj (ze (srx (anx rfl (zr (zp (rs := [.tmp 2]) (vs := [_]) rfl ⟨rfl, trivial⟩ ?_)))));exact ⟨by rw [h]; rfl, (LW.step E XLW).toBelow⟩
def uHi (x hi : Nat) : Nat := x * hi / 18446744073709551616
def uMid (x hi : Nat) : Nat := x * hi % 18446744073709551616
def uSub (x hi lo : Nat) : Nat := (uHi x hi + 18446744073709551616 - b2n (decide (uMid x hi < uHi x lo))) % 18446744073709551616
def uLow (x hi lo : Nat) : Nat := (uMid x hi + 18446744073709551616 - uHi x lo) % 18446744073709551616
def uscF (x hi lo s : Nat) : Nat :=
 if uHi x hi / 2 ^ s * 2 ^ s % 18446744073709551616 ≠ uHi x hi then uHi x hi / 2 ^ s ||| 1
 else uSub x hi lo / 2 ^ s ||| b2n (decide (1 < uLow x hi lo))
theorem uHi_lt {x hi : Nat} (hx : x < 18446744073709551616) (hh : hi < 18446744073709551616) : uHi x hi < 18446744073709551616 :=
 Nat.div_lt_of_lt_mul (Nat.lt_of_le_of_lt (Nat.mul_le_mul_left x (Nat.le_of_lt hh)) (Nat.mul_lt_mul_of_pos_right hx (by decide)))
theorem uscale_any (gp x hi lo s : Nat) (hx : x < 18446744073709551616) (hh : hi < 18446744073709551616) (hl : lo < 18446744073709551616) (hs : s < 64) (hB : Blk w gp 138 #[.int .u64 ((hi : Nat) : Int), .int .u64 ((lo : Nat) : Int), .int .i64 ((s : Nat) : Int)]) :
 Calls Tryd.prog 73 #[.int .u64 ((x : Nat) : Int), .pointer (some ⟨gp, 0, none⟩)] w fun e w' => e = .returned (.int .u64 ((uscF x hi lo s : Nat) : Int)) ∧ Below w.heap.size w w' := by
 have h1 := uHi_lt hx hh;have h2 := uHi_lt hx hl;have h3 : uMid x hi < 18446744073709551616 := Nat.mod_lt _ (by decide);have h4 : uSub x hi lo < 18446744073709551616 := Nat.mod_lt _ (by decide);have hd : ∀ m, m / 2 ^ s ≤ m := fun m => Nat.div_le_self _ _;refine yl Tryd.func73 rfl Tryd.ntmps73 rfl ?_;have HF : Per (No) w (fun _ => True) := Per.true_;have LW := erx (No) w
 have XLW := grx (No) w;have E := erx (No) w;replace HF := HF.on E;replace LW := LW.step E XLW;replace E := erx (No) w;replace HF := HF.and (Per.blk hB (fun h => h.elim))
 refine srx (anx rfl (srx (mvx rfl (mvx rfl (za rfl (zk rfl (za rfl (zb Tryd.underlying138 rfl sz30 (by decide) rfl (za rfl (zl Tryd.underlying30 rfl rfl (HF.on E).here.2 rfl (za rfl (zz en85 rfl ((mul64_b x hi hx hh _).mono ?_)))))))))))));rintro e w1 ⟨rfl, hb⟩;refine ⟨_, rfl, ?_⟩;replace E := blx E hb
 refine yd 16 (.tuple #[.int .u64 ((uHi x hi : Nat) : Int), .int .u64 ((uMid x hi : Nat) : Int)]) rfl ((by rw [uHi, uMid] : (.tuple #[.int .u64 ((x * hi / 18446744073709551616 : Nat) : Int), .int .u64 ((x * hi % 18446744073709551616 : Nat) : Int)] : Value) = _)) (mvx rfl (za rfl (yc rfl rfl (za rfl (yc rfl rfl (avx rfl (anx rfl (srx (mvx rfl (za rfl (zk rfl (za rfl (zb Tryd.underlying138 rfl sz3 (by decide) rfl (za rfl (zl Tryd.underlying3 rfl rfl (HF.on E).here.2 rfl (za rfl (vc rfl rfl (and_63 hs) (anx rfl (zf (srx (mvx rfl (mvx rfl (za rfl (kh rfl rfl (by omega) (kr _ s hs) (mvx rfl (za rfl (jl rfl rfl (by omega) (znx _ s hs) (mvx rfl (za rfl (qn rfl rfl (rnx (zu 30 (.bool (decide (uHi x hi / 2 ^ s * 2 ^ s % 18446744073709551616 ≠ uHi x hi))) rfl ((by rw [bne_nat] : (.bool (((uHi x hi / 2 ^ s * 2 ^ s % 18446744073709551616 : Nat) : Int) != ((uHi x hi : Nat) : Int)) : Value) = _)) (zt rfl (fun hc => ?_) (fun hc => ?_))))))))))))))))))))))))))))))))))
 ·
  have hc := of_decide_eq_true hc;refine srx (mvx rfl (mvx rfl (za rfl (kh rfl rfl (by omega) (kr _ s hs) (za rfl (kv rfl rfl (ke (n := 1) (Nat.lt_of_le_of_lt (hd _) h1) (by decide)) (anx rfl (zr (zd (zp (rs := [.tmp 4]) (vs := [_]) rfl ⟨rfl, trivial⟩ ?_))))))))));exact ⟨by rw [uscF, if_pos hc]; rfl, (LW.step E XLW).toBelow⟩
 ·
  have hc := of_decide_eq_false hc;refine zj (ze (srx (mvx rfl (mvx rfl (za rfl (zk rfl (za rfl (zb Tryd.underlying138 rfl sz30 (by decide) rfl (za rfl (zl Tryd.underlying30 rfl rfl (HF.on E).here.2 rfl (za rfl (zz en85 rfl ((mul64_b x lo hx hl _).mono ?_)))))))))))));rintro e w2 ⟨rfl, hb⟩;refine ⟨_, rfl, ?_⟩;replace E := blx E hb
  refine yd 41 (.tuple #[.int .u64 ((uHi x lo : Nat) : Int), .int .u64 ((x * lo % 18446744073709551616 : Nat) : Int)]) rfl ((by rw [uHi] : (.tuple #[.int .u64 ((x * lo / 18446744073709551616 : Nat) : Int), .int .u64 ((x * lo % 18446744073709551616 : Nat) : Int)] : Value) = _)) (mvx rfl (za rfl (yc rfl rfl (za rfl (yc rfl rfl (avx rfl (anx rfl (srx (mvx rfl (mvx rfl (mvx rfl (za rfl (yt rfl rfl (yd 47 (.bool (decide (uMid x hi < uHi x lo))) rfl (kb (by omega)) (za rfl (zz en62 rfl ((bool2u _ (decide (uMid x hi < uHi x lo))).mono ?_)))))))))))))))))
  rintro e w3 ⟨rfl, hb⟩;refine ⟨_, rfl, ?_⟩;replace E := blx E hb;refine za rfl (yw rfl rfl (sub_wrap (Nat.le_trans (b2n_le _) (by decide))) (yd 49 (.int .u64 ((uSub x hi lo : Nat) : Int)) rfl ((by rw [uSub] : (.int .u64 ((uSub x hi lo : Nat) : Int) : Value) = _)) (anx rfl (zf ?_))))
  have OY : ∀ q9, (Mut (xq [])) q9 → q9 < (World.drew w3).heap.size → (No) q9 := fun k h _ => (Mut.none_) k h;refine vu (No) Mut.none_ [] [] (oz [Fx.of (.int .u64 ((uSub x hi lo : Nat) : Int)),
   Fx.of (.int .i64 ((s : Nat) : Int)),
   Fx.of (.int .u64 ((uSub x hi lo / 2 ^ s : Nat) : Int)),
   Fx.of (.int .u64 ((uMid x hi : Nat) : Int)),
   Fx.of (.int .u64 ((uHi x lo : Nat) : Int)),
   Fx.of (.int .u64 ((uLow x hi lo : Nat) : Int)),
   Fx.of (.bool (decide (1 < uLow x hi lo))),
   Fx.of (.int .u64 ((b2n (decide (1 < uLow x hi lo)) : Nat) : Int)),
   Fx.of (.int .u64 ((uSub x hi lo / 2 ^ s ||| b2n (decide (1 < uLow x hi lo)) : Nat) : Int)),
   Fx.of (.int .u64 ((uSub x hi lo / 2 ^ s ||| b2n (decide (1 < uLow x hi lo)) : Nat) : Int))]) mixed rfl trivial (fun _ h => by cases h) ?_ ?_
  · refine ⟨?_, ?_, ?_, ?_, ?_, ?_, ?_, ?_, ?_, ?_, trivial⟩
    · intro vs X wq K;exact zq rfl ⟨Below.refl _ _, Left.of rfl⟩
    · intro vs X wq K;exact zq rfl ⟨Below.refl _ _, Left.of rfl⟩
    · intro vs X wq K;obtain ⟨_, e0, k0⟩ := K.dep 0 rfl rfl rfl;refine zh 50 (.int .u64 ((uSub x hi lo : Nat) : Int)) rfl e0 ?_;obtain ⟨_, e1, k1⟩ := K.dep 1 rfl rfl rfl;refine zh 51 (.int .i64 ((s : Nat) : Int)) rfl e1 ?_;exact kh rfl rfl (by omega) (kr _ s hs) ⟨Below.refl _ _, Left.of rfl⟩
    · intro vs X wq K;exact zq rfl ⟨Below.refl _ _, Left.of rfl⟩
    · intro vs X wq K;exact zq rfl ⟨Below.refl _ _, Left.of rfl⟩
    · intro vs X wq K;obtain ⟨_, e3, k3⟩ := K.dep 3 rfl rfl rfl;refine zh 53 (.int .u64 ((uMid x hi : Nat) : Int)) rfl e3 ?_;obtain ⟨_, e4, k4⟩ := K.dep 4 rfl rfl rfl;refine zh 54 (.int .u64 ((uHi x lo : Nat) : Int)) rfl e4 ?_;exact yw rfl rfl (sub_wrap (Nat.le_of_lt h2)) ⟨Below.refl _ _, Left.of rfl⟩
    · intro vs X wq K;obtain ⟨_, e5, k5⟩ := K.dep 5 rfl rfl rfl;refine zh 55 (.int .u64 ((uLow x hi lo : Nat) : Int)) rfl e5 ?_;exact qq rfl rfl ⟨Below.refl _ _, Left.of (kb (by omega))⟩
    · intro vs X wq K;obtain ⟨_, e6, k6⟩ := K.dep 6 rfl rfl rfl;refine zh 56 (.bool (decide (1 < uLow x hi lo))) rfl e6 (zz en62 rfl ((bool2u _ (decide (1 < uLow x hi lo))).mono ?_));rintro e w2 ⟨rfl, hb⟩;exact ⟨_, rfl, hb, Left.of rfl⟩
    · intro vs X wq K;obtain ⟨_, e2, k2⟩ := K.dep 2 rfl rfl rfl;refine zh 52 (.int .u64 ((uSub x hi lo / 2 ^ s : Nat) : Int)) rfl e2 ?_;obtain ⟨_, e7, k7⟩ := K.dep 7 rfl rfl rfl;refine zh 57 (.int .u64 ((b2n (decide (1 < uLow x hi lo)) : Nat) : Int)) rfl e7 ?_
      exact kv rfl rfl (ke (Nat.lt_of_le_of_lt (hd _) h4) (Nat.lt_of_le_of_lt (b2n_le _) (by decide))) ⟨Below.refl _ _, Left.of rfl⟩
    · intro vs X wq K;obtain ⟨_, e8, k8⟩ := K.dep 8 rfl rfl rfl;refine zh 58 (.int .u64 ((uSub x hi lo / 2 ^ s ||| b2n (decide (1 < uLow x hi lo)) : Nat) : Int)) rfl e8 ?_;exact vq rfl ⟨Below.refl _ _, Left.of rfl⟩
  intro vs w4 LE AO AL AF AA;replace E := E.drew.trans (LE.mono OY);obtain ⟨_, e9, k9⟩ := AL.2.2.2.2.2.2.2.2.2.1;refine je (τ := [(4, .int .u64 ((uSub x hi lo / 2 ^ s ||| b2n (decide (1 < uLow x hi lo)) : Nat) : Int))]) ⟨congrArg some e9, trivial⟩ ?_;clear AL AF AA LE AO OY e9 k9;refine ze (zr (zp (rs := [.tmp 4]) (vs := [_]) rfl ⟨rfl, trivial⟩ ?_))
  exact ⟨by rw [uscF, if_neg hc]; rfl, (LW.step E XLW).toBelow⟩
end
def xc (x : Nat) : Nat := if x = 0 then 0 else x.log2 + 1
theorem lenB_le {x k : Nat} (h : x < 2 ^ k) : xc x ≤ k := by
 unfold xc;split
 · omega
 · rename_i h0
   have := (Nat.log2_lt h0).2 h;omega
theorem lenB_shr {x k : Nat} (h : 2 ^ k ≤ x) : xc x = xc (x / 2 ^ k) + k := by
 have hp := zuz k;have h1 : x ≠ 0 := by omega
 have h2 : x / 2 ^ k ≠ 0 := by have := Nat.div_pos h hp; omega
 unfold xc;rw [if_neg h1, if_neg h2];have e : x.log2 = (x / 2 ^ k).log2 + k := by
  refine (Nat.log2_eq_iff h1).2 ⟨?_, ?_⟩
  · have := Nat.log2_self_le h2;rw [Nat.pow_add];exact Nat.le_trans (Nat.mul_le_mul_right _ this) (Nat.div_mul_le_self _ _)
  · have := @Nat.lt_log2_self (x / 2 ^ k);have h3 : x < (x / 2 ^ k + 1) * 2 ^ k := by
     have := Nat.div_add_mod x (2 ^ k);have h4 := Nat.mod_lt x hp;rw [Nat.add_mul, Nat.one_mul, Nat.mul_comm];omega
    rw [show (x / 2 ^ k).log2 + k + 1 = (x / 2 ^ k).log2 + 1 + k by omega, Nat.pow_add];exact Nat.lt_of_lt_of_le h3 (Nat.mul_le_mul_right _ this)
 omega
def lenTab : ByteArray := ⟨#[0, 1, 2, 2, 3, 3, 3, 3, 4, 4, 4, 4, 4, 4, 4, 4, 5, 5, 5, 5, 5, 5, 5, 5, 5, 5, 5, 5, 5, 5, 5, 5, 6, 6, 6, 6, 6, 6, 6, 6, 6, 6, 6, 6, 6, 6, 6, 6, 6, 6, 6, 6, 6, 6, 6, 6, 6, 6, 6, 6, 6, 6, 6, 6, 7, 7, 7, 7, 7, 7, 7, 7, 7, 7, 7, 7, 7, 7, 7, 7, 7, 7, 7, 7, 7, 7, 7, 7, 7, 7, 7, 7, 7, 7, 7, 7, 7, 7, 7, 7, 7, 7, 7, 7, 7, 7, 7, 7, 7, 7, 7, 7, 7, 7, 7, 7, 7, 7, 7, 7, 7, 7, 7, 7, 7, 7, 7, 7, 8, 8, 8, 8, 8, 8, 8, 8, 8, 8, 8, 8, 8, 8, 8, 8, 8, 8, 8, 8, 8, 8, 8, 8, 8, 8, 8, 8, 8, 8, 8, 8, 8, 8, 8, 8, 8, 8, 8, 8, 8, 8, 8, 8, 8, 8, 8, 8, 8, 8, 8, 8, 8, 8, 8, 8, 8, 8, 8, 8, 8, 8, 8, 8, 8, 8, 8, 8, 8, 8, 8, 8, 8, 8, 8, 8, 8, 8, 8, 8, 8, 8, 8, 8, 8, 8, 8, 8, 8, 8, 8, 8, 8, 8, 8, 8, 8, 8, 8, 8, 8, 8, 8, 8, 8, 8, 8, 8, 8, 8, 8, 8, 8, 8, 8, 8, 8, 8, 8, 8, 8, 8, 8, 8, 8, 8, 8, 8]⟩
theorem lenTab_at {u : Nat} (h : u < 256) : (lenTab.data[u]?).map (·.toNat) = some (xc u) := by
 have key : ∀ v : Fin 256, (lenTab.data[v.val]?).map (·.toNat) = some (xc v.val) := by decide +kernel
 exact key ⟨u, h⟩
section
variable (w : World)
theorem len64_any (x : Nat) (hx : x < 18446744073709551616) : Calls Tryd.prog 70 #[.int .u64 ((x : Nat) : Int)] w fun e w' => e = .returned (.int .i64 ((xc x : Nat) : Int)) ∧ Below w.heap.size w w' := by
 refine yl Tryd.func70 rfl Tryd.ntmps70 rfl ?_;have LW := erx (No) w;have XLW := grx (No) w;have E := erx (No) w;refine srx (anx rfl (zf (srx (mvx rfl (za rfl (vr rfl rfl (rnx ?_)))))));replace LW := LW.step E XLW;replace E := erx (No) w
 refine qd (ι := Nat × Nat) (fun (y, n) => [(0, .int .u64 ((y : Nat) : Int)), (2, .int .i64 ((n : Nat) : Int))]) (fun (y, n) w' => Ext (No) w w' ∧ (xc x = xc y + n ∧ y < 4294967296 ∧ n ≤ 32)) ?_ ?_
 ·
  have M1 := erx (No) w;have XM1 := grx (No) w;refine zt rfl (fun h => ?_) (fun h => ?_)
  ·
   have h := of_decide_eq_true h;refine srx (mvx rfl (za rfl (kh rfl rfl (by decide) (kr x 32 (by decide)) (anx rfl (zi (avx rfl (yf ?_)))))));exact yp (x / 2 ^ 32, 32) ⟨rfl, rfl, trivial⟩ ⟨M1.step E XM1, lenB_shr (by show 4294967296 ≤ x; omega), (Nat.div_lt_iff_lt_mul (zuz 32)).2 (by show x < 18446744073709551616; omega), Nat.le_refl _⟩
  ·
   have h := of_decide_eq_false h;refine zj ?_;exact yp (x, 0) ⟨rfl, rfl, trivial⟩ ⟨M1.step E XM1, rfl, by show x < 4294967296; omega, by decide⟩
 ·
  rintro ⟨y, n⟩ w2 ⟨M1, ⟨hy1, hy2, hy3⟩⟩;replace E := E.trans M1;replace LW := LW.step E XLW;replace E := erx (No) w2;refine zf (srx (mvx rfl (za rfl (vr rfl rfl (rnx ?_)))));replace LW := LW.step E XLW;replace E := erx (No) w2
  refine qd (ι := Nat × Nat) (fun (z, m) => [(0, .int .u64 ((z : Nat) : Int)), (2, .int .i64 ((m : Nat) : Int))]) (fun (z, m) w' => Ext (No) w2 w' ∧ (xc x = xc z + m ∧ z < 65536 ∧ m ≤ 48)) ?_ ?_
  ·
   have M3 := erx (No) w2;have XM3 := grx (No) w2;refine zt rfl (fun h => ?_) (fun h => ?_)
   ·
    have h := of_decide_eq_true h;have hs := lenB_shr (x := y) (k := 16) (by show 65536 ≤ y; omega);refine srx (mvx rfl (za rfl (kh rfl rfl (by decide) (kr y 16 (by decide)) (anx rfl (zi (mvx rfl (za rfl (yg rfl rfl (zo (by omega)) (avx rfl (yf ?_))))))))))
    exact yp (y / 2 ^ 16, n + 16) ⟨rfl, congrArg (fun z : Int => some (Value.int .i64 z)) (by omega), trivial⟩ ⟨M3.step E XM3, by show xc x = xc (y / 2 ^ 16) + (n + 16); omega, (Nat.div_lt_iff_lt_mul (zuz 16)).2 hy2, by show n + 16 ≤ 48; omega⟩
   ·
    have h := of_decide_eq_false h;refine zj ?_;exact yp (y, n) ⟨rfl, rfl, trivial⟩ ⟨M3.step E XM3, hy1, by show y < 65536; omega, by show n ≤ 48; omega⟩
  ·
   rintro ⟨z, m⟩ w4 ⟨M3, ⟨hz1, hz2, hz3⟩⟩;replace E := E.trans M3;replace LW := LW.step E XLW;replace E := erx (No) w4;refine zf (srx (mvx rfl (za rfl (vr rfl rfl (rnx ?_)))));replace LW := LW.step E XLW;replace E := erx (No) w4
   refine qd (ι := Nat × Nat) (fun (u, k) => [(0, .int .u64 ((u : Nat) : Int)), (2, .int .i64 ((k : Nat) : Int))]) (fun (u, k) w' => Ext (No) w4 w' ∧ (xc x = xc u + k ∧ u < 256 ∧ k ≤ 56)) ?_ ?_
   ·
    have M5 := erx (No) w4;have XM5 := grx (No) w4;refine zt rfl (fun h => ?_) (fun h => ?_)
    ·
     have h := of_decide_eq_true h;have hs := lenB_shr (x := z) (k := 8) (by show 256 ≤ z; omega);refine srx (mvx rfl (za rfl (kh rfl rfl (by decide) (kr z 8 (by decide)) (anx rfl (zi (mvx rfl (za rfl (yg rfl rfl (zo (by omega)) (avx rfl (yf ?_))))))))))
     exact yp (z / 2 ^ 8, m + 8) ⟨rfl, congrArg (fun z : Int => some (Value.int .i64 z)) (by omega), trivial⟩ ⟨M5.step E XM5, by show xc x = xc (z / 2 ^ 8) + (m + 8); omega, (Nat.div_lt_iff_lt_mul (zuz 8)).2 hz2, by show m + 8 ≤ 56; omega⟩
    ·
     have h := of_decide_eq_false h;refine zj ?_;exact yp (z, m) ⟨rfl, rfl, trivial⟩ ⟨M5.step E XM5, hz1, by show z < 256; omega, by show m ≤ 56; omega⟩
   ·
    rintro ⟨u, k⟩ w6 ⟨M5, ⟨hu1, hu2, hu3⟩⟩;replace E := E.trans M5;replace LW := LW.step E XLW;replace E := erx (No) w6;have hul := lenB_le (x := u) (k := 8) hu2
    refine srx (mvx rfl (mvx rfl (za rfl (ja Tryd.underlying5 Tryd.underlying30 rfl (xx (by omega)) (za rfl (yh (j := u) (b := xc u) Tryd.underlying9 rfl rfl rfl (lenTab_at hu2) (za rfl (ja Tryd.underlying3 Tryd.underlying5 rfl (zo (by omega)) (za rfl (yg rfl rfl (zo (by omega)) (anx rfl (zr (zp (rs := [.tmp 2]) (vs := [_]) rfl ⟨rfl, trivial⟩ ?_)))))))))))))
    exact ⟨by rw [hu1, Int.natCast_add, Int.add_comm]; rfl, (LW.step E XLW).toBelow⟩
end
end Go.Proofs.YtmjbnhjgebjhlaaDoor
namespace Go.Proofs.YtmjbnhjgebjhlaaDoor
open Go.RowKit
set_option maxRecDepth 100000
theorem shr_int (m : Int) (k : Nat) (hk : k < 64) : m.fdiv (2 ^ (min ((k : Nat) : Int).toNat IntKind.i64.bits)) = m / ((2 ^ k : Nat) : Int) := by
 rw [Int.toNat_natCast, show min k IntKind.i64.bits = k from Nat.min_eq_left (by show k ≤ 64; omega), Int.fdiv_eq_ediv_of_nonneg _ (Int.le_of_lt (Int.pow_pos (by decide)))];rw [show (2 : Int) ^ k = ((2 ^ k : Nat) : Int) by simp]
def l2p (p : Int) : Int := p * 108853 / 32768
def ycx (u : Nat) : Nat := (u + 1 + (u / 2 ^ 2 &&& 1)) / 2 ^ 2
theorem xl (u : Nat) : u &&& 1 ≤ 1 := Nat.and_le_right
def packA (m : Nat) : Nat := m &&& 9223372036854775808
def zrq (m : Nat) : Nat := m &&& 18442240474082181119
def packI (m : Nat) : Nat := packA m ||| 9218868437227405312
def packN (m k : Nat) : Nat := zrq m ||| (k * 2 ^ 52 % 18446744073709551616)
def zrz (m k : Nat) : Nat :=
 if m &&& 4503599627370496 = 0 then m
 else if 2047 ≤ k then packI m
 else packN m k
def ygk (m k : Nat) : Value :=
 if m &&& 4503599627370496 = 0 then .nilIface
 else if 2047 ≤ k then .iface 86 (.int .i64 1)
 else .nilIface
theorem clear_bit {m : Nat} (hm : m < 18446744073709551616) : IntKind.u64.wrap (BitVec.ofInt IntKind.u64.bits (m : Int) &&& ~~~BitVec.ofInt IntKind.u64.bits 4503599627370496).toNat = ((m &&& 18442240474082181119 : Nat) : Int) := by
 have e : ~~~BitVec.ofInt IntKind.u64.bits 4503599627370496 = BitVec.ofInt IntKind.u64.bits ((18442240474082181119 : Nat) : Int) := by decide +kernel
 rw [e];exact xa hm (by decide)
theorem inf_or {m : Nat} (hm : m < 18446744073709551616) : IntKind.u64.wrap (BitVec.ofInt IntKind.u64.bits ((packA m : Nat) : Int) ||| BitVec.ofInt IntKind.u64.bits 9218868437227405312).toNat = ((packI m : Nat) : Int) :=
 ke (m := packA m) (n := 9218868437227405312) (Nat.lt_of_le_of_lt Nat.and_le_left hm) (by decide)
theorem exp_or {m k : Nat} (hm : m < 18446744073709551616) : IntKind.u64.wrap (BitVec.ofInt IntKind.u64.bits ((zrq m : Nat) : Int) ||| BitVec.ofInt IntKind.u64.bits ((k * 2 ^ 52 % 18446744073709551616 : Nat) : Int)).toNat = ((packN m k : Nat) : Int) :=
 ke (m := zrq m) (n := k * 2 ^ 52 % 18446744073709551616) (Nat.lt_of_le_of_lt Nat.and_le_left hm) (Nat.mod_lt _ (by decide))
theorem eq_zero (m : Nat) : (((m : Nat) : Int) == 0) = decide (m = 0) := by
 by_cases h : m = 0
 · subst h; rfl
 · rw [decide_eq_false h]; exact beq_eq_false_iff_ne.2 (by omega)
attribute [local irreducible] OW RS
section
variable (w : World)
theorem l2p_any (p : Int) (hp : -10000 ≤ p ∧ p ≤ 10000) : Calls Tryd.prog 71 #[.int .i64 p] w fun e w' => e = .returned (.int .i64 (l2p p)) ∧ Below w.heap.size w w' := by
 refine yl Tryd.func71 rfl Tryd.ntmps71 rfl ?_;have LW := erx (No) w;have XLW := grx (No) w;have E := erx (No) w;refine srx (anx rfl (srx (mvx rfl (za rfl (gy rfl rfl (zo (by omega)) (za rfl (kh rfl rfl (by decide) (shr_int _ 15 (by decide)) (anx rfl (zr (zp (rs := [.tmp 2]) (vs := [_]) rfl ⟨rfl, trivial⟩ ?_))))))))));exact ⟨rfl, (LW.step E XLW).toBelow⟩
theorem round_any (u : Nat) (hu : u < 144115188075855872) : Calls Tryd.prog 77 #[.int .u64 ((u : Nat) : Int)] w fun e w' => e = .returned (.int .u64 ((ycx u : Nat) : Int)) ∧ Below w.heap.size w w' := by
 have h1 := xl (u / 2 ^ 2);have h2 : u / 2 ^ 2 ≤ u := Nat.div_le_self _ _;refine yl Tryd.func77 rfl Tryd.ntmps77 rfl ?_;have LW := erx (No) w;have XLW := grx (No) w;have E := erx (No) w
 refine srx (anx rfl (srx (mvx rfl (za rfl (yg rfl rfl (wrap_u64 (by omega)) (mvx rfl (za rfl (kh rfl rfl (by decide) (kr _ 2 (by decide)) (za rfl (vc rfl rfl (xa (n := 1) (by omega) (by decide)) (za rfl (yg rfl rfl (wrap_u64 (by omega)) (za rfl (kh rfl rfl (by decide) (kr _ 2 (by decide)) (anx rfl (zr (zp (rs := [.tmp 2]) (vs := [_]) rfl ⟨rfl, trivial⟩ ?_)))))))))))))))))
 exact ⟨rfl, (LW.step E XLW).toBelow⟩
theorem pack_any (m k : Nat) (hm : m < 18446744073709551616) (hk : 1 ≤ k ∧ k ≤ 10000) : Calls Tryd.prog 80 #[.int .u64 ((m : Nat) : Int), .int .i64 (((k : Nat) : Int) - 1075)] w fun e w' => e = .returned (.tuple #[.float .f64 (zrz m k), ygk m k]) ∧ Below w.heap.size w w' := by
 refine yl Tryd.func80 rfl Tryd.ntmps80 rfl ?_;have LW := erx (No) w;have XLW := grx (No) w;have E := erx (No) w
 refine srx (avx rfl (anx rfl (zf (srx (mvx rfl (za rfl (vc rfl rfl (xa (n := 4503599627370496) hm (by decide)) (za rfl (ye rfl rfl (rnx (zu 8 (.bool (decide (m &&& 4503599627370496 = 0))) rfl ((by rw [eq_zero] : (.bool (((m &&& 4503599627370496 : Nat) : Int) == 0) : Value) = _)) (zt rfl (fun h => ?_) (fun h => ?_)))))))))))))
 ·
  have h := of_decide_eq_true h;refine srx (mvx rfl (za rfl (jh (b := m) ex63 rfl (avx rfl (anx rfl (zr (zd (zp (rs := [.tmp 4, .tmp 5]) (vs := [_, _]) rfl ⟨rfl, rfl, trivial⟩ ?_))))))));exact ⟨by rw [zrz, ygk, if_pos h, if_pos h]; rfl, (LW.step E XLW).toBelow⟩
 ·
  have h := of_decide_eq_false h;refine zj (ze (zf (srx (mvx rfl (za rfl (vr rfl rfl (rnx (zu 12 (.bool (decide (2047 ≤ k))) rfl (kb (by omega)) (zt rfl (fun h' => ?_) (fun h' => ?_))))))))))
  ·
   have h' := of_decide_eq_true h'
   refine srx (mvx rfl (za rfl (vc rfl rfl (xa (n := 9223372036854775808) hm (by decide)) (yd 14 (.int .u64 ((packA m : Nat) : Int)) rfl ((by rw [packA] : (.int .u64 ((m &&& 9223372036854775808 : Nat) : Int) : Value) = _)) (za rfl (kv rfl rfl (inf_or hm) (za rfl (jh (b := packI m) ex63 rfl (za rfl (ow_mkI (by kernel_rfl) rfl (avx rfl (anx rfl (zr (zd (zp (rs := [.tmp 4, .tmp 5]) (vs := [_, _]) rfl ⟨rfl, rfl, trivial⟩ ?_)))))))))))))))
   exact ⟨by rw [zrz, ygk, if_neg h, if_neg h, if_pos h', if_pos h']; rfl, (LW.step E XLW).toBelow⟩
  ·
   have h' := of_decide_eq_false h'
   refine zj (ze (srx (mvx rfl (za rfl (ow_andNot rfl rfl (clear_bit hm) (mvx rfl (za rfl (yg rfl rfl (zo (by omega)) (za rfl (ja Tryd.underlying30 Tryd.underlying3 rfl (wrap_u64 (by omega)) (yd 22 (.int .u64 ((k : Nat) : Int)) rfl ((by congr 1; omega : (.int .u64 (1075 + (((k : Nat) : Int) - 1075)) : Value) = _)) (yd 19 (.int .u64 ((zrq m : Nat) : Int)) rfl ((by rw [zrq] : (.int .u64 ((m &&& 18442240474082181119 : Nat) : Int) : Value) = _)) (za rfl (jl rfl rfl (by decide) (znx k 52 (by decide)) (za rfl (kv rfl rfl (exp_or hm) (za rfl (jh (b := packN m k) ex63 rfl (avx rfl (anx rfl (zr (zp (rs := [.tmp 4, .tmp 5]) (vs := [_, _]) rfl ⟨rfl, rfl, trivial⟩ ?_))))))))))))))))))))))
   exact ⟨by rw [zrz, ygk, if_neg h, if_neg h, if_neg h', if_neg h']; rfl, (LW.step E XLW).toBelow⟩
end
/-! ### parseFloat64 -/
def eF (d j : Nat) : Int := min 1074 (53 - ((xc d : Nat) : Int) - l2p (((j : Nat) : Int) - 348))
def sF (d j : Nat) : Nat := (61 - ((xc d : Nat) : Int) - l2p (((j : Nat) : Int) - 348) - eF d j).toNat
def xF (d : Nat) : Nat := d * 2 ^ (64 - xc d) % 18446744073709551616
def uF (d j : Nat) : Nat := uscF (xF d) (zjx j) (ziv j) (sF d j)
def kF (d j : Nat) : Nat := b2n (decide (36028797018963966 ≤ uF d j))
def vF (d j : Nat) : Nat := uF d j / 2 ^ kF d j ||| (uF d j &&& 1)
def mF (d j sign : Nat) : Nat := sign ||| ycx (vF d j)
def zyx (d j sign : Nat) : Nat := if 64 ≤ sF d j then sign ||| 0 else zrz (mF d j sign) ((1075 - eF d j).toNat + kF d j)
def zyz (d j sign : Nat) : Value := if 64 ≤ sF d j then .nilIface else ygk (mF d j sign) ((1075 - eF d j).toNat + kF d j)
theorem lenB_pos {d : Nat} (h : 0 < d) : 1 ≤ xc d := by unfold xc; rw [if_neg (by omega)]; omega
theorem or_lt {a b k : Nat} (ha : a < 2 ^ k) (hb : b < 2 ^ k) : a ||| b < 2 ^ k := Nat.or_lt_two_pow ha hb
theorem div_lt_56 {a s : Nat} (h : a < 18446744073709551616) (hs : 8 ≤ s) : a / 2 ^ s < 72057594037927936 := by
 refine Nat.lt_of_le_of_lt (Nat.div_le_div_left (Nat.pow_le_pow_right (by decide) hs) (by decide)) ((Nat.div_lt_iff_lt_mul (zuz 8)).2 h)
theorem uscF_lt {x hi lo s : Nat} (hx : x < 18446744073709551616) (hh : hi < 18446744073709551616) (hs : 8 ≤ s) : uscF x hi lo s < 72057594037927936 := by
 have h1 := div_lt_56 (uHi_lt hx hh) hs;have h2 := div_lt_56 (a := uSub x hi lo) (Nat.mod_lt _ (by decide)) hs;unfold uscF;split
 · exact or_lt (k := 56) h1 (by decide)
 · exact or_lt (k := 56) h2 (Nat.lt_of_le_of_lt (b2n_le _) (by decide))
theorem vF_lt {d j : Nat} (h : uF d j < 72057594037927936) : vF d j < 72057594037927936 :=
 or_lt (k := 56) (Nat.lt_of_le_of_lt (Nat.div_le_self _ _) h) (Nat.lt_of_le_of_lt (xl _) (by decide))
theorem roundU_lt {u : Nat} (h : u < 72057594037927936) : ycx u < 18446744073709551616 := by
 have h1 := xl (u / 2 ^ 2);refine Nat.lt_of_le_of_lt (Nat.div_le_self _ _) (by omega)
theorem pk75_1 : Gives 75 #[.int .u64 9007199254740992] (.int .u64 36028797018963966) := by
 intro w;refine yl Tryd.func75 rfl Tryd.ntmps75 rfl ?_;have LW := erx (No) w;have XLW := grx (No) w;have E := erx (No) w
 refine srx (anx rfl (srx (mvx rfl (za rfl (jl (z := 36028797018963968) rfl rfl (by decide) (by kernel_rfl) (za rfl (yw (z := 36028797018963966) rfl rfl (by kernel_rfl) (anx rfl (zr (zp (rs := [.tmp 2]) (vs := [.int .u64 36028797018963966]) rfl ⟨rfl, trivial⟩ ?_))))))))));exact ⟨rfl, (LW.step E XLW).toBelow⟩
section
variable (w : World)
theorem prescale_nat (gpre : Nat) (c0 c1 c2 : Value) (e lp : Int) (j S : Nat) (hj : j < 696) (hB : Blk w gpre 138 #[c0, c1, c2]) (hT : PowT w) (hne : gpre ≠ 9) (he : -10000 ≤ e ∧ e ≤ 10000) (hlp : -10000 ≤ lp ∧ lp ≤ 10000) (hS : ((S : Nat) : Int) = 0 - (e + lp + 3)) :
 Calls Tryd.prog 72 #[.pointer (some ⟨gpre, 0, none⟩), .int .i64 e, .int .i64 (((j : Nat) : Int) - 348), .int .i64 lp] w fun en w' => en = .returned (.tuple #[]) ∧ Blk w' gpre 138 #[.int .u64 ((zjx j : Nat) : Int), .int .u64 ((ziv j : Nat) : Int), .int .i64 ((S : Nat) : Int)] ∧ Ext (Mut [some gpre]) w w' := by
 rw [hS]; exact prescale_any w gpre c0 c1 c2 e lp j hj hB hT hne he hlp
theorem fast_any (d j sign : Nat) (hd : 0 < d ∧ d < 18446744073709551616) (hj : 3 ≤ j ∧ j ≤ 658) (hs : sign < 18446744073709551616) (hT : PowT w) :
 Calls Tryd.prog 65 #[.int .u64 ((d : Nat) : Int), .int .i64 (((j : Nat) : Int) - 348), .int .u64 ((sign : Nat) : Int)] w fun e w' => e = .returned (.tuple #[.float .f64 (zyx d j sign), zyz d j sign]) ∧ Below w.heap.size w w' := by
 have hB1 := lenB_pos hd.1;have hB2 : xc d ≤ 64 := lenB_le (k := 64) hd.2;obtain ⟨B, hB⟩ : ∃ B, B = xc d := ⟨_, rfl⟩;obtain ⟨L, hL⟩ : ∃ L, L = l2p (((j : Nat) : Int) - 348) := ⟨_, rfl⟩;have hL' : -2000 ≤ L ∧ L ≤ 2000 := by rw [hL, l2p]; omega
 obtain ⟨E0, hE0⟩ : ∃ E0, E0 = eF d j := ⟨_, rfl⟩;have hE1 : E0 = min 1074 (53 - ((B : Nat) : Int) - L) := by rw [hE0, eF, hB, hL]
 obtain ⟨S, hS⟩ : ∃ S, S = sF d j := ⟨_, rfl⟩;have hS1 : ((S : Nat) : Int) = 61 - ((B : Nat) : Int) - L - E0 := by rw [hS, sF, ← hB, ← hL, ← hE0]; omega
 rw [← hB] at hB1 hB2;have hx : xF d < 18446744073709551616 := Nat.mod_lt _ (by decide);obtain ⟨_, ht1, ht2⟩ := tab_row (j := j) (by omega);have hu : uF d j < 72057594037927936 := uscF_lt hx ht1 (by rw [← hS]; omega);have hk : kF d j ≤ 1 := b2n_le _;have hv := vF_lt hu;have hr := roundU_lt hv;refine yl Tryd.func65 rfl Tryd.ntmps65 rfl ?_;have HF : Per (No) w (fun _ => True) := Per.true_
 have LW := erx (No) w;have XLW := grx (No) w;have E := erx (No) w;replace HF := HF.on E;replace LW := LW.step E XLW;replace E := erx (No) w;replace HF := HF.and (Per.powT hT (fun h => h.elim));refine srx (avx rfl (anx rfl (srx (mvx rfl (za rfl (zz en70 rfl ((len64_any _ d hd.2).mono ?_)))))));rintro e w1 ⟨rfl, hb⟩;refine ⟨_, rfl, ?_⟩;replace E := blx E hb
 refine yd 15 (.int .i64 ((B : Nat) : Int)) rfl ((by rw [hB] : (.int .i64 ((xc d : Nat) : Int) : Value) = _)) (anx rfl (srx (mvx rfl (za rfl (zz en71 rfl ((l2p_any _ (((j : Nat) : Int) - 348) (by omega)).mono ?_))))));rintro e w2 ⟨rfl, hb⟩;refine ⟨_, rfl, ?_⟩;replace E := blx E hb
 refine yd 17 (.int .i64 L) rfl ((by rw [hL] : (.int .i64 (l2p (((j : Nat) : Int) - 348)) : Value) = _)) (anx rfl (srx (mvx rfl (za rfl (yw rfl rfl (zo (by omega)) (mvx rfl (za rfl (yw rfl rfl (zo (by omega)) (za rfl (ow_min rfl rfl (yd 22 (.int .i64 E0) rfl ((by congr 1; rw [hE1]; split <;> omega : (.int .i64 (if 53 - ((B : Nat) : Int) - L < 1074 then 53 - ((B : Nat) : Int) - L else 1074) : Value) = _)) (anx rfl (srx (za rfl (jb zr138 ?_)))))))))))))))
 intro gb3 w4 Bb3 Eb3 Gb3;have Gb3 : _ ≤ gb3 := Nat.le_trans E.size Gb3;have GLb3 := Nat.le_trans LW.size Gb3;replace E := E.trans Eb3.no;replace HF := HF.cons (yb Gb3);replace E := E.cons (some gb3);replace XLW := Mut.grow XLW (fun k e => Or.inr (Nat.le_trans LW.size ((yb Gb3) k e)))
 refine rnx (srx (mvx rfl (mvx rfl (za rfl (yw rfl rfl (zo (by omega)) (za rfl (yw rfl rfl (zo (by omega)) (mvx rfl (mvx rfl (za rfl (zz en72 rfl ((prescale_nat _ gb3 _ _ _ _ _ j S (by omega) Bb3 (HF.on E).here.2 (by have := hT.lt; omega) (by omega) (by omega) (by omega)).mono ?_))))))))))));rintro e w5 ⟨rfl, hB, hE⟩;refine ⟨_, rfl, ?_⟩;replace Bb3 := hB
 clear hB;replace E := E.step1 hE Mut.head;clear hE;refine rnx (zf (srx (za rfl (zb Tryd.underlying138 rfl sz3 (by decide) rfl (za rfl (zl Tryd.underlying3 rfl rfl Bb3 rfl (za rfl (vr rfl rfl (rnx (zu 32 (.bool (decide (64 ≤ S))) rfl (kb (by omega)) (zt rfl (fun h => ?_) (fun h => ?_))))))))))))
 ·
  have h := of_decide_eq_true h;have h' : 64 ≤ sF d j := hS ▸ h;refine srx (mvx rfl (za rfl (kv rfl rfl (ke (n := 0) hs (by decide)) (za rfl (jh (b := sign ||| 0) ex63 rfl (avx rfl (anx rfl (zr (zd (zp (rs := [.tmp 6, .tmp 7]) (vs := [_, _]) rfl ⟨rfl, rfl, trivial⟩ ?_))))))))))
  exact ⟨by rw [zyx, zyz, if_pos h', if_pos h']; rfl, (LW.step E XLW).toBelow⟩
 ·
  have h := of_decide_eq_false h;have h' : ¬ 64 ≤ sF d j := hS ▸ h;replace HF := HF.on E;replace LW := LW.step E XLW;have SB : ∀ q9, No q9 → Mut [(some gb3)] q9 := (Mut.skip Mut.nil_);replace HF := HF.less SB;replace XLW := fun k h => XLW k (SB k h);clear SB;replace E := erx (No) w5;replace HF := HF.and (Per.blkN Bb3 NotIn.nil)
  refine zj (ze (srx (mvx rfl (mvx rfl (za rfl (yw rfl rfl (zo (by omega)) (yd 38 (.int .i64 ((64 - B : Nat) : Int)) rfl ((by congr 1; omega : (.int .i64 (64 - ((B : Nat) : Int)) : Value) = _)) (za rfl (jl rfl rfl (by omega) (znx d (64 - B) (by omega)) (yd 39 (.int .u64 ((xF d : Nat) : Int)) rfl ((by rw [xF, hB] : (.int .u64 ((d * 2 ^ (64 - B) % 18446744073709551616 : Nat) : Int) : Value) = _)) (za rfl (zz en73 rfl ((uscale_any _ gb3 (xF d) (zjx j) (ziv j) S hx ht1 ht2 (by omega) (HF.on E).here.2).mono ?_)))))))))))))
  rintro e w6 ⟨rfl, hb⟩;refine ⟨_, rfl, ?_⟩;replace E := blx E hb;refine yd 40 (.int .u64 ((uF d j : Nat) : Int)) rfl ((by rw [uF, hS] : (.int .u64 ((uscF (xF d) (zjx j) (ziv j) S : Nat) : Int) : Value) = _)) (anx rfl (srx (mvx rfl (za rfl (zz en75 rfl ((pk75_1 _).mono ?_))))));rintro e w7 ⟨rfl, hb⟩;refine ⟨_, rfl, ?_⟩;replace E := blx E hb
  refine za rfl (vr rfl rfl (yd 43 (.bool (decide (36028797018963966 ≤ uF d j))) rfl (kb (by omega)) (za rfl (zz en74 rfl ((bool2i _ (decide (36028797018963966 ≤ uF d j))).mono ?_)))));rintro e w8 ⟨rfl, hb⟩;refine ⟨_, rfl, ?_⟩;replace E := blx E hb
  refine yd 44 (.int .i64 ((kF d j : Nat) : Int)) rfl ((by rw [kF] : (.int .i64 ((b2n (decide (36028797018963966 ≤ uF d j)) : Nat) : Int) : Value) = _)) (anx rfl (srx (mvx rfl (mvx rfl (za rfl (kh rfl rfl (by omega) (kr _ (kF d j) (by omega)) (mvx rfl (za rfl (vc rfl rfl (xa (n := 1) (by omega) (by decide)) (za rfl (kv rfl rfl (ke (Nat.lt_of_le_of_lt (Nat.div_le_self _ _) (by omega)) (Nat.lt_of_le_of_lt (xl _) (by decide))) (yd 50 (.int .u64 ((vF d j : Nat) : Int)) rfl ((by rw [vF] : (.int .u64 ((uF d j / 2 ^ kF d j ||| (uF d j &&& 1) : Nat) : Int) : Value) = _)) (anx rfl (srx (mvx rfl (mvx rfl (za rfl (yw rfl rfl (zo (by omega)) (anx rfl (srx (mvx rfl (mvx rfl (za rfl (zz en77 rfl ((round_any _ (vF d j) (by omega)).mono ?_)))))))))))))))))))))))))
  rintro e w9 ⟨rfl, hb⟩;refine ⟨_, rfl, ?_⟩;replace E := blx E hb
  refine za rfl (kv rfl rfl (ke hs hr) (yd 57 (.int .u64 ((mF d j sign : Nat) : Int)) rfl ((by rw [mF] : (.int .u64 ((sign ||| ycx (vF d j) : Nat) : Int) : Value) = _)) (mvx rfl (za rfl (zkq rfl (zo (by omega)) (yd 59 (.int .i64 ((((1075 - E0).toNat + kF d j : Nat) : Int) - 1075)) rfl ((by congr 1; omega : (.int .i64 (0 - (E0 - ((kF d j : Nat) : Int))) : Value) = _)) (za rfl (zz en80 rfl ((pack_any _ (mF d j sign) ((1075 - E0).toNat + kF d j) (or_lt (k := 64) hs hr) (by omega)).mono ?_)))))))))
  rintro e w10 ⟨rfl, hb⟩;refine ⟨_, rfl, ?_⟩;replace E := blx E hb;refine za rfl (yc rfl rfl (za rfl (yc rfl rfl (avx rfl (anx rfl (zr (zp (rs := [.tmp 6, .tmp 7]) (vs := [_, _]) rfl ⟨rfl, rfl, trivial⟩ ?_)))))));exact ⟨by rw [zyx, zyz, if_neg h', if_neg h', ← hE0]; rfl, (LW.step E XLW).toBelow⟩
end
end Go.Proofs.YtmjbnhjgebjhlaaDoor
namespace Go.Proofs.YtmjbnhjgebjhlaaDoor
open Go.RowKit
set_option maxRecDepth 100000
def Tame (b : Nat) : Prop := b ≤ 9218868437227405312
theorem and_bit_lt {m i : Nat} (h : m < 2 ^ i) : m &&& 2 ^ i = 0 := by
 apply Nat.eq_of_testBit_eq
 intro j;rw [Nat.testBit_and, Nat.testBit_two_pow, Nat.zero_testBit];by_cases hj : i = j
 · subst hj; rw [Nat.testBit_lt_two_pow h]; rfl
 · rw [decide_eq_false hj, Bool.and_false]
theorem packC_lt {m : Nat} (h : m < 9007199254740992) : zrq m < 4503599627370496 := by
 have e : m = m &&& (2 ^ 53 - 1) := by rw [Nat.and_two_pow_sub_one_eq_mod, Nat.mod_eq_of_lt h]
 have e2 : zrq m = m % 2 ^ 52 := by
  unfold zrq;rw [← Nat.and_two_pow_sub_one_eq_mod];conv => lhs; rw [e]
  rw [Nat.and_assoc];have : (2 ^ 53 - 1) &&& 18442240474082181119 = 2 ^ 52 - 1 := by decide +kernel
  rw [this]
 rw [e2];exact Nat.mod_lt _ (by decide)
theorem packF_tame {m k : Nat} (hm : m ≤ 9007199254740992) : Tame (zrz m k) := by
 unfold zrz;split
 · unfold Tame; omega
 · rename_i h
   have hlt : m < 9007199254740992 := by
    rcases Nat.lt_or_eq_of_le hm with h' | h'
    · exact h'
    · subst h'; exact absurd (by decide +kernel) h
   split
   · have e : packA m = 0 := and_bit_lt (i := 63) (by show m < 9223372036854775808; omega);unfold packI;rw [e];exact Nat.le_refl _
   · rename_i hk
     have hc := packC_lt hlt;have hk' : k * 2 ^ 52 % 18446744073709551616 = 2 ^ 52 * k := by
      rw [Nat.mul_comm]; exact Nat.mod_eq_of_lt (by show 4503599627370496 * k < 18446744073709551616; omega)
     unfold packN;rw [hk', Nat.or_comm, ← Nat.two_pow_add_eq_or_of_lt hc];show 4503599627370496 * k + zrq m ≤ 9218868437227405312
     omega
theorem zero_or (a : Nat) : 0 ||| a = a := Nat.zero_or a
theorem roundU_le {u : Nat} (h : u < 36028797018963968) : ycx u ≤ 9007199254740992 := by
 have h1 := xl (u / 2 ^ 2);unfold ycx;show (u + 1 + (u / 4 &&& 1)) / 4 ≤ 9007199254740992
 have h2 : u / 4 &&& 1 ≤ 1 := h1;omega
theorem vF_lt' {d j : Nat} (h : uF d j < 72057594037927936) : vF d j < 36028797018963968 := by
 unfold vF;refine or_lt (k := 55) ?_ (Nat.lt_of_le_of_lt (xl _) (by decide));unfold kF b2n;by_cases hc : 36028797018963966 ≤ uF d j
 · rw [decide_eq_true hc, if_pos rfl];show uF d j / 2 < 36028797018963968
   omega
 · rw [decide_eq_false hc, if_neg (by decide)];show uF d j / 1 < 36028797018963968
   omega
theorem uF_lt {d j : Nat} (hd : 0 < d ∧ d < 18446744073709551616) (hj : 3 ≤ j ∧ j ≤ 658) : uF d j < 72057594037927936 := by
 obtain ⟨_, ht1, _⟩ := tab_row (j := j) (by omega);have hB1 := lenB_pos hd.1;have hB2 : xc d ≤ 64 := lenB_le (k := 64) hd.2;refine uscF_lt (Nat.mod_lt _ (by decide)) ht1 ?_;unfold sF eF;have : -2000 ≤ l2p (((j : Nat) : Int) - 348) ∧ l2p (((j : Nat) : Int) - 348) ≤ 2000 := by rw [l2p]; omega
 omega
structure SliceA (g b o n c : Nat) (vs : List Value) (w : World) : Prop where
 head : w.cell? ⟨g, 0, none⟩ = some (.slice (some ⟨b, o, none⟩) n c)
 cells : ∀ i v, vs[i]? = some v → w.cell? ⟨b, o + i, none⟩ = some v
theorem Per.cellA {X : Nat → Prop} {w : World} {p : Addr} {v : Value} (h : w.cell? p = some v) (hX : ∀ k, X k → w.heap.size ≤ k) : Per X w (fun z => z.cell? p = some v) := fun _ hb =>
 (hb.cell (World.block_lt_of_cell? w _ h) (fun hx => Nat.lt_irrefl _ (Nat.lt_of_lt_of_le (World.block_lt_of_cell? w _ h) (hX _ hx)))).trans h
def tenRow : List Nat := [4607182418800017408, 4621819117588971520, 4636737291354636288, 4652007308841189376, 4666723172467343360, 4681608360884174848, 4696837146684686336, 4711630319722168320, 4726483295884279808, 4741671816366391296, 4756540486875873280, 4771362005757984768, 4786511204640096256, 4801453603149578240, 4816244402031689728, 4831355200913801216, 4846369599423283200, 4861130398305394688, 4876203697187506176, 4891288408196988160, 4906019910204099648, 4921056587992461136, 4936209963552724370]
def oy (j : Nat) : Nat := tenRow.getD j 0
theorem yak {j : Nat} (h : j < 23) : (tenRow.map (fun f => Value.float .f64 f))[j]? = some (.float .f64 (oy j)) := by
 have key : ∀ i : Fin 23, (tenRow[i.val]?) = some (oy i.val) := by decide +kernel
 rw [List.getElem?_map, key ⟨j, h⟩]; rfl
theorem tenF_pos {j : Nat} (h : j < 23) : rg (oy j) < 9218868437227405312 ∧ rg (oy j) ≠ 0 ∧ ng (oy j) = false := by
 have key : ∀ i : Fin 23, rg (oy i.val) < 9218868437227405312 ∧ rg (oy i.val) ≠ 0 ∧ ng (oy i.val) = false := by decide +kernel
 exact key ⟨j, h⟩
def pows : List Int := [1, 3, 6, 9, 13, 16, 19, 23, 26]
def lcB (k : Nat) : ByteArray := ⟨(Go.Pinned.cheatRows.getD k (0, [])).2.toArray⟩
theorem lc_row {k : Nat} (h : Shl k) : (Go.Pinned.cheatRows.getD k (0, [])).1 = lcD k ∧ (Go.Pinned.cheatRows.getD k (0, [])).2.map (·.toNat) = lcS k ∧ k < 61 := by
 rcases h with rfl | rfl | rfl | rfl | rfl | rfl | rfl | rfl | rfl | rfl | rfl <;> exact ⟨by decide +kernel, by decide +kernel, by decide⟩
structure CheatA (b o c : Nat) (w : World) : Prop where
 head : w.cell? ⟨11, 0, none⟩ = some (.slice (some ⟨b, o, none⟩) 61 c)
 delta : ∀ k, Shl k → w.cell? ⟨b, o + k * 2, none⟩ = some (.int .i64 ((lcD k : Nat) : Int))
 cut : ∀ k, Shl k → w.cell? ⟨b, o + k * 2 + 1, none⟩ = some (.string (lcB k))
structure Tabs (bp op cp bf of cf bl ol cl : Nat) (w : World) : Prop where
 pow : PowT w
 man : w.cell? ⟨5, 0, none⟩ = some (.int .u64 52)
 exp : w.cell? ⟨5, 1, none⟩ = some (.int .u64 11)
 bias : w.cell? ⟨5, 2, none⟩ = some (.int .i64 (-1023))
 opt : w.cell? ⟨4, 0, none⟩ = some (.bool true)
 powtab : SliceA 7 bp op 9 cp (pows.map (fun z => Value.int .i64 z)) w
 ten : SliceA 8 bf of 23 cf (tenRow.map (fun f => Value.float .f64 f)) w
 cheat : CheatA bl ol cl w
structure TabsB (bp bf bl n : Nat) : Prop where
 pow : 9 < n
 info : 5 < n
 opt : 4 < n
 pt : 7 < n
 tn : 8 < n
 ch : 11 < n
 bp : bp < n
 bf : bf < n
 bl : bl < n
theorem Tabs.below {w : World} {bp op cp bf of cf bl ol cl : Nat} (h : Tabs bp op cp bf of cf bl ol cl w) : TabsB bp bf bl w.heap.size :=
 have lt {p : Addr} {v : Value} (e : w.cell? p = some v) : p.block < w.heap.size := World.block_lt_of_cell? w _ e;⟨h.pow.lt, lt h.man, lt h.opt, lt h.powtab.head, lt h.ten.head, lt h.cheat.head, lt (h.powtab.cells 0 _ rfl), lt (h.ten.cells 0 _ rfl), lt (h.cheat.delta 1 (.inl rfl))⟩
theorem TabsB.le {bp bf bl n m : Nat} (h : TabsB bp bf bl n) (hm : n ≤ m) : TabsB bp bf bl m :=
 ⟨Nat.lt_of_lt_of_le h.pow hm, Nat.lt_of_lt_of_le h.info hm, Nat.lt_of_lt_of_le h.opt hm, Nat.lt_of_lt_of_le h.pt hm, Nat.lt_of_lt_of_le h.tn hm, Nat.lt_of_lt_of_le h.ch hm, Nat.lt_of_lt_of_le h.bp hm, Nat.lt_of_lt_of_le h.bf hm, Nat.lt_of_lt_of_le h.bl hm⟩
theorem Per.cellB {X : Nat → Prop} {w : World} {p : Addr} {v : Value} {n : Nat} (h : w.cell? p = some v) (hp : p.block < n) (hX : ∀ k, X k → n ≤ k) : Per X w (fun z => z.cell? p = some v) := fun _ hb =>
 (hb.cell (World.block_lt_of_cell? w _ h) (fun hx => Nat.lt_irrefl _ (Nat.lt_of_lt_of_le hp (hX _ hx)))).trans h
theorem Per.tabsB {X : Nat → Prop} {w : World} {bp op cp bf of cf bl ol cl n : Nat} (h : Tabs bp op cp bf of cf bl ol cl w) (hn : TabsB bp bf bl n) (hX : ∀ k, X k → n ≤ k) : Per X w (Tabs bp op cp bf of cf bl ol cl) := fun z hz =>
 ⟨Per.powT h.pow (fun hx => Nat.lt_irrefl _ (Nat.lt_of_lt_of_le hn.pow (hX _ hx))) z hz, Per.cellB h.man hn.info hX z hz, Per.cellB h.exp hn.info hX z hz, Per.cellB h.bias hn.info hX z hz, Per.cellB h.opt hn.opt hX z hz,
  ⟨Per.cellB h.powtab.head hn.pt hX z hz, fun i v hv => Per.cellB (h.powtab.cells i v hv) hn.bp hX z hz⟩, ⟨Per.cellB h.ten.head hn.tn hX z hz, fun i v hv => Per.cellB (h.ten.cells i v hv) hn.bf hX z hz⟩,
  ⟨Per.cellB h.cheat.head hn.ch hX z hz, fun k hk => Per.cellB (h.cheat.delta k hk) hn.bl hX z hz, fun k hk => Per.cellB (h.cheat.cut k hk) hn.bl hX z hz⟩⟩
theorem Per.tabs {X : Nat → Prop} {w : World} {bp op cp bf of cf bl ol cl : Nat} (h : Tabs bp op cp bf of cf bl ol cl w) (hX : ∀ k, X k → w.heap.size ≤ k) : Per X w (Tabs bp op cp bf of cf bl ol cl) := Per.tabsB h h.below hX
theorem near_sgn (m : Nat) : Sgn false (FloatKind.f64.nearest ((m : Nat) : Int)) := by
 have e : FloatKind.f64.nearest ((m : Nat) : Int) = Ieee.double.write (.number false m 0) := by
  show Ieee.double.write (.number (decide (((m : Nat) : Int) < 0)) ((m : Nat) : Int).natAbs 0) = _
  rw [decide_eq_false (by omega)]; rfl
 rw [e];have h := zdq (d := .number false m 0) rfl;exact ⟨h.1, zgx _ _ _, h.2⟩
theorem neg_sgn {b : Nat} {n : Bool} (h : Sgn n b) : Sgn (!n) (b ^^^ 9223372036854775808) := by
 obtain ⟨h1, h2, h3⟩ := negate_parts h.lt;have e : b ^^^ 9223372036854775808 = zbq b := rfl;rw [e];exact ⟨by rw [isN, h1]; exact h.num, by rw [h2, h.sg], h3⟩
end Go.Proofs.YtmjbnhjgebjhlaaDoor
namespace Go.Proofs.YtmjbnhjgebjhlaaDoor
open Go.RowKit
set_option maxRecDepth 100000
attribute [local irreducible] OW RS
def f0 (m : Nat) (neg : Bool) : Nat := if neg then FloatKind.f64.nearest ((m : Nat) : Int) ^^^ 9223372036854775808 else FloatKind.f64.nearest ((m : Nat) : Int)
theorem f0_sgn (m : Nat) (neg : Bool) : Sgn neg (f0 m neg) := by
 cases neg
 · rw [f0, if_neg (by decide)]; exact near_sgn m
 · rw [f0, if_pos rfl]; exact neg_sgn (near_sgn m)
def exG (f : Nat) (p : Int) : Nat := if 22 < p then zaz (fop .mul f (oy (p - 22).toNat)) else f
def exQ (p : Int) : Nat := if 22 < p then 22 else p.toNat
def exF (m : Nat) (p : Int) (neg : Bool) : Nat × Bool :=
 if m / 2 ^ 52 ≠ 0 then (0, false)
 else if p = 0 then (f0 m neg, true)
 else if 0 < p ∧ p ≤ 37 then
  if (xu (exG (f0 m neg) p) 4831355200913801216 == some .gt) = true ∨ (xu (exG (f0 m neg) p) 14054727237768577024 == some .lt) = true then (exG (f0 m neg) p, false)
  else (zaz (fop .mul (exG (f0 m neg) p) (oy (exQ p))), true)
 else if p < 0 ∧ -22 ≤ p then (zaz (fop .quo (f0 m neg) (oy (-p).toNat)), true)
 else (f0 m neg, false)
theorem exF_big {m : Nat} {p : Int} {neg : Bool} (h : m / 2 ^ 52 ≠ 0) : exF m p neg = (0, false) := by rw [exF, if_pos h]
theorem exF_nil {m : Nat} {p : Int} {neg : Bool} (h : ¬ m / 2 ^ 52 ≠ 0) (h1 : p = 0) : exF m p neg = (f0 m neg, true) := by rw [exF, if_neg h, if_pos h1]
theorem exF_up {m : Nat} {p : Int} {neg : Bool} (h : ¬ m / 2 ^ 52 ≠ 0) (h1 : ¬ p = 0) (h2 : 0 < p ∧ p ≤ 37) {b : Bool} (hb : b = (xu (exG (f0 m neg) p) 4831355200913801216 == some .gt || xu (exG (f0 m neg) p) 14054727237768577024 == some .lt)) : exF m p neg = if b then (exG (f0 m neg) p, false) else (zaz (fop .mul (exG (f0 m neg) p) (oy (exQ p))), true) := by
 rw [exF, if_neg h, if_neg h1, if_pos h2, hb];simp only [Bool.or_eq_true]
theorem exF_down {m : Nat} {p : Int} {neg : Bool} (h : ¬ m / 2 ^ 52 ≠ 0) (h1 : ¬ p = 0) (h2 : ¬ (0 < p ∧ p ≤ 37)) (h3 : p < 0 ∧ -22 ≤ p) : exF m p neg = (zaz (fop .quo (f0 m neg) (oy (-p).toNat)), true) := by rw [exF, if_neg h, if_neg h1, if_neg h2, if_pos h3]
theorem exF_none {m : Nat} {p : Int} {neg : Bool} (h : ¬ m / 2 ^ 52 ≠ 0) (h1 : ¬ p = 0) (h2 : ¬ (0 < p ∧ p ≤ 37)) (h3 : ¬ (p < 0 ∧ -22 ≤ p)) : exF m p neg = (f0 m neg, false) := by rw [exF, if_neg h, if_neg h1, if_neg h2, if_neg h3]
theorem exG_hi {f : Nat} {p : Int} (h : 22 < p) : exG f p = zaz (fop .mul f (oy (p - 22).toNat)) := by rw [exG, if_pos h]
theorem exG_lo {f : Nat} {p : Int} (h : ¬ 22 < p) : exG f p = f := by rw [exG, if_neg h]
theorem exQ_hi {p : Int} (h : 22 < p) : exQ p = 22 := by rw [exQ, if_pos h]
theorem exQ_lo {p : Int} (h : ¬ 22 < p) : exQ p = p.toNat := by rw [exQ, if_neg h]
attribute [local irreducible] f0 exG oy zaz xu
theorem beq_dec (p q : Int) : (p == q) = decide (p = q) := by by_cases h : p = q <;> simp [h]
theorem ne_zero_b (m : Nat) : (((m : Nat) : Int) != 0) = decide (m ≠ 0) := by
 by_cases h : m = 0
 · subst h; rfl
 · rw [decide_eq_true h]; exact bne_iff_ne.2 (by omega)
theorem ykk {f j : Nat} {n : Bool} (hf : Sgn n f) (hj : j < 23) : fop .mul f (oy j) = some (zaz (fop .mul f (oy j))) ∧ Sgn n (zaz (fop .mul f (oy j))) := by
 obtain ⟨h1, h2, h3⟩ := tenF_pos hj;obtain ⟨z, hz, hs⟩ := mul_sgn hf h1 h2 h3;rw [ansF_some hz];exact ⟨hz, hs⟩
theorem quo_ten {f j : Nat} {n : Bool} (hf : Sgn n f) (hj : j < 23) : fop .quo f (oy j) = some (zaz (fop .quo f (oy j))) ∧ Sgn n (zaz (fop .quo f (oy j))) := by
 obtain ⟨h1, h2, h3⟩ := tenF_pos hj;obtain ⟨z, hz, hs⟩ := quo_sgn hf h1 h2 h3;rw [ansF_some hz];exact ⟨hz, hs⟩
theorem exG_sgn {f : Nat} {p : Int} {n : Bool} (h : Sgn n f) (hp : p ≤ 37) : Sgn n (exG f p) := by
 by_cases h2 : 22 < p
 · rw [exG_hi h2]; exact (ykk h (by omega)).2
 · rw [exG_lo h2]; exact h
theorem exQ_lt (p : Int) : exQ p < 23 := by
 by_cases h2 : 22 < p
 · rw [exQ_hi h2]; decide
 · rw [exQ_lo h2]; omega
theorem exF_sgn {m : Nat} {p : Int} {neg : Bool} (h : (exF m p neg).2 = true) : Sgn neg (exF m p neg).1 := by
 have h0 := f0_sgn m neg;by_cases a1 : m / 2 ^ 52 ≠ 0
 · rw [exF_big a1] at h; cases h
 · by_cases a2 : p = 0
   · rw [exF_nil a1 a2]; exact h0
   · by_cases a3 : 0 < p ∧ p ≤ 37
     · have hx := exF_up (neg := neg) a1 a2 a3 rfl;rw [hx] at h ⊢;split at h
       · cases h
       · rename_i hb
         rw [if_neg hb];exact (ykk (exG_sgn h0 a3.2) (exQ_lt p)).2
     · by_cases a4 : p < 0 ∧ -22 ≤ p
       · rw [exF_down a1 a2 a3 a4]; exact (quo_ten h0 (by omega)).2
       · rw [exF_none a1 a2 a3 a4] at h; cases h
section
variable (w : World) {bp op cp bf of cf bl ol cl : Nat}
theorem exact_any (m : Nat) (p : Int) (neg : Bool) (hp : -10000 ≤ p ∧ p ≤ 10000) (hT : Tabs bp op cp bf of cf bl ol cl w) :
 Calls Tryd.prog 64 #[.int .u64 ((m : Nat) : Int), .int .i64 p, .bool neg] w fun e w' => e = .returned (.tuple #[.float .f64 (exF m p neg).1, .bool (exF m p neg).2]) ∧ Below w.heap.size w w' := by
 refine yl Tryd.func64 rfl Tryd.ntmps64 rfl ?_;have HF : Per (No) w (fun _ => True) := Per.true_;have LW := erx (No) w;have XLW := grx (No) w;have E := erx (No) w;replace HF := HF.on E;replace LW := LW.step E XLW;replace E := erx (No) w;replace HF := HF.and (Per.tabs hT (fun _ h => h.elim))
 refine srx (avx rfl (anx rfl (zf (srx (mvx rfl (za rfl (zb Tryd.underlying115 rfl ziq (by decide) rfl (za rfl (yk Tryd.underlying88 rfl rfl (HF.on E).here.2.man (za rfl (kh rfl rfl (by decide) (kr m 52 (by decide)) (za rfl (qn rfl rfl (rnx (zu 12 (.bool (decide (m / 2 ^ 52 ≠ 0))) rfl ((by rw [ne_zero_b] : (.bool (((m / 2 ^ 52 : Nat) : Int) != 0) : Value) = _)) (zt rfl (fun h => ?_) (fun h => ?_)))))))))))))))))
 ·
  have h := of_decide_eq_true h;refine zr (zd (zp (rs := [.tmp 6, .tmp 7]) (vs := [_, _]) rfl ⟨rfl, rfl, trivial⟩ ?_));exact ⟨by rw [exF_big h]; rfl, (LW.step E XLW).toBelow⟩
 ·
  have h := of_decide_eq_false h;refine zj (ze (srx (mvx rfl (za rfl (ow_i2f Tryd.underlying75 (by rw [Tryd.underlying30]; rfl) rfl (anx rfl (zf (srx (mvx rfl (rnx ?_))))))))));replace HF := HF.on E;replace LW := LW.step E XLW;replace E := erx (No) w
  refine qd (ι := Nat) (fun f => [(1, .int .i64 p), (7, .bool false), (6, .float .f64 f)]) (fun f w' => Ext (No) w w' ∧ (f = f0 m neg)) ?_ ?_
  ·
   have M1 := erx (No) w;have XM1 := grx (No) w;refine zt rfl (fun hn => ?_) (fun hn => ?_)
   ·
    refine zi (mvx rfl (za rfl (ow_fneg rfl (avx rfl (yf ?_)))));exact yp (FloatKind.f64.nearest ((m : Nat) : Int) ^^^ 9223372036854775808) ⟨rfl, rfl, rfl, trivial⟩ ⟨M1.step E XM1, by rw [hn, f0, if_pos rfl]⟩
   ·
    refine zj ?_;exact yp (FloatKind.f64.nearest ((m : Nat) : Int)) ⟨rfl, rfl, rfl, trivial⟩ ⟨M1.step E XM1, by rw [hn, f0, if_neg (by decide)]⟩
  ·
   rintro f w2 ⟨M1, hf⟩;replace E := E.trans M1;replace HF := HF.on E;replace LW := LW.step E XLW;replace E := erx (No) w2;have hs := f0_sgn m neg;rw [← hf] at hs;refine zf (zx (srx (mvx rfl (za rfl (ye rfl rfl (anx rfl (zu 18 (.bool (decide (p = 0))) rfl ((by rw [beq_dec] : (.bool (p == 0) : Value) = _)) (zt rfl (fun h1 => ?_) (fun h1 => ?_)))))))))
   ·
    have h1 := of_decide_eq_true h1;refine srx (mvx rfl (avx rfl (anx rfl (zr (zn (zd (zp (rs := [.tmp 6, .tmp 7]) (vs := [_, _]) rfl ⟨rfl, rfl, trivial⟩ ?_)))))));exact ⟨by rw [exF_nil h h1, hf]; rfl, (LW.step E XLW).toBelow⟩
   ·
    have h1 := of_decide_eq_false h1;refine srx (mvx rfl (za rfl (qq rfl rfl (mvx rfl (yo 25 rfl (fun h2 => ?_) (fun h2 => ?_))))))
    ·
     have h2 := of_decide_eq_true h2;refine onx rfl (zq rfl (onx rfl (gz rfl rfl (za rfl (zw rfl rfl (anx rfl (zt rfl (fun h3 => ?_) (fun h3 => ?_))))))))
     ·
      have h3 := of_decide_eq_true h3;refine zf (srx (mvx rfl (za rfl (qq rfl rfl (rnx ?_)))));replace HF := HF.on E;replace LW := LW.step E XLW;replace E := erx (No) w2;refine qd (ι := Nat × Nat) (fun (g, q) => [(1, .int .i64 ((q : Nat) : Int)), (7, .bool false), (6, .float .f64 g)]) (fun (g, q) w' => Ext (No) w2 w' ∧ (g = exG f p ∧ q = exQ p ∧ q < 23 ∧ Sgn neg g)) ?_ ?_
      ·
       have M3 := erx (No) w2;have XM3 := grx (No) w2;refine zt rfl (fun h4 => ?_) (fun h4 => ?_)
       ·
        have h4 := of_decide_eq_true h4;have hmt := ykk hs (j := (p - 22).toNat) (by omega)
        refine srx (mvx rfl (za rfl (yk Tryd.underlying149 rfl rfl (HF.on E).here.2.ten.head (mvx rfl (za rfl (yw rfl rfl (zo (by omega)) (za rfl (vd (j := (p - 22).toNat) Tryd.underlying149 sz75 rfl rfl (by omega) (by omega) (za rfl (yk Tryd.underlying75 rfl rfl (by rw [Nat.mul_one]; exact (HF.on E).here.2.ten.cells _ _ (yak (by omega))) (za rfl (ow_fV (.inr (.inr (.inl rfl))) rfl rfl hmt.1 (anx rfl (zi (avx rfl (yf ?_))))))))))))))))
        exact yp (zaz (fop .mul f (oy (p - 22).toNat)), 22) ⟨rfl, rfl, rfl, trivial⟩ ⟨M3.step E XM3, (exG_hi h4).symm, (exQ_hi h4).symm, by decide, hmt.2⟩
       ·
        have h4 := of_decide_eq_false h4;refine zj ?_;exact yp (f, p.toNat) ⟨congrArg (fun z : Int => some (Value.int .i64 z)) (by omega), rfl, rfl, trivial⟩ ⟨M3.step E XM3, (exG_lo h4).symm, (exQ_lo h4).symm, by omega, hs⟩
      ·
       rintro ⟨g, q⟩ w4 ⟨M3, ⟨hg, hq, hq23, hgs⟩⟩;replace E := E.trans M3;replace HF := HF.on E;replace LW := LW.step E XLW;replace E := erx (No) w4;have hx := exF_up (neg := neg) h h1 ⟨h2, h3⟩ rfl;rw [← hf, ← hg, ← hq] at hx;refine zf (srx (mvx rfl (za rfl (ow_fgtr rfl rfl (mvx rfl (yo 40 rfl (fun h5 => ?_) (fun h5 => ?_)))))))
       ·
        rw [h5, Bool.true_or, if_pos rfl] at hx;refine za rfl (zc rfl (za rfl (zc rfl (za rfl (zw rfl rfl (rnx (yi rfl (zr (zd (zn (zd (zp (rs := [.tmp 6, .tmp 7]) (vs := [_, _]) rfl ⟨rfl, rfl, trivial⟩ ?_))))))))))));exact ⟨by rw [hx]; rfl, (LW.step E XLW).toBelow⟩
       ·
        rw [h5, Bool.false_or] at hx;refine onx rfl (zq rfl (onx rfl (ow_flss rfl rfl (za rfl (ya rfl rfl (rnx (zt rfl (fun h6 => ?_) (fun h6 => ?_))))))))
        ·
         rw [h6, if_pos rfl] at hx;refine zr (zd (zn (zd (zp (rs := [.tmp 6, .tmp 7]) (vs := [_, _]) rfl ⟨rfl, rfl, trivial⟩ ?_))));exact ⟨by rw [hx]; rfl, (LW.step E XLW).toBelow⟩
        ·
         rw [h6, if_neg (by decide)] at hx;have hmt := ykk hgs hq23
         refine zj (ze (srx (mvx rfl (za rfl (yk Tryd.underlying149 rfl rfl (HF.on E).here.2.ten.head (mvx rfl (za rfl (vd (j := q) Tryd.underlying149 sz75 rfl rfl rfl hq23 (za rfl (yk Tryd.underlying75 rfl rfl (by rw [Nat.mul_one]; exact (HF.on E).here.2.ten.cells _ _ (yak hq23)) (za rfl (ow_fV (.inr (.inr (.inl rfl))) rfl rfl hmt.1 (avx rfl (anx rfl (zr (zn (zd (zp (rs := [.tmp 6, .tmp 7]) (vs := [_, _]) rfl ⟨rfl, rfl, trivial⟩ ?_))))))))))))))))))
         exact ⟨by rw [hx]; rfl, (LW.step E XLW).toBelow⟩
     ·
      have h3 := of_decide_eq_false h3
      refine srx (mvx rfl (za rfl (yt rfl rfl (mvx rfl (yd 53 (.bool false) rfl ((by rw [decide_eq_false (by omega)] : (.bool (decide (p < 0)) : Value) = _)) (za rfl (zc rfl (za rfl (zc rfl (za rfl (ya rfl rfl (anx rfl (zy rfl (zj (zm (ze (zr (zp (rs := [.tmp 6, .tmp 7]) (vs := [_, _]) rfl ⟨rfl, rfl, trivial⟩ ?_))))))))))))))))))
      exact ⟨by rw [exF_none h h1 (by omega) (by omega), hf]; rfl, (LW.step E XLW).toBelow⟩
    ·
     have h2 := of_decide_eq_false h2
     refine za rfl (zc rfl (za rfl (zc rfl (za rfl (ya rfl rfl (anx rfl (zy rfl (srx (mvx rfl (za rfl (yt rfl rfl (mvx rfl (yd 53 (.bool true) rfl ((by rw [decide_eq_true (by omega)] : (.bool (decide (p < 0)) : Value) = _)) (onx rfl (zq rfl (onx rfl (vr rfl rfl (za rfl (zw rfl rfl (anx rfl (zt rfl (fun h3 => ?_) (fun h3 => ?_))))))))))))))))))))))
     ·
      have h3 := of_decide_eq_true h3;have hmt := quo_ten hs (j := (-p).toNat) (by omega)
      refine srx (mvx rfl (za rfl (yk Tryd.underlying149 rfl rfl (HF.on E).here.2.ten.head (mvx rfl (za rfl (zkq rfl (zo (by omega)) (za rfl (vd (j := (-p).toNat) Tryd.underlying149 sz75 rfl rfl (by omega) (by omega) (za rfl (yk Tryd.underlying75 rfl rfl (by rw [Nat.mul_one]; exact (HF.on E).here.2.ten.cells _ _ (yak (by omega))) (za rfl (ow_fV (.inr (.inr (.inr rfl))) rfl rfl hmt.1 (avx rfl (anx rfl (zr (zn (zd (zp (rs := [.tmp 6, .tmp 7]) (vs := [_, _]) rfl ⟨rfl, rfl, trivial⟩ ?_))))))))))))))))))
      exact ⟨by rw [exF_down h h1 (by omega) ⟨by omega, h3⟩, hf]; rfl, (LW.step E XLW).toBelow⟩
     ·
      have h3 := of_decide_eq_false h3;refine zj (zm (ze (zr (zp (rs := [.tmp 6, .tmp 7]) (vs := [_, _]) rfl ⟨rfl, rfl, trivial⟩ ?_))));exact ⟨by rw [exF_none h h1 (by omega) (by omega), hf]; rfl, (LW.step E XLW).toBelow⟩
end
end Go.Proofs.YtmjbnhjgebjhlaaDoor
namespace Go.Proofs.YtmjbnhjgebjhlaaDoor
open Go.RowKit
set_option maxRecDepth 100000
attribute [local irreducible] OW RS
theorem byte_lt {s : ByteArray} {j u : Nat} (h : (s.data[j]?).map (·.toNat) = some u) : j < s.size ∧ u < 256 := by
 obtain ⟨c, h1, rfl⟩ := Option.map_eq_some_iff.1 h;have h2 : j < s.data.size := by
  rcases Nat.lt_or_ge j s.data.size with h3 | h3
  · exact h3
  · rw [Array.getElem?_eq_none h3] at h1; cases h1
 exact ⟨h2, c.toNat_lt⟩
theorem vy {p q : Int} (h : p ≠ q) : (p == q) = false := beq_eq_false_iff_ne.2 h
theorem or_32 {u : Nat} (h : u < 256) : IntKind.u8.wrap (BitVec.ofInt IntKind.u8.bits ((u : Nat) : Int) ||| BitVec.ofInt IntKind.u8.bits 32).toNat = ((u ||| 32 : Nat) : Int) := by
 have key : ∀ v : Fin 256, IntKind.u8.wrap (BitVec.ofInt IntKind.u8.bits ((v.val : Nat) : Int) ||| BitVec.ofInt IntKind.u8.bits 32).toNat = ((v.val ||| 32 : Nat) : Int) := by decide +kernel
 exact key ⟨u, h⟩
section
variable (w : World)
theorem lower_any (u : Nat) (hu : u < 256) : Calls Tryd.prog 39 #[.int .u8 ((u : Nat) : Int)] w fun e w' => e = .returned (.int .u8 ((u ||| 32 : Nat) : Int)) ∧ Below w.heap.size w w' := by
 refine yl Tryd.func39 rfl Tryd.ntmps39 rfl ?_;have LW := erx (No) w;have XLW := grx (No) w;have E := erx (No) w;refine srx (anx rfl (srx (mvx rfl (za rfl (kv rfl rfl (or_32 hu) (anx rfl (zr (zp (rs := [.tmp 2]) (vs := [_]) rfl ⟨rfl, trivial⟩ ?_))))))));exact ⟨rfl, (LW.step E XLW).toBelow⟩
theorem special_digit (s : ByteArray) (u : Nat) (hu : (s.data[0]?).map (·.toNat) = some u) (hd : 48 ≤ u ∧ u ≤ 57) : Calls Tryd.prog 53 #[.string s] w fun e w' => e = .returned (.tuple #[.float .f64 0, .int .i64 0, .bool false]) ∧ Below w.heap.size w w' := by
 have hs := (byte_lt hu).1;refine yl Tryd.func53 rfl Tryd.ntmps53 rfl ?_;have LW := erx (No) w;have XLW := grx (No) w;have E := erx (No) w
 refine srx (avx rfl (avx rfl (anx rfl (zf (srx (mvx rfl (za rfl (qc Tryd.underlying9 rfl (za rfl (ye rfl rfl (rnx (zu 10 (.bool false) rfl (by rw [vy (by omega)]) (zy rfl (zj (ze (srx (anx rfl (srx (anx rfl (zf (srx (mvx rfl (za rfl (yh (j := 0) (b := u) Tryd.underlying9 rfl rfl rfl hu (rnx (zx (zf (zx (zf ?_)))))))))))))))))))))))))))))
 refine zx (zf (zx (zf (zf (zf (srx (za rfl (ye rfl rfl (anx rfl (zu 13 (.bool false) rfl ((by rw [vy (by omega)] : (.bool (((u : Nat) : Int) == 43) : Value) = _)) (zy rfl (zi (za rfl (ye rfl rfl (anx rfl (zu 13 (.bool false) rfl ((by rw [vy (by omega)] : (.bool (((u : Nat) : Int) == 45) : Value) = _)) (zy rfl (zj (ze (zf (zf (srx (za rfl (ye rfl rfl (anx rfl (zu 16 (.bool false) rfl ((by rw [vy (by omega)] : (.bool (((u : Nat) : Int) == 105) : Value) = _)) (zy rfl (zi (za rfl (ye rfl rfl (anx rfl (zu 16 (.bool false) rfl ((by rw [vy (by omega)] : (.bool (((u : Nat) : Int) == 73) : Value) = _)) (zy rfl ?_)))))))))))))))))))))))))))))))))
 refine zj (ze (zf (srx (za rfl (ye rfl rfl (anx rfl (zu 19 (.bool false) rfl ((by rw [vy (by omega)] : (.bool (((u : Nat) : Int) == 110) : Value) = _)) (zy rfl (zi (za rfl (ye rfl rfl (anx rfl (zu 19 (.bool false) rfl ((by rw [vy (by omega)] : (.bool (((u : Nat) : Int) == 78) : Value) = _)) (zy rfl (zj (ze (yn (yv rfl (zg (yv rfl (zg (yv rfl (zg (zv (ze (srx (avx rfl (avx rfl (anx rfl (zr (zp (rs := [.tmp 2, .tmp 3, .tmp 4]) (vs := [_, _, _]) rfl ⟨rfl, rfl, rfl, trivial⟩ ?_)))))))))))))))))))))))))))))))
 exact ⟨rfl, (LW.step E XLW).toBelow⟩
end
end Go.Proofs.YtmjbnhjgebjhlaaDoor
namespace Go.Proofs.YtmjbnhjgebjhlaaDoor
open Go.RowKit
set_option maxRecDepth 100000
def sgB (neg : Bool) : Nat := if neg then 9223372036854775808 else 0
theorem sgB_lt (neg : Bool) : sgB neg < 18446744073709551616 := by cases neg <;> decide
theorem zjk {x : Nat} (h : x ≤ 9218868437227405312) (neg : Bool) : Sgn neg (sgB neg ||| x) := by
 cases neg with
 | false =>
  rw [show sgB false = 0 from rfl, Nat.zero_or];refine ⟨?_, ?_, by omega⟩
  · unfold isN rg; exact decide_eq_false (by omega)
  · unfold ng; exact beq_eq_false_iff_ne.2 (by omega)
 | true =>
  have e : sgB true ||| x = 9223372036854775808 + x := by
   have h1 : x < 2 ^ 63 := by show x < 9223372036854775808; omega
   have h2 := Nat.two_pow_add_eq_or_of_lt h1 1;have h3 : (2 ^ 63 * 1 : Nat) = 9223372036854775808 := by decide
   rw [h3] at h2;exact h2.symm
  rw [e];refine ⟨?_, ?_, by omega⟩
  · unfold isN rg; exact decide_eq_false (by omega)
  · unfold ng; exact beq_iff_eq.2 (by omega)
theorem packF_or (m k : Nat) (neg : Bool) : zrz (sgB neg ||| m) k = sgB neg ||| zrz m k := by
 have e1 : sgB neg &&& 4503599627370496 = 0 := by cases neg <;> decide +kernel
 have e2 : sgB neg &&& 9223372036854775808 = sgB neg := by cases neg <;> decide +kernel
 have e3 : sgB neg &&& 18442240474082181119 = sgB neg := by cases neg <;> decide +kernel
 unfold zrz packI packN packA zrq;rw [Nat.and_or_distrib_right, Nat.and_or_distrib_right, Nat.and_or_distrib_right, e1, e2, e3, Nat.zero_or];split
 · rfl
 · split
   · rw [Nat.or_assoc]
   · rw [Nat.or_assoc]
theorem fast_sgn {d j : Nat} (neg : Bool) (hd : 0 < d ∧ d < 18446744073709551616) (hj : 3 ≤ j ∧ j ≤ 658) : Sgn neg (zyx d j (sgB neg)) := by
 unfold zyx;split
 · exact zjk (Nat.zero_le _) neg
 · unfold mF;rw [packF_or];exact zjk (packF_tame (roundU_le (vF_lt' (uF_lt hd hj)))) neg
/-! ### the slow way's float -/
theorem slowB_is (m e : Nat) (neg : Bool) : slowB m e neg = sgB neg ||| ((m &&& 4503599627370495) ||| e * 4503599627370496) := by
 unfold slowB;cases neg with
 | false => rw [if_neg (by decide), show sgB false = 0 from rfl, Nat.zero_or]
 | true => rw [if_pos rfl, Nat.or_comm]; rfl
theorem slow_sgn {m e : Nat} {neg : Bool} (h : e ≤ 2046 ∨ (m = 0 ∧ e = 2047)) : Sgn neg (slowB m e neg) := by
 rw [slowB_is];refine zjk ?_ neg;rcases h with h | ⟨rfl, rfl⟩
 · have h1 : m &&& 4503599627370495 < 2 ^ 52 := by
    have : m &&& 4503599627370495 ≤ 4503599627370495 := Nat.and_le_right;show m &&& 4503599627370495 < 4503599627370496; omega
   have h2 := Nat.two_pow_add_eq_or_of_lt h1 e;have h3 : (2 ^ 52 : Nat) = 4503599627370496 := by decide
   rw [h3] at h1 h2;rw [Nat.or_comm, Nat.mul_comm e, ← h2];omega
 · decide +kernel
def FbOK (r : Nat × Nat × Bool) : Prop := r.2.1 ≤ 2046 ∨ (r.1 = 0 ∧ r.2.1 = 2047)
theorem fbEnd_ok {t : Dec} {e : Int} (h : e ≤ 1023) : FbOK (yhk t e) := by
 unfold yhk;split
 · split
   · exact .inr ⟨rfl, rfl⟩
   · exact .inl (by show (e + 1 + 1023).toNat ≤ 2046; omega)
 · refine .inl ?_;show (if kk t &&& 4503599627370496 = 0 then 0 else (e + 1023).toNat) ≤ 2046
   split <;> omega
theorem fbMid_ok (t : Dec) (e : Int) : FbOK (fbMid t e) := by
 unfold fbMid;split
 · exact fbEnd_ok (by decide)
 · split
   · exact .inr ⟨rfl, rfl⟩
   · exact fbEnd_ok (by omega)
theorem fbAll_ok (t : Dec) : FbOK (ky t) := by
 unfold ky;split
 · exact .inl (Nat.zero_le _)
 · split
   · exact .inr ⟨rfl, rfl⟩
   · split
     · exact .inl (Nat.zero_le _)
     · exact fbMid_ok _ _
theorem slowF_sgn (t : Dec) : Sgn t.neg (zaq t) := slow_sgn (fbAll_ok t)
theorem st_neg (s : ByteArray) (a : StS) : (jx s a).t.neg = a.t.neg := by
 unfold jx;split
 · rfl
 · split
   · rfl
   · split <;> rfl
theorem stA_neg {s : ByteArray} {f p E q : Nat} (neg : Bool) (hs : Nm s f p E q) : (stA s f neg).t.neg = neg := by
 have h := vn (done := xf s) (step := jx s) (fun a => StN s f p E q a ∧ a.t.neg = neg) (fun t => E - t.i) (fun t h hd => ?_) ⟨yav neg hs, rfl⟩
 · exact h.1.2
 · obtain ⟨h1, h2⟩ := ybx hs h.1 hd;refine ⟨⟨h1, by rw [st_neg]; exact h.2⟩, ?_⟩;rw [st_i];omega
theorem setD_neg {s : ByteArray} {f p E q : Nat} (neg : Bool) (hs : Nm s f p E q) : (setD s f neg).neg = neg := stA_neg neg hs
/-! ### both ways together -/
def rangeE : Value := .iface 86 (.int .i64 1)
noncomputable def rdM (s : ByteArray) (f : Nat) : Nat := (rdA s f).m
noncomputable def rdT (s : ByteArray) (f : Nat) : Bool := (rdA s f).tr
noncomputable def atJ (s : ByteArray) (f : Nat) : Nat := (rdX s f + 348).toNat
noncomputable def atF (s : ByteArray) (f : Nat) (neg : Bool) : Nat := zyx (rdM s f) (atJ s f) (sgB neg)
noncomputable def atG (s : ByteArray) (f : Nat) (neg : Bool) : Nat := zyx (rdM s f + 1) (atJ s f) (sgB neg)
noncomputable def atL (s : ByteArray) (f : Nat) (neg : Bool) : Bool := xu (atF s f neg) (atG s f neg) == some .eq
noncomputable def atV (s : ByteArray) (f : Nat) (neg : Bool) : Nat :=
 if rdM s f = 0 then sgB neg ||| 0
 else if 310 < rdX s f then sgB neg ||| 9218868437227405312
 else if rdX s f < -345 then sgB neg ||| 0
 else if rdT s f = false ∧ (exF (rdM s f) (rdX s f) neg).2 = true then (exF (rdM s f) (rdX s f) neg).1
 else if rdT s f = false ∨ atL s f neg = true then atF s f neg
 else zaq (setD s f neg)
noncomputable def atE (s : ByteArray) (f : Nat) (neg : Bool) : Value :=
 if rdM s f = 0 then .nilIface
 else if 310 < rdX s f then rangeE
 else if rdX s f < -345 then .nilIface
 else if rdT s f = false ∧ (exF (rdM s f) (rdX s f) neg).2 = true then .nilIface
 else if rdT s f = false ∨ atL s f neg = true then zyz (rdM s f) (atJ s f) (sgB neg)
 else if (ky (setD s f neg)).2.2 then rangeE else .nilIface
theorem packE_or (m k : Nat) : ygk m k = .nilIface ∨ ygk m k = rangeE := by
 unfold ygk;split
 · exact .inl rfl
 · split
   · exact .inr rfl
   · exact .inl rfl
theorem fastE_or (d j g : Nat) : zyz d j g = .nilIface ∨ zyz d j g = rangeE := by
 unfold zyz;split
 · exact .inl rfl
 · exact packE_or _ _
theorem atE_or (s : ByteArray) (f : Nat) (neg : Bool) : atE s f neg = .nilIface ∨ atE s f neg = rangeE := by
 unfold atE;split
 · exact .inl rfl
 · split
   · exact .inr rfl
   · split
     · exact .inl rfl
     · split
       · exact .inl rfl
       · split
         · exact fastE_or _ _ _
         · split
           · exact .inr rfl
           · exact .inl rfl
theorem rdM_lt {s : ByteArray} {f p E q : Nat} (hs : Nm s f p E q) : rdM s f < 10000000000000000000 := by
 obtain ⟨h, _⟩ := rdA_ends hs;have h1 : 10 ^ (rdA s f).nm ≤ 10 ^ 19 := Nat.pow_le_pow_right (by decide) h.hn;have h2 := h.hm;unfold rdM;have h3 : (10 : Nat) ^ 19 = 10000000000000000000 := by decide
 rw [h3] at h1;omega
theorem atV_sgn {s : ByteArray} {f p E q : Nat} (neg : Bool) (hs : Nm s f p E q) : Sgn neg (atV s f neg) := by
 have hm := rdM_lt hs;unfold atV;split
 · exact zjk (Nat.zero_le _) neg
 · rename_i h0
   split
   · exact zjk (Nat.le_refl _) neg
   · rename_i h1
     split
     · exact zjk (Nat.zero_le _) neg
     · rename_i h2
       split
       · rename_i h3; exact exF_sgn h3.2
       · split
         · exact fast_sgn neg ⟨by omega, by omega⟩ (by unfold atJ; omega)
         · have := slowF_sgn (setD s f neg);rwa [setD_neg neg hs] at this
end Go.Proofs.YtmjbnhjgebjhlaaDoor
namespace Go.Proofs.YtmjbnhjgebjhlaaDoor
open Go.RowKit
set_option maxRecDepth 100000
attribute [local irreducible] OW RS
theorem or32_x {u : Nat} (h : (48 ≤ u ∧ u ≤ 57) ∨ u = 46 ∨ u = 101 ∨ u = 0) : (u ||| 32) ≠ 120 := by
 rcases h with h | rfl | rfl | rfl
 · have key : ∀ v : Fin 58, 48 ≤ v.val → (v.val ||| 32) ≠ 120 := by decide
   exact key ⟨u, by omega⟩ h.1
 · decide
 · decide
 · decide
theorem m_lt {m n : Nat} (h : m < 10 ^ n) (hn : n < 19) : m < 1000000000000000000 := by
 have h1 : 10 ^ n ≤ 10 ^ 18 := Nat.pow_le_pow_right (by decide) (by omega);have h2 : (10 : Nat) ^ 18 = 1000000000000000000 := by decide
 omega
theorem Nm.next {s : ByteArray} {f p E q : Nat} (h : Nm s f p E q) (h1 : f + 1 < s.size) : (48 ≤ bAt s (f + 1) ∧ bAt s (f + 1) ≤ 57) ∨ bAt s (f + 1) = 46 ∨ bAt s (f + 1) = 101 ∨ bAt s (f + 1) = 0 := by
 have hf := h.fp;have hp := h.pE;rcases Nat.lt_or_ge (f + 1) E with h2 | h2
 · rcases h.at_ (i := f + 1) (by omega) h2 with h3 | h3
   · exact .inl h3.2
   · exact .inr (.inl h3.2)
 · have e : E = f + 1 := by omega
   rw [← e];exact .inr (.inr (.inl (h.exp (by omega)).1))
theorem Nm.first {s : ByteArray} {f p E q : Nat} (h : Nm s f p E q) : 48 ≤ bAt s f ∧ bAt s f ≤ 57 := h.dig1 f (Nat.le_refl _) h.fp
theorem Nm.size {s : ByteArray} {f p E q : Nat} (h : Nm s f p E q) : f < s.size := by have := h.fp; have := h.pE; have := h.hE; omega
theorem bne_b {m : Nat} (h : m ≠ 0) : ((.bool (((m : Nat) : Int) != 0)) : Value) = .bool true := by rw [bne_iff_ne.2 (by omega)]
def SgnAt (s : ByteArray) (f : Nat) (neg : Bool) : Prop := (neg = false ∧ f = 0) ∨ (neg = true ∧ f = 1 ∧ bAt s 0 = 45)
theorem SgnAt.neg {s : ByteArray} {f : Nat} {neg : Bool} (h : SgnAt s f neg) (hn : neg = true) : f = 1 ∧ bAt s 0 = 45 := by
 rcases h with h | h
 · rw [h.1] at hn; cases hn
 · exact h.2
theorem SgnAt.pos {s : ByteArray} {f : Nat} {neg : Bool} (h : SgnAt s f neg) (hn : ¬ neg = true) : f = 0 := by
 rcases h with h | h
 · exact h.2
 · exact absurd h.1 hn
theorem pr239_1 : Gives 39 #[.int .u8 101] (.int .u8 101) := by
 intro w;refine yl Tryd.func39 rfl Tryd.ntmps39 rfl ?_;have LW := erx (No) w;have XLW := grx (No) w;have E := erx (No) w;refine srx (anx rfl (srx (mvx rfl (za rfl (kv (z := 101) rfl rfl (by kernel_rfl) (anx rfl (zr (zp (rs := [.tmp 2]) (vs := [.int .u8 101]) rfl ⟨rfl, trivial⟩ ?_))))))));exact ⟨rfl, (LW.step E XLW).toBelow⟩
section
variable (w : World)
theorem readf_any (s : ByteArray) (f : Nat) (neg : Bool) {p Z q : Nat} (hsg : SgnAt s f neg) (hs : Nm s f p Z q) (hl : s.size < 100000) : Calls Tryd.prog 54 #[.string s] w fun e w' => e = .returned (.tuple #[.int .u64 ((rdM s f : Nat) : Int), .int .i64 (rdX s f), .bool neg, .bool (rdT s f), .bool false, .int .i64 ((s.size : Nat) : Int), .bool true]) ∧ Below w.heap.size w w' := by
 have hfs : f < s.size := hs.size;have hfd := hs.first;refine yl Tryd.func54 rfl Tryd.ntmps54 rfl ?_;have LW := erx (No) w;have XLW := grx (No) w;have E := erx (No) w
 refine srx (avx rfl (avx rfl (avx rfl (avx rfl (avx rfl (avx rfl (anx rfl (cw_scope 4 (srx (anx rfl (zf (srx (mvx rfl (mvx rfl (za rfl (qc Tryd.underlying9 rfl (za rfl (vr rfl rfl (rnx (zu 24 (.bool false) rfl ((by rw [decide_eq_false (by omega)] : (.bool (decide (((s.size : Nat) : Int) ≤ 0)) : Value) = _)) (zy rfl (zj (ze (zf (srx (mvx rfl (mvx rfl (za rfl (yh (j := 0) (b := bAt s 0) Tryd.underlying9 rfl rfl rfl (yu (by omega)) (rnx ?_))))))))))))))))))))))))))))))
 replace LW := LW.step E XLW;replace E := erx (No) w;refine qd (ι := Unit) (fun _ => [(0, .string s), (2, .int .u64 0), (3, .int .i64 0), (4, .bool neg), (5, .bool false), (6, .bool false), (7, .int .i64 ((f : Nat) : Int)), (8, .bool false), (9, .bool false)]) (fun _ w' => Ext (No) w w' ∧ (True)) ?_ ?_
 ·
  have M1 := erx (No) w;have XM1 := grx (No) w;refine zx (srx (za rfl (ye rfl rfl (anx rfl ?_))));by_cases hneg : neg = true
  ·
   obtain ⟨hf1, h45⟩ := hsg.neg hneg
   refine zu 28 (.bool false) rfl ((by rw [h45]; rfl : (.bool (((bAt s 0 : Nat) : Int) == 43) : Value) = _)) (zy rfl (srx (za rfl (ye rfl rfl (anx rfl (zu 32 (.bool true) rfl ((by rw [h45]; rfl : (.bool (((bAt s 0 : Nat) : Int) == 45) : Value) = _)) (yi rfl (srx (mvx rfl (za rfl (yg (z := 1) rfl rfl (by kernel_rfl) (anx rfl (zi (avx rfl (yf (zm (yr 4 (.bool neg) rfl ((by rw [hneg] : (.bool true : Value) = _)) (yr 7 (.int .i64 ((f : Nat) : Int)) rfl ((by rw [hf1]; rfl : (.int .i64 1 : Value) = _)) ?_))))))))))))))))))
   exact yp () ⟨rfl, rfl, rfl, rfl, rfl, rfl, rfl, rfl, rfl, trivial⟩ ⟨M1.step E XM1, trivial⟩
  ·
   have hf0 := hsg.pos hneg;rw [hf0] at hfd
   refine zu 28 (.bool false) rfl ((by rw [vy (by omega)] : (.bool (((bAt s 0 : Nat) : Int) == 43) : Value) = _)) (zy rfl (srx (za rfl (ye rfl rfl (anx rfl (zu 32 (.bool false) rfl ((by rw [vy (by omega)] : (.bool (((bAt s 0 : Nat) : Int) == 45) : Value) = _)) (zy rfl (zj (zm (yr 4 (.bool neg) rfl ((by rw [Bool.eq_false_iff.2 hneg] : (.bool false : Value) = _)) (yr 7 (.int .i64 ((f : Nat) : Int)) rfl ((by rw [hf0]; rfl : (.int .i64 0 : Value) = _)) ?_)))))))))))
   exact yp () ⟨rfl, rfl, rfl, rfl, rfl, rfl, rfl, rfl, rfl, trivial⟩ ⟨M1.step E XM1, trivial⟩
 ·
  rintro _ w2 ⟨M1, _⟩;replace E := E.trans M1;replace LW := LW.step E XLW;replace E := erx (No) w2;refine srx (anx rfl (srx (anx rfl (srx (anx rfl (zf (zf ?_)))))));replace LW := LW.step E XLW;replace E := erx (No) w2
  refine qd (ι := Unit) (fun _ => [(0, .string s), (2, .int .u64 0), (3, .int .i64 0), (4, .bool neg), (5, .bool false), (6, .bool false), (7, .int .i64 ((f : Nat) : Int)), (8, .bool false), (9, .bool false), (10, .int .u64 10), (11, .int .i64 19), (12, .int .u8 101), (54, .bool false)]) (fun _ w' => Ext (No) w2 w' ∧ (True)) ?_ ?_
  ·
   have M3 := erx (No) w2;have XM3 := grx (No) w2;refine zi (mvx rfl (za rfl (yg rfl rfl (zo (by omega)) (mvx rfl (za rfl (qc Tryd.underlying9 rfl (za rfl (yt rfl rfl (mvx rfl (yo 41 rfl (fun hl => ?_) (fun hl => ?_)))))))))))
   ·
    have hl := of_decide_eq_true hl;refine onx rfl (zq rfl (onx rfl (zq rfl (onx rfl (yh (j := f) (b := bAt s f) Tryd.underlying9 rfl rfl rfl (yu hfs) (onx rfl (ye rfl rfl (za rfl (zw rfl rfl (mvx rfl (yo 47 rfl (fun hz => ?_) (fun hz => ?_))))))))))))
    ·
     refine onx rfl (zq rfl (onx rfl (zq rfl (onx rfl (yg rfl rfl (zo (by omega)) (onx rfl (yh (j := f + 1) (b := bAt s (f + 1)) Tryd.underlying9 rfl rfl rfl (yu (by omega)) (onx rfl (zz en39 rfl ((lower_any _ (bAt s (f + 1)) (bAt_lt _ _)).mono ?_))))))))));rintro e w5 ⟨rfl, hb⟩;refine ⟨_, rfl, ?_⟩;replace E := blx E hb
     have hx := or32_x (hs.next (by omega));refine onx rfl (ye rfl rfl (za rfl (zw rfl rfl (yf (yr 54 (.bool false) rfl ((by rw [vy (by omega)] : (.bool (((bAt s (f + 1) ||| 32 : Nat) : Int) == 120) : Value) = _)) ?_)))));exact yp () ⟨rfl, rfl, rfl, rfl, rfl, rfl, rfl, rfl, rfl, rfl, rfl, rfl, rfl, trivial⟩ ⟨M3.step E XM3, trivial⟩
    ·
     refine za rfl (zc rfl (za rfl (zc rfl (za rfl (zc rfl (za rfl (zc rfl (za rfl (zc rfl (za rfl (zc rfl (za rfl (ya rfl rfl (yf ?_))))))))))))));exact yp () ⟨rfl, rfl, rfl, rfl, rfl, rfl, rfl, rfl, rfl, rfl, rfl, rfl, rfl, trivial⟩ ⟨M3.step E XM3, trivial⟩
   ·
    refine za rfl (zc rfl (za rfl (zc rfl (za rfl (zc rfl (za rfl (zc rfl (za rfl (ya rfl rfl (mvx rfl (za rfl (zc rfl (za rfl (zc rfl (za rfl (zc rfl (za rfl (zc rfl (za rfl (zc rfl (za rfl (zc rfl (za rfl (ya rfl rfl (yf ?_)))))))))))))))))))))))))
    exact yp () ⟨rfl, rfl, rfl, rfl, rfl, rfl, rfl, rfl, rfl, rfl, rfl, rfl, rfl, trivial⟩ ⟨M3.step E XM3, trivial⟩
  ·
   rintro _ w4 ⟨M3, _⟩;replace E := E.trans M3;replace LW := LW.step E XLW;replace E := erx (No) w4;refine zy rfl (zj (ze (srx (anx rfl (srx (anx rfl (srx (anx rfl (srx (anx rfl (srx (anx rfl (zf (cw_label (ze (zf ?_))))))))))))))));replace LW := LW.step E XLW;replace E := erx (No) w4
   refine qd (ι := RdS) (fun t => [(0, .string s), (2, .int .u64 ((t.m : Nat) : Int)), (3, .int .i64 0), (4, .bool neg), (5, .bool t.tr), (6, .bool false), (7, .int .i64 ((t.i : Nat) : Int)), (8, .bool false), (9, .bool false), (10, .int .u64 10), (11, .int .i64 19), (12, .int .u8 101), (13, .bool t.dot), (14, .bool t.dig), (15, .int .i64 ((t.nd : Nat) : Int)), (16, .int .i64 ((t.nm : Nat) : Int)), (17, .int .i64 t.dp)]) (fun t w' => Ext (No) w4 w' ∧ (t = rdA s f)) ?_ ?_
   ·
    have M6 := erx (No) w4;have XM6 := grx (No) w4;refine zx ?_;replace M6 := M6.step E XM6;replace E := erx (No) w4
    refine qk (ι := RdS) (fun t => [(0, .string s), (2, .int .u64 ((t.m : Nat) : Int)), (3, .int .i64 0), (4, .bool neg), (5, .bool t.tr), (6, .bool false), (7, .int .i64 ((t.i : Nat) : Int)), (8, .bool false), (9, .bool false), (10, .int .u64 10), (11, .int .i64 19), (12, .int .u8 101), (13, .bool t.dot), (14, .bool t.dig), (15, .int .i64 ((t.nd : Nat) : Int)), (16, .int .i64 ((t.nm : Nat) : Int)), (17, .int .i64 t.dp)]) (fun t w' => Ext (No) w4 w' ∧ (RdN s f p Z q t ∧ qv (kt s) (vz s) t = rdA s f)) (fun t => Z - t.i) (⟨f, 0, 0, 0, 0, false, false, false⟩) ⟨rfl, rfl, rfl, rfl, rfl, rfl, rfl, rfl, rfl, rfl, rfl, rfl, rfl, rfl, rfl, rfl, rfl, trivial⟩ ⟨Ext.refl _ _, rdN_start hs, rfl⟩ ?_
    rintro t w9 ⟨M8, ⟨hI, hu⟩⟩;have XM8 := grx (No) w4;replace E := E.trans M8;replace M6 := M6.step E XM6;replace E := erx (No) w9;have hsE := hs.hE;have hiE := hI.iE;have hti := hI.hi;have hnd := hI.hd;have hdp := hI.hp;have hm := hI.hm;have hfi := hI.fi
    refine zf (srx (mvx rfl (mvx rfl (za rfl (qc Tryd.underlying9 rfl (za rfl (yt rfl rfl (rnx (zt rfl (fun h1 => ?_) (fun h1 => ?_))))))))))
    ·
     have h1 : t.i < s.size := by have h1 := of_decide_eq_true h1; omega
     refine zj (ze (zf (zx (zf (srx (mvx rfl (mvx rfl (za rfl (yh (j := t.i) (b := bAt s t.i) Tryd.underlying9 rfl rfl rfl (yu h1) ?_)))))))));by_cases hE2 : t.i < Z
     ·
      have hdone := rdN_cont hs hI hE2;have hkeep := (rdN_keeps hs hI hdone).1;have hu2 := hu;rw [vb hdone] at hu2;have hc := hs.at_ hfi hE2;have hb := bAt_lt s t.i
      refine anx rfl (zx (srx (mvx rfl (za rfl (ye rfl rfl (za rfl (zav Tryd.underlying4 rfl rfl (anx rfl (zu 66 (.bool false) rfl ((by rw [vy (by omega)]; rfl : (.bool (true == (((bAt s t.i : Nat) : Int) == 95)) : Value) = _)) ?_)))))))));by_cases hdot : bAt s t.i = 46
      ·
       have hstep : vz s t = { t with i := t.i + 1, dot := true, dp := t.nd } := by unfold vz; rw [if_pos hdot]
       have hnodot : t.dot = false := by
        rcases hc with ⟨_, h3⟩ | ⟨h3, _⟩
        · omega
        · cases h4 : t.dot with
          | false => rfl
          | true => have := hI.dt h4; omega
       rw [hstep] at hkeep hu2
       refine zy rfl (srx (mvx rfl (za rfl (ye rfl rfl (za rfl (zav Tryd.underlying4 rfl rfl (anx rfl (zu 70 (.bool true) rfl ((by rw [hdot]; rfl : (.bool (true == (((bAt s t.i : Nat) : Int) == 46)) : Value) = _)) (yi rfl (zf (srx (mvx rfl (rnx (zu 74 (.bool false) rfl ((by rw [hnodot] : (.bool t.dot : Value) = _)) (zy rfl (zj (ze (srx (anx rfl (srx (mvx rfl (anx rfl (yn (yv rfl (zg (zv (ze (zi (mvx rfl (za rfl (yg rfl rfl (zo (by omega)) ?_)))))))))))))))))))))))))))))))
       refine avx rfl (yf ?_);exact ym ({ t with i := t.i + 1, dot := true, dp := t.nd }) (by show Z - (t.i + 1) < Z - t.i; omega) ⟨rfl, rfl, rfl, rfl, rfl, rfl, rfl, rfl, rfl, rfl, rfl, rfl, rfl, rfl, rfl, rfl, rfl, trivial⟩ ⟨M8.step E XM8, hkeep, hu2⟩
      ·
       have hc : 48 ≤ bAt s t.i ∧ bAt s t.i ≤ 57 := by omega
       refine zy rfl (srx (mvx rfl (za rfl (ye rfl rfl (za rfl (zav Tryd.underlying4 rfl rfl (anx rfl (zu 70 (.bool false) rfl ((by rw [vy (by omega)]; rfl : (.bool (true == (((bAt s t.i : Nat) : Int) == 46)) : Value) = _)) (zy rfl (srx (mvx rfl (za rfl (gz rfl rfl (mvx rfl (yd 79 (.bool true) rfl ((by rw [decide_eq_true (by omega)] : (.bool (decide (48 ≤ ((bAt s t.i : Nat) : Int))) : Value) = _)) (onx rfl (zq rfl (onx rfl (gz rfl rfl (za rfl (zw rfl rfl (za rfl (zav Tryd.underlying4 rfl rfl (anx rfl (zu 76 (.bool true) rfl ((by rw [decide_eq_true (by omega)]; rfl : (.bool (true == (decide (((bAt s t.i : Nat) : Int) ≤ 57))) : Value) = _)) (yi rfl (srx (anx rfl (zf (srx (mvx rfl (za rfl (ye rfl rfl (mvx rfl (yo 86 rfl (fun h3 => ?_) (fun h3 => ?_))))))))))))))))))))))))))))))))))))
       ·
        have h3 : bAt s t.i = 48 := by have h3 := eq_of_beq h3; omega
        refine onx rfl (zq rfl (onx rfl (ye rfl rfl (za rfl (zw rfl rfl (rnx (zt rfl (fun h4 => ?_) (fun h4 => ?_))))))))
        ·
         have h4 : t.nd = 0 := by have h4 := eq_of_beq h4; omega
         have hstep : vz s t = { t with i := t.i + 1, dig := true, dp := t.dp - 1 } := by unfold vz; rw [if_neg hdot, if_pos ⟨h3, h4⟩]
         rw [hstep] at hkeep hu2;refine srx (mvx rfl (za rfl (yw rfl rfl (zo (by omega)) (anx rfl (yn (zg (yv rfl (zg (zv (ze (zi (mvx rfl (za rfl (yg rfl rfl (zo (by omega)) (avx rfl (yf ?_))))))))))))))))
         exact ym ({ t with i := t.i + 1, dig := true, dp := t.dp - 1 }) (by show Z - (t.i + 1) < Z - t.i; omega) ⟨rfl, rfl, rfl, rfl, rfl, rfl, rfl, rfl, rfl, rfl, rfl, rfl, rfl, rfl, rfl, rfl, rfl, trivial⟩ ⟨M8.step E XM8, hkeep, hu2⟩
        ·
         have hnz : ¬ (bAt s t.i = 48 ∧ t.nd = 0) := fun h => absurd h4 (by rw [h.2]; decide);refine zj (ze (srx (mvx rfl (za rfl (yg rfl rfl (zo (by omega)) (anx rfl (zf (srx (mvx rfl (mvx rfl (za rfl (yt rfl rfl (rnx (zt rfl (fun h5 => ?_) (fun h5 => ?_)))))))))))))))
         ·
          have h5 : t.nm < 19 := by have h5 := of_decide_eq_true h5; omega
          have hm18 := m_lt hm h5;have hstep : vz s t = { t with i := t.i + 1, dig := true, nd := t.nd + 1, nm := t.nm + 1, m := t.m * 10 + (bAt s t.i - 48) } := by unfold vz; rw [if_neg hdot, if_neg hnz, if_pos h5]
          rw [hstep] at hkeep hu2
          refine srx (mvx rfl (mvx rfl (za rfl (gy rfl rfl (wrap_u64 (by omega)) (anx rfl (srx (mvx rfl (mvx rfl (za rfl (yw rfl rfl (xx (by omega)) (za rfl (ja Tryd.underlying30 Tryd.underlying5 rfl (wrap_u64 (by omega)) (za rfl (yg rfl rfl (wrap_u64 (by omega)) (anx rfl (zi (mvx rfl (za rfl (yg rfl rfl (zo (by omega)) (anx rfl (yn (yv rfl (zg (zv (ze (zi (mvx rfl (za rfl (yg rfl rfl (zo (by omega)) (avx rfl (yf (yr 2 (.int .u64 ((t.m * 10 + (bAt s t.i - 48) : Nat) : Int)) rfl ((by congr 1; omega : (.int .u64 ((((t.m : Nat) : Int) * 10) + (((bAt s t.i : Nat) : Int) - 48)) : Value) = _)) ?_))))))))))))))))))))))))))))))))
          exact ym ({ t with i := t.i + 1, dig := true, nd := t.nd + 1, nm := t.nm + 1, m := t.m * 10 + (bAt s t.i - 48) }) (by show Z - (t.i + 1) < Z - t.i; omega) ⟨rfl, rfl, rfl, rfl, rfl, rfl, rfl, rfl, rfl, rfl, rfl, rfl, rfl, rfl, rfl, rfl, rfl, trivial⟩ ⟨M8.step E XM8, hkeep, hu2⟩
         ·
          have h5 : ¬ t.nm < 19 := by have h5 := of_decide_eq_false h5; omega
          have hstep : vz s t = { t with i := t.i + 1, dig := true, nd := t.nd + 1, tr := t.tr || decide (bAt s t.i ≠ 48) } := by unfold vz; rw [if_neg hdot, if_neg hnz, if_neg h5]
          rw [hstep] at hkeep hu2;refine srx (mvx rfl (za rfl (qn rfl rfl (rnx (zt rfl (fun h6 => ?_) (fun h6 => ?_))))))
          ·
           have h6 : bAt s t.i ≠ 48 := fun e => absurd h6 (by rw [e]; decide)
           refine zi (anx rfl (yn (yv rfl (zg (zv (ze (zi (mvx rfl (za rfl (yg rfl rfl (zo (by omega)) (avx rfl (yf (yr 5 (.bool (t.tr || decide (bAt s t.i ≠ 48))) rfl ((by rw [decide_eq_true h6, Bool.or_true] : (.bool true : Value) = _)) ?_)))))))))))))
           exact ym ({ t with i := t.i + 1, dig := true, nd := t.nd + 1, tr := t.tr || decide (bAt s t.i ≠ 48) }) (by show Z - (t.i + 1) < Z - t.i; omega) ⟨rfl, rfl, rfl, rfl, rfl, rfl, rfl, rfl, rfl, rfl, rfl, rfl, rfl, rfl, rfl, rfl, rfl, trivial⟩ ⟨M8.step E XM8, hkeep, hu2⟩
          ·
           have h6 : bAt s t.i = 48 := by
            rcases Nat.decEq (bAt s t.i) 48 with h7 | h7
            · rw [bne_iff_ne.2 (by omega)] at h6; cases h6
            · exact h7
           refine zj (ze (yn (yv rfl (zg (zv (ze (zi (mvx rfl (za rfl (yg rfl rfl (zo (by omega)) (avx rfl (yf (yr 5 (.bool (t.tr || decide (bAt s t.i ≠ 48))) rfl ((by rw [decide_eq_false (fun h => h h6), Bool.or_false] : (.bool t.tr : Value) = _)) ?_)))))))))))))
           exact ym ({ t with i := t.i + 1, dig := true, nd := t.nd + 1, tr := t.tr || decide (bAt s t.i ≠ 48) }) (by show Z - (t.i + 1) < Z - t.i; omega) ⟨rfl, rfl, rfl, rfl, rfl, rfl, rfl, rfl, rfl, rfl, rfl, rfl, rfl, rfl, rfl, rfl, rfl, trivial⟩ ⟨M8.step E XM8, hkeep, hu2⟩
       ·
        have hnz : ¬ (bAt s t.i = 48 ∧ t.nd = 0) := fun h => absurd h3 (by rw [h.1]; decide)
        refine za rfl (zc rfl (za rfl (zc rfl (za rfl (ya rfl rfl (rnx (zy rfl (zj (ze (srx (mvx rfl (za rfl (yg rfl rfl (zo (by omega)) (anx rfl (zf (srx (mvx rfl (mvx rfl (za rfl (yt rfl rfl (rnx (zt rfl (fun h5 => ?_) (fun h5 => ?_)))))))))))))))))))))))
        ·
         have h5 : t.nm < 19 := by have h5 := of_decide_eq_true h5; omega
         have hm18 := m_lt hm h5;have hstep : vz s t = { t with i := t.i + 1, dig := true, nd := t.nd + 1, nm := t.nm + 1, m := t.m * 10 + (bAt s t.i - 48) } := by unfold vz; rw [if_neg hdot, if_neg hnz, if_pos h5]
         rw [hstep] at hkeep hu2
         refine srx (mvx rfl (mvx rfl (za rfl (gy rfl rfl (wrap_u64 (by omega)) (anx rfl (srx (mvx rfl (mvx rfl (za rfl (yw rfl rfl (xx (by omega)) (za rfl (ja Tryd.underlying30 Tryd.underlying5 rfl (wrap_u64 (by omega)) (za rfl (yg rfl rfl (wrap_u64 (by omega)) (anx rfl (zi (mvx rfl (za rfl (yg rfl rfl (zo (by omega)) (anx rfl (yn (yv rfl (zg (zv (ze (zi (mvx rfl (za rfl (yg rfl rfl (zo (by omega)) (avx rfl (yf (yr 2 (.int .u64 ((t.m * 10 + (bAt s t.i - 48) : Nat) : Int)) rfl ((by congr 1; omega : (.int .u64 ((((t.m : Nat) : Int) * 10) + (((bAt s t.i : Nat) : Int) - 48)) : Value) = _)) ?_))))))))))))))))))))))))))))))))
         exact ym ({ t with i := t.i + 1, dig := true, nd := t.nd + 1, nm := t.nm + 1, m := t.m * 10 + (bAt s t.i - 48) }) (by show Z - (t.i + 1) < Z - t.i; omega) ⟨rfl, rfl, rfl, rfl, rfl, rfl, rfl, rfl, rfl, rfl, rfl, rfl, rfl, rfl, rfl, rfl, rfl, trivial⟩ ⟨M8.step E XM8, hkeep, hu2⟩
        ·
         have h5 : ¬ t.nm < 19 := by have h5 := of_decide_eq_false h5; omega
         have hstep : vz s t = { t with i := t.i + 1, dig := true, nd := t.nd + 1, tr := t.tr || decide (bAt s t.i ≠ 48) } := by unfold vz; rw [if_neg hdot, if_neg hnz, if_neg h5]
         rw [hstep] at hkeep hu2;refine srx (mvx rfl (za rfl (qn rfl rfl (rnx (zt rfl (fun h6 => ?_) (fun h6 => ?_))))))
         ·
          have h6 : bAt s t.i ≠ 48 := fun e => absurd h6 (by rw [e]; decide)
          refine zi (anx rfl (yn (yv rfl (zg (zv (ze (zi (mvx rfl (za rfl (yg rfl rfl (zo (by omega)) (avx rfl (yf (yr 5 (.bool (t.tr || decide (bAt s t.i ≠ 48))) rfl ((by rw [decide_eq_true h6, Bool.or_true] : (.bool true : Value) = _)) ?_)))))))))))))
          exact ym ({ t with i := t.i + 1, dig := true, nd := t.nd + 1, tr := t.tr || decide (bAt s t.i ≠ 48) }) (by show Z - (t.i + 1) < Z - t.i; omega) ⟨rfl, rfl, rfl, rfl, rfl, rfl, rfl, rfl, rfl, rfl, rfl, rfl, rfl, rfl, rfl, rfl, rfl, trivial⟩ ⟨M8.step E XM8, hkeep, hu2⟩
         ·
          have h6 : bAt s t.i = 48 := by
           rcases Nat.decEq (bAt s t.i) 48 with h7 | h7
           · rw [bne_iff_ne.2 (by omega)] at h6; cases h6
           · exact h7
          refine zj (ze (yn (yv rfl (zg (zv (ze (zi (mvx rfl (za rfl (yg rfl rfl (zo (by omega)) (avx rfl (yf (yr 5 (.bool (t.tr || decide (bAt s t.i ≠ 48))) rfl ((by rw [decide_eq_false (fun h => h h6), Bool.or_false] : (.bool t.tr : Value) = _)) ?_)))))))))))))
          exact ym ({ t with i := t.i + 1, dig := true, nd := t.nd + 1, tr := t.tr || decide (bAt s t.i ≠ 48) }) (by show Z - (t.i + 1) < Z - t.i; omega) ⟨rfl, rfl, rfl, rfl, rfl, rfl, rfl, rfl, rfl, rfl, rfl, rfl, rfl, rfl, rfl, rfl, rfl, trivial⟩ ⟨M8.step E XM8, hkeep, hu2⟩
     ·
      have hdone : kt s t = true := by
       have e : t.i = Z := by omega
       unfold kt;rw [Bool.or_eq_true];right
       rw [e, (hs.exp (by omega)).1];rfl
      have hb : bAt s t.i = 101 := by
       have e : t.i = Z := by omega
       rw [e]; exact (hs.exp (by omega)).1
      rw [qe hdone] at hu
      refine anx rfl (zx (srx (mvx rfl (za rfl (ye rfl rfl (za rfl (zav Tryd.underlying4 rfl rfl (anx rfl (zu 66 (.bool false) rfl ((by rw [hb]; rfl : (.bool (true == (((bAt s t.i : Nat) : Int) == 95)) : Value) = _)) (zy rfl (srx (mvx rfl (za rfl (ye rfl rfl (za rfl (zav Tryd.underlying4 rfl rfl (anx rfl (zu 70 (.bool false) rfl ((by rw [hb]; rfl : (.bool (true == (((bAt s t.i : Nat) : Int) == 46)) : Value) = _)) (zy rfl (srx (mvx rfl (za rfl (gz rfl rfl (mvx rfl (yd 79 (.bool true) rfl ((by rw [hb]; rfl : (.bool (decide (48 ≤ ((bAt s t.i : Nat) : Int))) : Value) = _)) (onx rfl (zq rfl (onx rfl (gz rfl rfl (za rfl (zw rfl rfl (za rfl (zav Tryd.underlying4 rfl rfl (anx rfl (zu 76 (.bool false) rfl ((by rw [hb]; rfl : (.bool (true == (decide (((bAt s t.i : Nat) : Int) ≤ 57))) : Value) = _)) (zy rfl (zf ?_)))))))))))))))))))))))))))))))))))))
      refine zi (mvx rfl (za rfl (ye rfl rfl (mvx rfl (za rfl (zc rfl (za rfl (zc rfl (za rfl (zc rfl (za rfl (ya rfl rfl (mvx rfl (za rfl (zc rfl (za rfl (zc rfl (za rfl (zc rfl (za rfl (ya rfl rfl (za rfl (zav Tryd.underlying4 rfl rfl (anx rfl (zy rfl (zj (zm (ze (yn (yv rfl (zg (zg (zv ?_)))))))))))))))))))))))))))))))))
      exact yp t ⟨rfl, rfl, rfl, rfl, rfl, rfl, rfl, rfl, rfl, rfl, rfl, rfl, rfl, rfl, rfl, rfl, rfl, trivial⟩ ⟨M6.step E XM6, hu⟩
    ·
     have h1 : ¬ t.i < s.size := by have h1 := of_decide_eq_false h1; omega
     have hdone : kt s t = true := by
      unfold kt;rw [decide_eq_true (by omega)]; rfl
     rw [qe hdone] at hu;refine yn (zg (zg (zv ?_)));exact yp t ⟨rfl, rfl, rfl, rfl, rfl, rfl, rfl, rfl, rfl, rfl, rfl, rfl, rfl, rfl, rfl, rfl, rfl, trivial⟩ ⟨M6.step E XM6, hu⟩
   ·
    rintro t w7 ⟨M6, ht⟩;replace E := E.trans M6;replace LW := LW.step E XLW;replace E := erx (No) w7;obtain ⟨hR, hRi⟩ := rdA_ends hs;rw [← ht] at hR hRi;have e1 : rdM s f = t.m := by unfold rdM; rw [ht]
    have e3 : rdT s f = t.tr := by unfold rdT; rw [ht]
    have hfp := hs.fp;have hpE := hs.pE;have hsE := hs.hE;have hdig : t.dig = true := hR.dg (by omega);have hnd := hR.hd;have hdp := hR.hp;have hnm := hR.hn;have hti := hR.hi
    refine zf (srx (mvx rfl (za rfl (vw rfl (rnx (zu 140 (.bool false) rfl ((by rw [hdig]; rfl : (.bool (!t.dig) : Value) = _)) (zy rfl (zj (ze (zf (srx (mvx rfl (za rfl (vw rfl (rnx ?_)))))))))))))));replace LW := LW.step E XLW;replace E := erx (No) w7
    refine qd (ι := Int) (fun d2 => [(0, .string s), (2, .int .u64 ((t.m : Nat) : Int)), (3, .int .i64 0), (4, .bool neg), (5, .bool t.tr), (6, .bool false), (7, .int .i64 ((t.i : Nat) : Int)), (8, .bool false), (9, .bool false), (10, .int .u64 10), (12, .int .u8 101), (16, .int .i64 ((t.nm : Nat) : Int)), (17, .int .i64 d2)]) (fun d2 w' => Ext (No) w7 w' ∧ (d2 = (if t.dot then t.dp else ((t.nd : Nat) : Int)))) ?_ ?_
    ·
     have M10 := erx (No) w7;have XM10 := grx (No) w7;by_cases hdd : t.dot = true
     ·
      refine zu 142 (.bool false) rfl ((by rw [hdd]; rfl : (.bool (!t.dot) : Value) = _)) (zy rfl (zj ?_));exact yp t.dp ⟨rfl, rfl, rfl, rfl, rfl, rfl, rfl, rfl, rfl, rfl, rfl, rfl, rfl, trivial⟩ ⟨M10.step E XM10, by rw [hdd, if_pos rfl]⟩
     ·
      refine zu 142 (.bool true) rfl ((by rw [Bool.eq_false_iff.2 hdd]; rfl : (.bool (!t.dot) : Value) = _)) (yi rfl (zi (mvx rfl (avx rfl (yf ?_)))));exact yp ((t.nd : Nat) : Int) ⟨rfl, rfl, rfl, rfl, rfl, rfl, rfl, rfl, rfl, rfl, rfl, rfl, rfl, trivial⟩ ⟨M10.step E XM10, by rw [if_neg hdd]⟩
    ·
     rintro d2 w11 ⟨M10, hd2⟩;replace E := E.trans M10;replace LW := LW.step E XLW;replace E := erx (No) w11;have hb2 : -100000 ≤ d2 ∧ d2 ≤ 100000 := by rw [hd2]; split <;> omega
     have hP0 : rdP s f = d2 + zax s Z := by unfold rdP; rw [← ht, hRi, hd2]
     by_cases he : Z < s.size
     ·
      obtain ⟨hx1, hx2, hx3, hx4⟩ := hs.exp he;have hb : bAt s t.i = 101 := by rw [hRi]; exact hx1
      refine zf (srx (mvx rfl (za rfl (ye rfl rfl (rnx (zy rfl (zj (ze (zf (srx (mvx rfl (mvx rfl (za rfl (qc Tryd.underlying9 rfl (za rfl (yt rfl rfl (mvx rfl (yd 154 (.bool true) rfl ((by rw [decide_eq_true (by omega)] : (.bool (decide (((t.i : Nat) : Int) < ((s.size : Nat) : Int))) : Value) = _)) (onx rfl (zq rfl (onx rfl (zq rfl (onx rfl (yh (j := t.i) (b := bAt s t.i) Tryd.underlying9 rfl rfl rfl (yu (by omega)) (yd 157 (.int .u8 101) rfl ((by rw [hb]; rfl : (.int .u8 ((bAt s t.i : Nat) : Int) : Value) = _)) (onx rfl (zz en39 rfl ((pr239_1 _).mono ?_))))))))))))))))))))))))))))
      rintro e w12 ⟨rfl, hb⟩;refine ⟨_, rfl, ?_⟩;replace E := blx E hb
      refine onx rfl (zq rfl (onx rfl (ye rfl rfl (za rfl (zw rfl rfl (rnx (yi rfl (srx (mvx rfl (za rfl (yg rfl rfl (zo (by omega)) (anx rfl (zf (srx (mvx rfl (mvx rfl (za rfl (qc Tryd.underlying9 rfl (za rfl (vr rfl rfl (rnx (zu 167 (.bool false) rfl ((by rw [decide_eq_false (by omega)] : (.bool (decide (((s.size : Nat) : Int) ≤ (((t.i : Nat) : Int) + 1))) : Value) = _)) (zy rfl (zj (ze (srx (anx rfl (zf (srx (mvx rfl (mvx rfl (za rfl (yh (j := t.i + 1) (b := bAt s (t.i + 1)) Tryd.underlying9 rfl rfl rfl (yu (by omega)) ?_)))))))))))))))))))))))))))))))))
      rw [← hRi] at hx2;refine rnx ?_;replace LW := LW.step E XLW;replace E := erx (No) w12
      refine qd (ι := Nat × Int) (fun (k, g) => [(0, .string s), (2, .int .u64 ((t.m : Nat) : Int)), (3, .int .i64 0), (4, .bool neg), (5, .bool t.tr), (6, .bool false), (7, .int .i64 ((k : Nat) : Int)), (8, .bool false), (9, .bool false), (16, .int .i64 ((t.nm : Nat) : Int)), (17, .int .i64 d2), (19, .int .i64 g)]) (fun (k, g) w' => Ext (No) w12 w' ∧ (k = q ∧ g = (if bAt s (t.i + 1) = 45 then -1 else 1))) ?_ ?_
      ·
       have M13 := erx (No) w12;have XM13 := grx (No) w12;refine zx (srx (za rfl (ye rfl rfl (anx rfl ?_))));by_cases c43 : bAt s (t.i + 1) = 43
       ·
        refine zu 171 (.bool true) rfl ((by rw [c43]; rfl : (.bool (((bAt s (t.i + 1) : Nat) : Int) == 43) : Value) = _)) (yi rfl (zi (mvx rfl (za rfl (yg rfl rfl (zo (by omega)) (avx rfl (yf (zm ?_))))))))
        exact yp (t.i + 2, 1) ⟨rfl, rfl, rfl, rfl, rfl, rfl, rfl, rfl, rfl, rfl, rfl, rfl, trivial⟩ ⟨M13.step E XM13, by omega, by rw [if_neg (by omega)]⟩
       ·
        refine zu 171 (.bool false) rfl ((by rw [vy (by omega)] : (.bool (((bAt s (t.i + 1) : Nat) : Int) == 43) : Value) = _)) (zy rfl (srx (za rfl (ye rfl rfl (anx rfl ?_)))));by_cases c45 : bAt s (t.i + 1) = 45
        ·
         refine zu 175 (.bool true) rfl ((by rw [c45]; rfl : (.bool (((bAt s (t.i + 1) : Nat) : Int) == 45) : Value) = _)) (yi rfl (srx (mvx rfl (za rfl (yg rfl rfl (zo (by omega)) (anx rfl (zi (avx rfl (yf (zm ?_))))))))))
         exact yp (t.i + 2, -1) ⟨rfl, rfl, rfl, rfl, rfl, rfl, rfl, rfl, rfl, rfl, rfl, rfl, trivial⟩ ⟨M13.step E XM13, by omega, by rw [if_pos c45]⟩
        ·
         refine zu 175 (.bool false) rfl ((by rw [vy (by omega)] : (.bool (((bAt s (t.i + 1) : Nat) : Int) == 45) : Value) = _)) (zy rfl (zj (zm ?_)));exact yp (t.i + 1, 1) ⟨rfl, rfl, rfl, rfl, rfl, rfl, rfl, rfl, rfl, rfl, rfl, rfl, trivial⟩ ⟨M13.step E XM13, by omega, by rw [if_neg c45]⟩
      ·
       rintro ⟨k, g⟩ w14 ⟨M13, ⟨hk, hg⟩⟩;replace E := E.trans M13;replace LW := LW.step E XLW;replace E := erx (No) w14;subst hk;have hdq := hx4 k (Nat.le_refl _) hx3
       refine zf (srx (mvx rfl (mvx rfl (za rfl (qc Tryd.underlying9 rfl (za rfl (vr rfl rfl (mvx rfl (yd 183 (.bool false) rfl ((by rw [decide_eq_false (by omega)] : (.bool (decide (((s.size : Nat) : Int) ≤ ((k : Nat) : Int))) : Value) = _)) (onx rfl (zq rfl (onx rfl (zq rfl (onx rfl (yh (j := k) (b := bAt s k) Tryd.underlying9 rfl rfl rfl (yu hx3) (onx rfl (yt rfl rfl (za rfl (ya rfl rfl (mvx rfl (yd 189 (.bool false) rfl ((by rw [decide_eq_false (by omega)] : (.bool (decide (((bAt s k : Nat) : Int) < 48)) : Value) = _)) (onx rfl (zq rfl (onx rfl (zq rfl (onx rfl (yh (j := k) (b := bAt s k) Tryd.underlying9 rfl rfl rfl (yu hx3) (onx rfl (qq rfl rfl (za rfl (ya rfl rfl (rnx (zu 194 (.bool false) rfl ((by rw [decide_eq_false (by omega)] : (.bool (decide (57 < ((bAt s k : Nat) : Int))) : Value) = _)) (zy rfl (zj (ze (srx (anx rfl (zf ?_)))))))))))))))))))))))))))))))))))))))
       replace LW := LW.step E XLW;replace E := erx (No) w14
       refine qd (ι := ExS) (fun x => [(0, .string s), (2, .int .u64 ((t.m : Nat) : Int)), (3, .int .i64 0), (4, .bool neg), (5, .bool t.tr), (6, .bool false), (7, .int .i64 ((x.i : Nat) : Int)), (8, .bool false), (9, .bool false), (16, .int .i64 ((t.nm : Nat) : Int)), (17, .int .i64 d2), (19, .int .i64 g), (20, .int .i64 ((x.e : Nat) : Int))]) (fun x w' => Ext (No) w14 w' ∧ (x = exA s k)) ?_ ?_
       ·
        have M15 := erx (No) w14;have XM15 := grx (No) w14;refine zx ?_;replace M15 := M15.step E XM15;replace E := erx (No) w14
        refine qk (ι := ExS) (fun x => [(0, .string s), (2, .int .u64 ((t.m : Nat) : Int)), (3, .int .i64 0), (4, .bool neg), (5, .bool t.tr), (6, .bool false), (7, .int .i64 ((x.i : Nat) : Int)), (8, .bool false), (9, .bool false), (16, .int .i64 ((t.nm : Nat) : Int)), (17, .int .i64 d2), (19, .int .i64 g), (20, .int .i64 ((x.e : Nat) : Int))]) (fun x w' => Ext (No) w14 w' ∧ (ExI s k x ∧ qv (ki s) (xv s) x = exA s k)) (fun x => s.size - x.i) (⟨k, 0⟩) ⟨rfl, rfl, rfl, rfl, rfl, rfl, rfl, rfl, rfl, rfl, rfl, rfl, rfl, trivial⟩ ⟨Ext.refl _ _, ⟨⟨Nat.le_refl _, Nat.le_of_lt hx3⟩, by show 0 < 100000; decide⟩, rfl⟩ ?_
        rintro x w18 ⟨M17, ⟨hI, hu⟩⟩;have XM17 := grx (No) w14;replace E := E.trans M17;replace M15 := M15.step E XM15;replace E := erx (No) w18;have hhi := hI.hi;have hhe := hI.he;refine zf (srx (mvx rfl (mvx rfl (za rfl (qc Tryd.underlying9 rfl (za rfl (yt rfl rfl (mvx rfl (yo 199 rfl (fun h7 => ?_) (fun h7 => ?_))))))))))
        ·
         have h7 : x.i < s.size := by have h7 := of_decide_eq_true h7; omega
         have hc := hx4 x.i hhi.1 h7;have hdone : ki s x = false := by unfold ki; rw [decide_eq_false (by omega), zpx hc]; rfl
         have hkeep := (ex_keeps hI hdone).1;rw [vb hdone] at hu
         refine onx rfl (zq rfl (onx rfl (zq rfl (onx rfl (yh (j := x.i) (b := bAt s x.i) Tryd.underlying9 rfl rfl rfl (yu h7) (onx rfl (gz rfl rfl (onx rfl (zq rfl (yd 204 (.bool true) rfl ((by rw [decide_eq_true (by omega)] : (.bool (decide (48 ≤ ((bAt s x.i : Nat) : Int))) : Value) = _)) (onx rfl (zq rfl (onx rfl (zq rfl (onx rfl (yh (j := x.i) (b := bAt s x.i) Tryd.underlying9 rfl rfl rfl (yu h7) (onx rfl (gz rfl rfl (onx rfl (zw rfl rfl (onx rfl (zq rfl (yd 210 (.bool true) rfl ((by rw [decide_eq_true (by omega)] : (.bool (decide (((bAt s x.i : Nat) : Int) ≤ 57)) : Value) = _)) (za rfl (zc rfl (za rfl (zc rfl (za rfl (zc rfl (za rfl (zc rfl (onx rfl (zw rfl rfl (za rfl (zw rfl rfl (rnx (yi rfl (zj (ze (zf (zx (zf (srx (mvx rfl (mvx rfl (za rfl (yh (j := x.i) (b := bAt s x.i) Tryd.underlying9 rfl rfl rfl (yu h7) (za rfl (ye rfl rfl (rnx (zu 222 (.bool false) rfl ((by rw [vy (by omega)] : (.bool (((bAt s x.i : Nat) : Int) == 95) : Value) = _)) (zy rfl (zj (ze (zf ?_)))))))))))))))))))))))))))))))))))))))))))))))))))))))
         refine zi (mvx rfl (za rfl (yt rfl rfl (rnx (zt rfl (fun h8 => ?_) (fun h8 => ?_))))))
         ·
          have h8 : x.e < 10000 := by have h8 := of_decide_eq_true h8; omega
          have hstep : xv s x = ⟨x.i + 1, x.e * 10 + (bAt s x.i - 48)⟩ := by unfold xv; rw [if_pos h8]
          rw [hstep] at hkeep hu
          refine zi (mvx rfl (za rfl (gy rfl rfl (zo (by omega)) (mvx rfl (mvx rfl (za rfl (yh (j := x.i) (b := bAt s x.i) Tryd.underlying9 rfl rfl rfl (yu h7) (za rfl (ja Tryd.underlying3 Tryd.underlying5 rfl (zo (by omega)) (za rfl (yg rfl rfl (zo (by omega)) (za rfl (yw rfl rfl (zo (by omega)) (avx rfl (yf (zm (ze (zi (mvx rfl (za rfl (yg rfl rfl (zo (by omega)) (avx rfl (yf (yr 20 (.int .i64 ((x.e * 10 + (bAt s x.i - 48) : Nat) : Int)) rfl ((by congr 1; omega : (.int .i64 (((((x.e : Nat) : Int) * 10) + ((bAt s x.i : Nat) : Int)) - 48) : Value) = _)) ?_))))))))))))))))))))))))
          exact ym (⟨x.i + 1, x.e * 10 + (bAt s x.i - 48)⟩) (by show s.size - (x.i + 1) < s.size - x.i; omega) ⟨rfl, rfl, rfl, rfl, rfl, rfl, rfl, rfl, rfl, rfl, rfl, rfl, rfl, trivial⟩ ⟨M17.step E XM17, hkeep, hu⟩
         ·
          have h8 : ¬ x.e < 10000 := by have h8 := of_decide_eq_false h8; omega
          have hstep : xv s x = ⟨x.i + 1, x.e⟩ := by unfold xv; rw [if_neg h8]
          rw [hstep] at hkeep hu;refine zj (zm (ze (zi (mvx rfl (za rfl (yg rfl rfl (zo (by omega)) (avx rfl (yf ?_))))))));exact ym (⟨x.i + 1, x.e⟩) (by show s.size - (x.i + 1) < s.size - x.i; omega) ⟨rfl, rfl, rfl, rfl, rfl, rfl, rfl, rfl, rfl, rfl, rfl, rfl, rfl, trivial⟩ ⟨M17.step E XM17, hkeep, hu⟩
        ·
         have h7 : ¬ x.i < s.size := by have h7 := of_decide_eq_false h7; omega
         have hdone : ki s x = true := by unfold ki; rw [decide_eq_true (by omega)]; rfl
         rw [qe hdone] at hu
         refine za rfl (zc rfl (za rfl (zc rfl (za rfl (zc rfl (za rfl (zc rfl (za rfl (zc rfl (za rfl (qu rfl rfl (za rfl (qu rfl rfl (za rfl (qu rfl rfl (za rfl (qu rfl rfl (za rfl (zc rfl (za rfl (zc rfl (za rfl (qu rfl rfl (za rfl (qu rfl rfl (za rfl (qu rfl rfl (za rfl (qu rfl rfl (za rfl (zc rfl (za rfl (ya rfl rfl (rnx (zy rfl (yn (zg (zg (zv ?_)))))))))))))))))))))))))))))))))))))))
         exact yp x ⟨rfl, rfl, rfl, rfl, rfl, rfl, rfl, rfl, rfl, rfl, rfl, rfl, rfl, trivial⟩ ⟨M15.step E XM15, hu⟩
       ·
        rintro x w16 ⟨M15, hx⟩;replace E := E.trans M15;replace LW := LW.step E XLW;replace E := erx (No) w16;obtain ⟨hI, hdx⟩ := zlz (s := s) (q := k) (by omega);rw [← hx] at hI hdx;have hxi := ex_out hx4 hI hdx;have hxe := hI.he;have hX : IntKind.i64.wrap (((x.e : Nat) : Int) * g) = zax s Z := by
         have e9 : zax s Z = ((x.e : Nat) : Int) * g := by
          unfold zax;rw [if_neg (by omega), ← hRi, hg, hx];rcases hx2 with ⟨h9, h10, h11⟩ | ⟨h9, h10⟩
          · rw [if_neg h11, if_neg h10, if_neg h11, ← h9, Int.mul_one]
          · rcases h10 with h10 | h10
            · rw [if_neg (by omega), if_pos h10, if_neg (by omega), ← h9, Int.mul_one]
            · rw [if_pos h10, if_pos h10, ← h9, Int.mul_neg, Int.mul_one]
         have h12 := zyk hs;rw [← e9];exact zo (by omega)
        have h12 := zyk hs;refine zi (mvx rfl (mvx rfl (mvx rfl (za rfl (gy rfl rfl hX (za rfl (yg rfl rfl (zo (by omega)) (anx rfl (zf (srx (mvx rfl (za rfl (qn rfl rfl (rnx (zu 7 (.int .i64 ((s.size : Nat) : Int)) rfl ((by rw [hxi] : (.int .i64 ((x.i : Nat) : Int) : Value) = _)) ?_)))))))))))))));have hP : d2 + zax s Z = rdP s f := hP0.symm
        by_cases hm0 : t.m = 0
        ·
         refine zu 241 (.bool false) rfl ((by rw [hm0]; rfl : (.bool (((t.m : Nat) : Int) != 0) : Value) = _)) (zy rfl (zj (ze (zf (srx (mvx rfl (mvx rfl (za rfl (zc rfl (za rfl (zc rfl (za rfl (zc rfl (za rfl (zc rfl (za rfl (zc rfl (za rfl (ya rfl rfl (rnx (zy rfl (zj (ze (srx (anx rfl (zr (jr ?_)))))))))))))))))))))))))))
         have e2 : rdX s f = 0 := by unfold rdX; rw [← ht, if_neg (fun h => h hm0)]
         refine zp (rs := [.tmp 2, .tmp 3, .tmp 4, .tmp 5, .tmp 6, .tmp 7, .tmp 8]) (vs := [_, _, _, _, _, _, _]) rfl ⟨rfl, rfl, rfl, rfl, rfl, rfl, rfl, trivial⟩ ?_;exact ⟨by rw [e1, e2, e3]; rfl, (LW.step E XLW).toBelow⟩
        ·
         refine zu 241 (.bool true) rfl (bne_b (by omega)) (yi rfl (zi (mvx rfl (mvx rfl (za rfl (yw rfl rfl (zo (by omega)) (anx rfl (zf (srx (mvx rfl (mvx rfl (za rfl (zc rfl (za rfl (zc rfl (za rfl (zc rfl (za rfl (zc rfl (za rfl (zc rfl (za rfl (ya rfl rfl (rnx (zy rfl (zj (ze (srx (anx rfl (zr (jr ?_)))))))))))))))))))))))))))))))
         have e2 : rdX s f = rdP s f - ((t.nm : Nat) : Int) := by unfold rdX; rw [← ht, if_pos hm0]
         refine zp (rs := [.tmp 2, .tmp 3, .tmp 4, .tmp 5, .tmp 6, .tmp 7, .tmp 8]) (vs := [_, _, _, _, _, _, _]) rfl ⟨rfl, rfl, rfl, rfl, rfl, rfl, rfl, trivial⟩ ?_;exact ⟨by rw [e1, e2, e3, ← hP]; rfl, (LW.step E XLW).toBelow⟩
     ·
      have hz : zax s Z = 0 := by unfold zax; rw [if_pos (by omega)]
      refine zf (srx (mvx rfl (za rfl (ye rfl rfl (rnx (zy rfl (zj (ze (zf (srx (mvx rfl (mvx rfl (za rfl (qc Tryd.underlying9 rfl (za rfl (yt rfl rfl (mvx rfl (yd 154 (.bool false) rfl ((by rw [decide_eq_false (by omega)] : (.bool (decide (((t.i : Nat) : Int) < ((s.size : Nat) : Int))) : Value) = _)) (za rfl (zc rfl (za rfl (zc rfl (za rfl (zc rfl (za rfl (zc rfl (za rfl (zc rfl (za rfl (zc rfl (za rfl (ya rfl rfl (rnx (zy rfl (srx (mvx rfl (za rfl (ye rfl rfl (rnx (zy rfl (zj (ze (zf (zf ?_))))))))))))))))))))))))))))))))))))))))))))
      refine zi (mvx rfl (za rfl (qn rfl rfl (rnx (zu 7 (.int .i64 ((s.size : Nat) : Int)) rfl ((by congr 1; omega : (.int .i64 ((t.i : Nat) : Int) : Value) = _)) ?_)))));have hP : d2 = rdP s f := by rw [hP0, hz, Int.add_zero]
      by_cases hm0 : t.m = 0
      ·
       refine zu 241 (.bool false) rfl ((by rw [hm0]; rfl : (.bool (((t.m : Nat) : Int) != 0) : Value) = _)) (zy rfl (zj (ze (zf (srx (mvx rfl (mvx rfl (za rfl (zc rfl (za rfl (zc rfl (za rfl (zc rfl (za rfl (zc rfl (za rfl (zc rfl (za rfl (ya rfl rfl (rnx (zy rfl (zj (ze (srx (anx rfl (zr (jr ?_)))))))))))))))))))))))))))
       have e2 : rdX s f = 0 := by unfold rdX; rw [← ht, if_neg (fun h => h hm0)]
       refine zp (rs := [.tmp 2, .tmp 3, .tmp 4, .tmp 5, .tmp 6, .tmp 7, .tmp 8]) (vs := [_, _, _, _, _, _, _]) rfl ⟨rfl, rfl, rfl, rfl, rfl, rfl, rfl, trivial⟩ ?_;exact ⟨by rw [e1, e2, e3]; rfl, (LW.step E XLW).toBelow⟩
      ·
       refine zu 241 (.bool true) rfl (bne_b (by omega)) (yi rfl (zi (mvx rfl (mvx rfl (za rfl (yw rfl rfl (zo (by omega)) (anx rfl (zf (srx (mvx rfl (mvx rfl (za rfl (zc rfl (za rfl (zc rfl (za rfl (zc rfl (za rfl (zc rfl (za rfl (zc rfl (za rfl (ya rfl rfl (rnx (zy rfl (zj (ze (srx (anx rfl (zr (jr ?_)))))))))))))))))))))))))))))))
       have e2 : rdX s f = rdP s f - ((t.nm : Nat) : Int) := by unfold rdX; rw [← ht, if_pos hm0]
       refine zp (rs := [.tmp 2, .tmp 3, .tmp 4, .tmp 5, .tmp 6, .tmp 7, .tmp 8]) (vs := [_, _, _, _, _, _, _]) rfl ⟨rfl, rfl, rfl, rfl, rfl, rfl, rfl, trivial⟩ ?_;exact ⟨by rw [e1, e2, e3, ← hP]; rfl, (LW.step E XLW).toBelow⟩
end
end Go.Proofs.YtmjbnhjgebjhlaaDoor
namespace Go.Proofs.YtmjbnhjgebjhlaaDoor
open Go.RowKit
set_option maxRecDepth 100000
attribute [local irreducible] OW RS
theorem trimN_on {d : List Nat} {n : Nat} (h0 : n ≠ 0) (h : dg d (n - 1) = 48) : jt d n = jt d (n - 1) := by
 obtain ⟨m, rfl⟩ : ∃ m, n = m + 1 := ⟨n - 1, by omega⟩;rw [Nat.add_sub_cancel] at h ⊢;rw [jt, if_pos h]
theorem trimN_off {d : List Nat} {n : Nat} (h0 : n ≠ 0) (h : dg d (n - 1) ≠ 48) : jt d n = n := by
 obtain ⟨m, rfl⟩ : ∃ m, n = m + 1 := ⟨n - 1, by omega⟩;rw [Nat.add_sub_cancel] at h;rw [jt, if_neg h]
theorem preLess_at {b l : List Nat} {i x y : Nat} (hb : b[i]? = some x) (hl : l[i]? = some y) : vx (b.drop i) (l.drop i) = if x = y then vx (b.drop (i + 1)) (l.drop (i + 1)) else decide (x < y) := by
 obtain ⟨h1, h2⟩ := List.getElem?_eq_some_iff.1 hb;obtain ⟨h3, h4⟩ := List.getElem?_eq_some_iff.1 hl;rw [List.drop_eq_getElem_cons h1, List.drop_eq_getElem_cons h3, h2, h4];rfl
theorem preLess_end (b : List Nat) {l : List Nat} {i : Nat} (h : l.length ≤ i) : vx b (l.drop i) = false := by
 rw [List.drop_eq_nil_of_le h];cases b <;> rfl
theorem preLess_short {b l : List Nat} {i : Nat} (h : b.length ≤ i) (h2 : i < l.length) : vx (b.drop i) (l.drop i) = true := by
 rw [List.drop_eq_nil_of_le h, List.drop_eq_getElem_cons h2];rfl
theorem take_at {d : List Nat} {n i : Nat} (hi : i < n) (hn : n ≤ d.length) : (d.take n)[i]? = some (dg d i) := by
 rw [List.getElem?_take, if_pos hi, dg_at (by omega)]
theorem two60 {n k : Nat} (h : n < 2 ^ k) (hk : k ≤ 60) : n < 1152921504606846976 := by
 have h1 : 2 ^ k ≤ 2 ^ 60 := Nat.pow_le_pow_right (by decide) hk;have h2 : (2 : Nat) ^ 60 = 1152921504606846976 := by decide
 omega
theorem two64 {n k : Nat} (h : n < 10 * 2 ^ k) (hk : k ≤ 60) : n < 11529215046068469760 := by
 have h1 : 2 ^ k ≤ 2 ^ 60 := Nat.pow_le_pow_right (by decide) hk;have h2 : (2 : Nat) ^ 60 = 1152921504606846976 := by decide
 omega
theorem beq_0 {m : Nat} (h : m ≠ 0) : ((.bool (((m : Nat) : Int) == 0)) : Value) = .bool false := by rw [beq_eq_false_iff_ne.2 (by omega)]
theorem xj {t : Dec} (h : t.d.length = 800) (n : Nat) (e : t.nd = n) : (yz t)[800]? = some (.int .i64 ((n : Nat) : Int)) := e ▸ dec_nd h
theorem zlq {t : Dec} (h : t.d.length = 800) (p : Int) (e : t.dp = p) : (yz t)[801]? = some (.int .i64 p) := e ▸ dec_dp h
theorem ngAt {t : Dec} (h : t.d.length = 800) (b : Bool) (e : t.neg = b) : (yz t)[802]? = some (.bool b) := e ▸ dec_neg h
theorem trAt {t : Dec} (h : t.d.length = 800) (b : Bool) (e : t.tr = b) : (yz t)[803]? = some (.bool b) := e ▸ dec_tr h
theorem dAt {t : Dec} (h : t.d.length = 800) (b j : Nat) (e : dg t.d j = b) (hj : j < 800) : (yz t)[j]? = some (.int .u8 ((b : Nat) : Int)) := e ▸ dec_at h hj
theorem in_ {t : Dec} (h : t.d.length = 800) {j : Nat} (hj : j < 804) : j < (yz t).size := by rw [dec_size h]; exact hj
section
variable (w : World)
theorem trim_any (ga : Nat) (t : Dec) (hl : t.d.length = 800) (hn : t.nd ≤ 800) (hB : Blk w ga 125 (yz t)) :
 Calls Tryd.prog 93 #[.pointer (some ⟨ga, 0, none⟩)] w fun e w' => e = .returned (.tuple #[]) ∧ Blk w' ga 125 (yz (zuq t)) ∧ Ext (Mut [some ga]) w w' := by
 refine yl Tryd.func93 rfl Tryd.ntmps93 rfl ?_;have Ba := hB;have LW := erx (Mut [(some ga)]) w;have XLW := grx (Mut [(some ga)]) w;have E := erx (Mut [(some ga)]) w;refine zf ?_;replace LW := LW.step E XLW;replace E := erx (Mut [(some ga)]) w
 refine qd (ι := Unit) (fun _ => [(0, .pointer (some ⟨ga, 0, none⟩))]) (fun _ w' => Ext (Mut [(some ga)]) w w' ∧ Blk w' ga 125 (yz { t with nd := jt t.d t.nd }) ∧ (True)) ?_ ?_
 ·
  have M1 := erx (Mut [(some ga)]) w;have XM1 := grx (Mut [(some ga)]) w;refine zx ?_;replace M1 := M1.step E XM1;replace E := erx (Mut [(some ga)]) w
  refine qk (ι := Nat) (fun n => [(0, .pointer (some ⟨ga, 0, none⟩))]) (fun n w' => Ext (Mut [(some ga)]) w w' ∧ Blk w' ga 125 (yz { t with nd := n }) ∧ (n ≤ 800 ∧ jt t.d n = jt t.d t.nd)) (fun n => n) t.nd ⟨rfl, trivial⟩ ⟨Ext.refl _ _, (by exact Ba), hn, rfl⟩ ?_;have LTa := (yj Ba.lt);clear Ba;rintro n w4 ⟨M3, Ba, ⟨hn8, he⟩⟩
  have XM3 : Gro (Mut [(some ga)]) (Mut [(some ga)]) w := (Mut.grow Mut.none_ (fun k e => Or.inl (Mut.head k e)));replace E := E.trans M3;replace M1 := M1.step E XM1;replace E := erx (Mut [(some ga)]) w4;have hl1 : ({ t with nd := n } : Dec).d.length = 800 := hl;by_cases h0 : n = 0
  ·
   have e : jt t.d t.nd = n := by rw [← he, h0]; rfl
   refine zf (zf ?_);have OY : ∀ q9, (Mut (xq [])) q9 → q9 < (World.drew w4).heap.size → (Mut [(some ga)]) q9 := fun k h _ => (Mut.none_) k h;refine vu (Mut [(some ga)]) (Mut.grow Mut.none_ (yj Ba.lt)) [] [] (oz [Fx.of (.pointer (some ⟨ga, 0, none⟩)),
    Fx.of (.pointer (some ⟨ga, 0, none⟩)),
    Fx.of (.pointer (some ⟨ga, 800, none⟩)),
    Fx.of (.int .i64 ((n : Nat) : Int)),
    Fx.of (.bool false),
    Fx.of (.bool false),
    Fx.of undef,
    Fx.of undef,
    Fx.of undef,
    Fx.of undef,
    Fx.of undef,
    Fx.of undef,
    Fx.of undef,
    Fx.of undef,
    Fx.of undef,
    Fx.of undef,
    Fx.of undef,
    Fx.of (.bool false)]) mixed rfl trivial (fun _ h => by cases h) ?_ ?_
   · refine ⟨?_, ?_, ?_, ?_, ?_, ?_, ?_, ?_, ?_, ?_, ?_, ?_, ?_, ?_, ?_, ?_, ?_, ?_, trivial⟩
     · intro vs X wq K;exact zq rfl ⟨Below.refl _ _, Left.of rfl⟩
     · intro vs X wq K;obtain ⟨_, e0, k0⟩ := K.dep 0 rfl rfl rfl;refine zh 2 (.pointer (some ⟨ga, 0, none⟩)) rfl e0 ?_;exact zk rfl ⟨Below.refl _ _, Left.of rfl⟩
     · intro vs X wq K;obtain ⟨_, e1, k1⟩ := K.dep 1 rfl rfl rfl;refine zh 3 (.pointer (some ⟨ga, 0, none⟩)) rfl e1 ?_;exact zb Tryd.underlying125 rfl sz3 (by decide) rfl ⟨Below.refl _ _, Left.of rfl⟩
     · intro vs X wq K;have LE := K.1;obtain ⟨_, e2, k2⟩ := K.dep 2 rfl rfl rfl;refine zh 4 (.pointer (some ⟨ga, 800, none⟩)) rfl e2 ?_;exact zl Tryd.underlying3 rfl rfl (Ba.drew.extN LE NotIn.nil) (xj hl1 n rfl) ⟨Below.refl _ _, Left.of rfl⟩
     · intro vs X wq K;obtain ⟨_, e3, k3⟩ := K.dep 3 rfl rfl rfl;refine zh 5 (.int .i64 ((n : Nat) : Int)) rfl e3 ?_;exact qq rfl rfl ⟨Below.refl _ _, Left.of ((by rw [decide_eq_false (by omega)] : (.bool (decide (0 < ((n : Nat) : Int))) : Value) = _))⟩
     · intro vs X wq K;obtain ⟨_, e4, k4⟩ := K.dep 4 rfl rfl rfl;refine zh 6 (.bool false) rfl e4 ?_;exact zq rfl ⟨Below.refl _ _, Left.of rfl⟩
     · intro vs X wq K;obtain ⟨_, e5, k5⟩ := K.dep 5 rfl rfl rfl;refine zh 7 (.bool false) rfl e5 ?_;exact zc rfl ⟨Below.refl _ _, Left.of rfl⟩
     · intro vs X wq K;obtain ⟨_, e5, k5⟩ := K.dep 5 rfl rfl rfl;refine zh 7 (.bool false) rfl e5 ?_;exact zc rfl ⟨Below.refl _ _, Left.of rfl⟩
     · intro vs X wq K;obtain ⟨_, e7, k7⟩ := K.dep 7 rfl rfl rfl;refine zh 9 (undef) rfl e7 ?_;obtain ⟨_, e5, k5⟩ := K.dep 5 rfl rfl rfl;refine zh 7 (.bool false) rfl e5 ?_;exact zc rfl ⟨Below.refl _ _, Left.of rfl⟩
     · intro vs X wq K;obtain ⟨_, e8, k8⟩ := K.dep 8 rfl rfl rfl;refine zh 10 (undef) rfl e8 ?_;obtain ⟨_, e5, k5⟩ := K.dep 5 rfl rfl rfl;refine zh 7 (.bool false) rfl e5 ?_;exact zc rfl ⟨Below.refl _ _, Left.of rfl⟩
     · intro vs X wq K;obtain ⟨_, e9, k9⟩ := K.dep 9 rfl rfl rfl;refine zh 11 (undef) rfl e9 ?_;obtain ⟨_, e5, k5⟩ := K.dep 5 rfl rfl rfl;refine zh 7 (.bool false) rfl e5 ?_;exact zc rfl ⟨Below.refl _ _, Left.of rfl⟩
     · intro vs X wq K;obtain ⟨_, e10, k10⟩ := K.dep 10 rfl rfl rfl;refine zh 12 (undef) rfl e10 ?_;obtain ⟨_, e5, k5⟩ := K.dep 5 rfl rfl rfl;refine zh 7 (.bool false) rfl e5 ?_;exact zc rfl ⟨Below.refl _ _, Left.of rfl⟩
     · intro vs X wq K;obtain ⟨_, e6, k6⟩ := K.dep 6 rfl rfl rfl;refine zh 8 (undef) rfl e6 ?_;obtain ⟨_, e5, k5⟩ := K.dep 5 rfl rfl rfl;refine zh 7 (.bool false) rfl e5 ?_;exact zc rfl ⟨Below.refl _ _, Left.of rfl⟩
     · intro vs X wq K;obtain ⟨_, e12, k12⟩ := K.dep 12 rfl rfl rfl;refine zh 14 (undef) rfl e12 ?_;obtain ⟨_, e5, k5⟩ := K.dep 5 rfl rfl rfl;refine zh 7 (.bool false) rfl e5 ?_;exact zc rfl ⟨Below.refl _ _, Left.of rfl⟩
     · intro vs X wq K;obtain ⟨_, e13, k13⟩ := K.dep 13 rfl rfl rfl;refine zh 15 (undef) rfl e13 ?_;obtain ⟨_, e11, k11⟩ := K.dep 11 rfl rfl rfl;refine zh 13 (undef) rfl e11 ?_;obtain ⟨_, e5, k5⟩ := K.dep 5 rfl rfl rfl;refine zh 7 (.bool false) rfl e5 ?_;exact zc rfl ⟨Below.refl _ _, Left.of rfl⟩
     · intro vs X wq K;obtain ⟨_, e14, k14⟩ := K.dep 14 rfl rfl rfl;refine zh 16 (undef) rfl e14 ?_;obtain ⟨_, e5, k5⟩ := K.dep 5 rfl rfl rfl;refine zh 7 (.bool false) rfl e5 ?_;exact zc rfl ⟨Below.refl _ _, Left.of rfl⟩
     · intro vs X wq K;obtain ⟨_, e15, k15⟩ := K.dep 15 rfl rfl rfl;refine zh 17 (undef) rfl e15 ?_;obtain ⟨_, e5, k5⟩ := K.dep 5 rfl rfl rfl;refine zh 7 (.bool false) rfl e5 ?_;exact zc rfl ⟨Below.refl _ _, Left.of rfl⟩
     · intro vs X wq K;obtain ⟨_, e5, k5⟩ := K.dep 5 rfl rfl rfl;refine zh 7 (.bool false) rfl e5 ?_;obtain ⟨_, e16, k16⟩ := K.dep 16 rfl rfl rfl;refine zh 18 (undef) rfl e16 ?_;exact ya rfl rfl ⟨Below.refl _ _, Left.of rfl⟩
   intro vs w5 LE AO AL AF AA;have LBa := Ba;replace Ba := Ba.drew.extN LE NotIn.nil;replace E := E.drew.trans (LE.mono OY);obtain ⟨_, e17, k17⟩ := AL.2.2.2.2.2.2.2.2.2.2.2.2.2.2.2.2.2.1;refine je (τ := [(0, _), (19, .bool false)]) ⟨rfl, congrArg some e17, trivial⟩ ?_;clear AL AF AA LE AO OY e17 k17 LBa;refine ze (zy rfl (yn (zg (zg (zv ?_)))))
   replace Ba : Blk w5 ga 125 (yz { t with nd := jt t.d t.nd }) := by rw [e]; exact Ba
   exact yp () ⟨rfl, trivial⟩ ⟨M1.step E XM1, (by exact Ba), trivial⟩
  ·
   refine zf (zf ?_);have OY : ∀ q9, (Mut (xq [])) q9 → q9 < (World.drew w4).heap.size → (Mut [(some ga)]) q9 := fun k h _ => (Mut.none_) k h;refine vu (Mut [(some ga)]) (Mut.grow Mut.none_ (yj Ba.lt)) [] [] (oz [Fx.of (.pointer (some ⟨ga, 0, none⟩)),
    Fx.of (.pointer (some ⟨ga, 0, none⟩)),
    Fx.of (.pointer (some ⟨ga, 800, none⟩)),
    Fx.of (.int .i64 ((n : Nat) : Int)),
    Fx.of (.bool true),
    Fx.of (.bool true),
    Fx.of (.pointer (some ⟨ga, 0, none⟩)),
    Fx.of (.pointer (some ⟨ga, 0, none⟩)),
    Fx.of (.pointer (some ⟨ga, 0, none⟩)),
    Fx.of (.pointer (some ⟨ga, 800, none⟩)),
    Fx.of (.int .i64 ((n : Nat) : Int)),
    Fx.of (.int .i64 (((n : Nat) : Int) - 1)),
    Fx.of (.pointer (some ⟨ga, 0, none⟩)),
    Fx.of (.pointer (some ⟨ga, 0, none⟩)),
    Fx.of (.pointer (some ⟨ga, n - 1, none⟩)),
    Fx.of (.int .u8 ((dg t.d (n - 1) : Nat) : Int)),
    Fx.of (.bool (((dg t.d (n - 1) : Nat) : Int) == 48)),
    Fx.of (.bool (((dg t.d (n - 1) : Nat) : Int) == 48))]) mixed rfl trivial (fun _ h => by cases h) ?_ ?_
   · refine ⟨?_, ?_, ?_, ?_, ?_, ?_, ?_, ?_, ?_, ?_, ?_, ?_, ?_, ?_, ?_, ?_, ?_, ?_, trivial⟩
     · intro vs X wq K;exact zq rfl ⟨Below.refl _ _, Left.of rfl⟩
     · intro vs X wq K;obtain ⟨_, e0, k0⟩ := K.dep 0 rfl rfl rfl;refine zh 2 (.pointer (some ⟨ga, 0, none⟩)) rfl e0 ?_;exact zk rfl ⟨Below.refl _ _, Left.of rfl⟩
     · intro vs X wq K;obtain ⟨_, e1, k1⟩ := K.dep 1 rfl rfl rfl;refine zh 3 (.pointer (some ⟨ga, 0, none⟩)) rfl e1 ?_;exact zb Tryd.underlying125 rfl sz3 (by decide) rfl ⟨Below.refl _ _, Left.of rfl⟩
     · intro vs X wq K;have LE := K.1;obtain ⟨_, e2, k2⟩ := K.dep 2 rfl rfl rfl;refine zh 4 (.pointer (some ⟨ga, 800, none⟩)) rfl e2 ?_;exact zl Tryd.underlying3 rfl rfl (Ba.drew.extN LE NotIn.nil) (xj hl1 n rfl) ⟨Below.refl _ _, Left.of rfl⟩
     · intro vs X wq K;obtain ⟨_, e3, k3⟩ := K.dep 3 rfl rfl rfl;refine zh 5 (.int .i64 ((n : Nat) : Int)) rfl e3 ?_;exact qq rfl rfl ⟨Below.refl _ _, Left.of ((by rw [decide_eq_true (by omega)] : (.bool (decide (0 < ((n : Nat) : Int))) : Value) = _))⟩
     · intro vs X wq K;obtain ⟨_, e4, k4⟩ := K.dep 4 rfl rfl rfl;refine zh 6 (.bool true) rfl e4 ?_;exact zq rfl ⟨Below.refl _ _, Left.of rfl⟩
     · intro vs X wq K;obtain ⟨_, e5, k5⟩ := K.dep 5 rfl rfl rfl;refine zh 7 (.bool true) rfl e5 ?_;exact zix rfl (zq rfl ⟨Below.refl _ _, Left.of rfl⟩)
     · intro vs X wq K;obtain ⟨_, e5, k5⟩ := K.dep 5 rfl rfl rfl;refine zh 7 (.bool true) rfl e5 ?_;exact zix rfl (zq rfl ⟨Below.refl _ _, Left.of rfl⟩)
     · intro vs X wq K;obtain ⟨_, e7, k7⟩ := K.dep 7 rfl rfl rfl;refine zh 9 (.pointer (some ⟨ga, 0, none⟩)) rfl e7 ?_;obtain ⟨_, e5, k5⟩ := K.dep 5 rfl rfl rfl;refine zh 7 (.bool true) rfl e5 ?_;exact zix rfl (zk rfl ⟨Below.refl _ _, Left.of rfl⟩)
     · intro vs X wq K;obtain ⟨_, e8, k8⟩ := K.dep 8 rfl rfl rfl;refine zh 10 (.pointer (some ⟨ga, 0, none⟩)) rfl e8 ?_;obtain ⟨_, e5, k5⟩ := K.dep 5 rfl rfl rfl;refine zh 7 (.bool true) rfl e5 ?_;exact zix rfl (zb Tryd.underlying125 rfl sz3 (by decide) rfl ⟨Below.refl _ _, Left.of rfl⟩)
     · intro vs X wq K;have LE := K.1;obtain ⟨_, e9, k9⟩ := K.dep 9 rfl rfl rfl;refine zh 11 (.pointer (some ⟨ga, 800, none⟩)) rfl e9 ?_;obtain ⟨_, e5, k5⟩ := K.dep 5 rfl rfl rfl;refine zh 7 (.bool true) rfl e5 ?_;exact zix rfl (zl Tryd.underlying3 rfl rfl (Ba.drew.extN LE NotIn.nil) (xj hl1 n rfl) ⟨Below.refl _ _, Left.of rfl⟩)
     · intro vs X wq K;obtain ⟨_, e10, k10⟩ := K.dep 10 rfl rfl rfl;refine zh 12 (.int .i64 ((n : Nat) : Int)) rfl e10 ?_;obtain ⟨_, e5, k5⟩ := K.dep 5 rfl rfl rfl;refine zh 7 (.bool true) rfl e5 ?_;exact zix rfl (yw rfl rfl (zo (by omega)) ⟨Below.refl _ _, Left.of rfl⟩)
     · intro vs X wq K;obtain ⟨_, e6, k6⟩ := K.dep 6 rfl rfl rfl;refine zh 8 (.pointer (some ⟨ga, 0, none⟩)) rfl e6 ?_;obtain ⟨_, e5, k5⟩ := K.dep 5 rfl rfl rfl;refine zh 7 (.bool true) rfl e5 ?_;exact zix rfl (zk rfl ⟨Below.refl _ _, Left.of rfl⟩)
     · intro vs X wq K;obtain ⟨_, e12, k12⟩ := K.dep 12 rfl rfl rfl;refine zh 14 (.pointer (some ⟨ga, 0, none⟩)) rfl e12 ?_;obtain ⟨_, e5, k5⟩ := K.dep 5 rfl rfl rfl;refine zh 7 (.bool true) rfl e5 ?_;exact zix rfl (zb Tryd.underlying125 rfl xn (by decide) rfl ⟨Below.refl _ _, Left.of rfl⟩)
     · intro vs X wq K;obtain ⟨_, e13, k13⟩ := K.dep 13 rfl rfl rfl;refine zh 15 (.pointer (some ⟨ga, 0, none⟩)) rfl e13 ?_;obtain ⟨_, e11, k11⟩ := K.dep 11 rfl rfl rfl;refine zh 13 (.int .i64 (((n : Nat) : Int) - 1)) rfl e11 ?_;obtain ⟨_, e5, k5⟩ := K.dep 5 rfl rfl rfl;refine zh 7 (.bool true) rfl e5 ?_
       exact zix rfl (qo (j := n - 1) Tryd.underlying123 sz5 rfl rfl (by omega) (by omega) ⟨Below.refl _ _, Left.of rfl⟩)
     · intro vs X wq K;have LE := K.1;obtain ⟨_, e14, k14⟩ := K.dep 14 rfl rfl rfl;refine zh 16 (.pointer (some ⟨ga, n - 1, none⟩)) rfl e14 ?_;obtain ⟨_, e5, k5⟩ := K.dep 5 rfl rfl rfl;refine zh 7 (.bool true) rfl e5 ?_;exact zix rfl (zl Tryd.underlying5 rfl rfl (Ba.drew.extN LE NotIn.nil) (dAt hl1 (dg t.d (n - 1)) (n - 1) rfl (by omega)) ⟨Below.refl _ _, Left.of rfl⟩)
     · intro vs X wq K;obtain ⟨_, e15, k15⟩ := K.dep 15 rfl rfl rfl;refine zh 17 (.int .u8 ((dg t.d (n - 1) : Nat) : Int)) rfl e15 ?_;obtain ⟨_, e5, k5⟩ := K.dep 5 rfl rfl rfl;refine zh 7 (.bool true) rfl e5 ?_;exact zix rfl (ye rfl rfl ⟨Below.refl _ _, Left.of rfl⟩)
     · intro vs X wq K;obtain ⟨_, e5, k5⟩ := K.dep 5 rfl rfl rfl;refine zh 7 (.bool true) rfl e5 ?_;obtain ⟨_, e16, k16⟩ := K.dep 16 rfl rfl rfl;refine zh 18 (.bool (((dg t.d (n - 1) : Nat) : Int) == 48)) rfl e16 ?_;exact zw rfl rfl ⟨Below.refl _ _, Left.of rfl⟩
   intro vs w6 LE AO AL AF AA;have LBa := Ba;replace Ba := Ba.drew.extN LE NotIn.nil;replace E := E.drew.trans (LE.mono OY);obtain ⟨_, e17, k17⟩ := AL.2.2.2.2.2.2.2.2.2.2.2.2.2.2.2.2.2.1;refine je (τ := [(0, _), (19, .bool (((dg t.d (n - 1) : Nat) : Int) == 48))]) ⟨rfl, congrArg some e17, trivial⟩ ?_;clear AL AF AA LE AO OY e17 k17 LBa
   refine ze (zt rfl (fun hd => ?_) (fun hd => ?_))
   ·
    have hd : dg t.d (n - 1) = 48 := by have hd := eq_of_beq hd; omega
    refine zj (ze (zx (zi (mvx rfl (za rfl (zk rfl (za rfl (zb Tryd.underlying125 rfl sz3 (by decide) rfl (za rfl (zl Tryd.underlying3 rfl rfl Ba (xj hl1 (n) rfl) (za rfl (yw rfl rfl (zo (by omega)) (za rfl (zk rfl (za rfl (zb Tryd.underlying125 rfl sz3 (by decide) rfl (yd 24 (.int .i64 ((n - 1 : Nat) : Int)) rfl ((by congr 1; omega : (.int .i64 (((n : Nat) : Int) - 1) : Value) = _)) (qf (qi sz3 rfl rfl Ba rfl rfl (in_ hl1 (by decide : 800 < 804)) (ybq hl1 (n - 1)) ?_)))))))))))))))))))
    intro w7 Bx Ea;replace Ba : Blk w7 ga 125 (yz { t with nd := n - 1 }) := Bx;replace E := E.step1 Ea Mut.head;refine yf (zm ?_);exact ym (n - 1) (by omega) ⟨rfl, trivial⟩ ⟨M3.step E XM3, (by exact Ba), by omega, by rw [← he, trimN_on h0 hd]⟩
   ·
    have hd : dg t.d (n - 1) ≠ 48 := fun e => absurd hd (by rw [e]; decide);have e : jt t.d t.nd = n := by rw [← he, trimN_off h0 hd]
    refine yn (zg (zg (zv ?_)));replace Ba : Blk w6 ga 125 (yz { t with nd := jt t.d t.nd }) := by rw [e]; exact Ba
    exact yp () ⟨rfl, trivial⟩ ⟨M1.step E XM1, (by exact Ba), trivial⟩
 ·
  have LTa := (yj Ba.lt);clear Ba;rintro _ w2 ⟨M1, Ba, _⟩;replace E := E.trans M1;replace LW := LW.step E XLW;replace E := erx (Mut [(some ga)]) w2;have hl' : ({ t with nd := jt t.d t.nd } : Dec).d.length = 800 := hl
  refine srx (mvx rfl (za rfl (zk rfl (za rfl (zb Tryd.underlying125 rfl sz3 (by decide) rfl (za rfl (zl Tryd.underlying3 rfl rfl Ba (xj hl' (jt t.d t.nd) rfl) (za rfl (ye rfl rfl (rnx (zt rfl (fun h1 => ?_) (fun h1 => ?_))))))))))))
  ·
   have h1 : jt t.d t.nd = 0 := by have h1 := eq_of_beq h1; omega
   refine zi (mvx rfl (za rfl (zk rfl (za rfl (zb Tryd.underlying125 rfl sz3 (by decide) rfl (qf (qi sz3 rfl rfl Ba rfl rfl (in_ hl' (by decide : 801 < 804)) (zsq hl' 0) ?_)))))));intro w8 Bx Ea;replace Ba : Blk w8 ga 125 (yz { t with nd := jt t.d t.nd, dp := 0 }) := Bx;replace E := E.step1 Ea Mut.head;refine yf (ztz rfl ?_)
   exact ⟨rfl, by unfold zuq; rw [if_pos h1]; exact Ba, (LW.step E XLW)⟩
  ·
   have h1 : jt t.d t.nd ≠ 0 := fun e => absurd h1 (by rw [e]; decide);refine zj (ztz rfl ?_);exact ⟨rfl, by unfold zuq; rw [if_neg h1]; exact Ba, (LW.step E XLW)⟩
theorem prefix_any (ga : Nat) (t : Dec) (n : Nat) (c : ByteArray) (l : List Nat) (hl : t.d.length = 800) (hn : n ≤ 800) (hc : c.size = l.length) (hcl : ∀ i, i < l.length → l[i]? = some (bAt c i)) (hB : Blk w ga 125 (yz t)) :
 Calls Tryd.prog 92 #[.slice (some ⟨ga, 0, none⟩) n 800, .string c] w fun e w' => e = .returned (.bool (vx (t.d.take n) l)) ∧ Below w.heap.size w w' := by
 refine yl Tryd.func92 rfl Tryd.ntmps92 rfl ?_;have HF : Per (No) w (fun _ => True) := Per.true_;have LW := erx (No) w;have XLW := grx (No) w;have E := erx (No) w;replace HF := HF.on E;replace LW := LW.step E XLW;replace E := erx (No) w;replace HF := HF.and (Per.blk hB (fun h => h.elim));refine srx (anx rfl (zf (srx (anx rfl (zx ?_)))));replace HF := HF.on E
 replace LW := LW.step E XLW;replace E := erx (No) w
 refine qk (ι := Nat) (fun i => [(0, .slice (some ⟨ga, 0, none⟩) n 800), (1, .string c), (4, .bool false), (5, .int .i64 ((i : Nat) : Int))]) (fun i w' => Ext (No) w w' ∧ (i ≤ l.length ∧ i ≤ n ∧ vx ((t.d.take n).drop i) (l.drop i) = vx (t.d.take n) l)) (fun i => l.length - i) 0 ⟨rfl, rfl, rfl, rfl, trivial⟩ ⟨Ext.refl _ _, Nat.zero_le _, Nat.zero_le _, rfl⟩ ?_
 rintro i w2 ⟨M1, ⟨hi, hin, he⟩⟩;have XM1 := grx (No) w;replace E := E.trans M1;replace HF := HF.on E;replace LW := LW.step E XLW;replace E := erx (No) w2;refine zf (srx (mvx rfl (mvx rfl (za rfl (qc Tryd.underlying9 rfl (za rfl (yt rfl rfl (rnx (zt rfl (fun h1 => ?_) (fun h1 => ?_))))))))))
 ·
  have h1 : i < l.length := by have h1 := of_decide_eq_true h1; omega
  refine zj (ze (zf (zx (zf (srx (mvx rfl (mvx rfl (za rfl (vi Tryd.underlying89 rfl (za rfl (vr rfl rfl (rnx (zt rfl (fun h2 => ?_) (fun h2 => ?_))))))))))))))
  ·
   have h2 : n ≤ i := by have h2 := of_decide_eq_true h2; omega
   have e : vx (t.d.take n) l = true := by rw [← he, preLess_short (by rw [List.length_take]; omega) h1]
   refine srx (anx rfl (zr (zd (zn (zd (zd (zn (zd (zp (rs := [.tmp 4]) (vs := [_]) rfl ⟨rfl, trivial⟩ ?_)))))))));exact ⟨by rw [e]; rfl, (LW.step E XLW).toBelow⟩
  ·
   have h2 : i < n := by have h2 := of_decide_eq_false h2; omega
   have hs := preLess_at (take_at (d := t.d) h2 (by omega)) (hcl i h1);rw [he] at hs;refine zj (ze (zf ?_));have OY : ∀ q9, (Mut (xq [])) q9 → q9 < (World.drew w2).heap.size → (No) q9 := fun k h _ => (Mut.none_) k h;refine vu (No) Mut.none_ [] [] (oz [Fx.of (.slice (some ⟨ga, 0, none⟩) n 800),
    Fx.of (.int .i64 ((i : Nat) : Int)),
    Fx.of (.pointer (some ⟨ga, i, none⟩)),
    Fx.of (.int .u8 ((dg t.d i : Nat) : Int)),
    Fx.of (.string c),
    Fx.of (.int .i64 ((i : Nat) : Int)),
    Fx.of (.int .u8 ((bAt c i : Nat) : Int)),
    Fx.of (.bool (((dg t.d i : Nat) : Int) != ((bAt c i : Nat) : Int)))]) mixed rfl trivial (fun _ h => by cases h) ?_ ?_
   · refine ⟨?_, ?_, ?_, ?_, ?_, ?_, ?_, ?_, trivial⟩
     · intro vs X wq K;exact zq rfl ⟨Below.refl _ _, Left.of rfl⟩
     · intro vs X wq K;exact zq rfl ⟨Below.refl _ _, Left.of rfl⟩
     · intro vs X wq K;obtain ⟨_, e0, k0⟩ := K.dep 0 rfl rfl rfl;refine zh 16 (.slice (some ⟨ga, 0, none⟩) n 800) rfl e0 ?_;obtain ⟨_, e1, k1⟩ := K.dep 1 rfl rfl rfl;refine zh 17 (.int .i64 ((i : Nat) : Int)) rfl e1 ?_;exact zrk (j := i) Tryd.underlying89 sz5 rfl rfl rfl h2 ⟨Below.refl _ _, Left.of rfl⟩
     · intro vs X wq K;have LE := K.1;obtain ⟨_, e2, k2⟩ := K.dep 2 rfl rfl rfl;refine zh 18 (.pointer (some ⟨ga, i, none⟩)) rfl e2 ?_;exact zl Tryd.underlying5 rfl rfl (HF.on (E.drew.trans (LE.mono OY))).here.2 (dec_at hl (by omega)) ⟨Below.refl _ _, Left.of rfl⟩
     · intro vs X wq K;exact zq rfl ⟨Below.refl _ _, Left.of rfl⟩
     · intro vs X wq K;exact zq rfl ⟨Below.refl _ _, Left.of rfl⟩
     · intro vs X wq K;obtain ⟨_, e4, k4⟩ := K.dep 4 rfl rfl rfl;refine zh 20 (.string c) rfl e4 ?_;obtain ⟨_, e5, k5⟩ := K.dep 5 rfl rfl rfl;refine zh 21 (.int .i64 ((i : Nat) : Int)) rfl e5 ?_;exact yh (j := i) (b := bAt c i) Tryd.underlying9 rfl rfl rfl (yu (by omega)) ⟨Below.refl _ _, Left.of rfl⟩
     · intro vs X wq K;obtain ⟨_, e3, k3⟩ := K.dep 3 rfl rfl rfl;refine zh 19 (.int .u8 ((dg t.d i : Nat) : Int)) rfl e3 ?_;obtain ⟨_, e6, k6⟩ := K.dep 6 rfl rfl rfl;refine zh 22 (.int .u8 ((bAt c i : Nat) : Int)) rfl e6 ?_;exact qn rfl rfl ⟨Below.refl _ _, Left.of rfl⟩
   intro vs w3 LE AO AL AF AA;replace E := E.drew.trans (LE.mono OY);obtain ⟨_, e7, k7⟩ := AL.2.2.2.2.2.2.2.1;refine je (τ := [(0, _), (1, _), (4, _), (5, _), (23, .bool (((dg t.d i : Nat) : Int) != ((bAt c i : Nat) : Int)))]) ⟨rfl, rfl, rfl, rfl, congrArg some e7, trivial⟩ ?_;clear AL AF AA LE AO OY e7 k7;refine ze (zt rfl (fun h3 => ?_) (fun h3 => ?_))
   ·
    have h3 : dg t.d i ≠ bAt c i := fun e => absurd h3 (by rw [e]; simp);rw [if_neg h3] at hs;refine zf ?_;have OY : ∀ q9, (Mut (xq [])) q9 → q9 < (World.drew w3).heap.size → (No) q9 := fun k h _ => (Mut.none_) k h;refine vu (No) Mut.none_ [] [] (oz [Fx.of (.slice (some ⟨ga, 0, none⟩) n 800),
     Fx.of (.int .i64 ((i : Nat) : Int)),
     Fx.of (.pointer (some ⟨ga, i, none⟩)),
     Fx.of (.int .u8 ((dg t.d i : Nat) : Int)),
     Fx.of (.string c),
     Fx.of (.int .i64 ((i : Nat) : Int)),
     Fx.of (.int .u8 ((bAt c i : Nat) : Int)),
     Fx.of (.bool (decide (dg t.d i < bAt c i))),
     Fx.of (.bool (decide (dg t.d i < bAt c i)))]) mixed rfl trivial (fun _ h => by cases h) ?_ ?_
    · refine ⟨?_, ?_, ?_, ?_, ?_, ?_, ?_, ?_, ?_, trivial⟩
      · intro vs X wq K;exact zq rfl ⟨Below.refl _ _, Left.of rfl⟩
      · intro vs X wq K;exact zq rfl ⟨Below.refl _ _, Left.of rfl⟩
      · intro vs X wq K;obtain ⟨_, e0, k0⟩ := K.dep 0 rfl rfl rfl;refine zh 24 (.slice (some ⟨ga, 0, none⟩) n 800) rfl e0 ?_;obtain ⟨_, e1, k1⟩ := K.dep 1 rfl rfl rfl;refine zh 25 (.int .i64 ((i : Nat) : Int)) rfl e1 ?_;exact zrk (j := i) Tryd.underlying89 sz5 rfl rfl rfl h2 ⟨Below.refl _ _, Left.of rfl⟩
      · intro vs X wq K;have LE := K.1;obtain ⟨_, e2, k2⟩ := K.dep 2 rfl rfl rfl;refine zh 26 (.pointer (some ⟨ga, i, none⟩)) rfl e2 ?_;exact zl Tryd.underlying5 rfl rfl (HF.on (E.drew.trans (LE.mono OY))).here.2 (dec_at hl (by omega)) ⟨Below.refl _ _, Left.of rfl⟩
      · intro vs X wq K;exact zq rfl ⟨Below.refl _ _, Left.of rfl⟩
      · intro vs X wq K;exact zq rfl ⟨Below.refl _ _, Left.of rfl⟩
      · intro vs X wq K;obtain ⟨_, e4, k4⟩ := K.dep 4 rfl rfl rfl;refine zh 28 (.string c) rfl e4 ?_;obtain ⟨_, e5, k5⟩ := K.dep 5 rfl rfl rfl;refine zh 29 (.int .i64 ((i : Nat) : Int)) rfl e5 ?_;exact yh (j := i) (b := bAt c i) Tryd.underlying9 rfl rfl rfl (yu (by omega)) ⟨Below.refl _ _, Left.of rfl⟩
      · intro vs X wq K;obtain ⟨_, e3, k3⟩ := K.dep 3 rfl rfl rfl;refine zh 27 (.int .u8 ((dg t.d i : Nat) : Int)) rfl e3 ?_;obtain ⟨_, e6, k6⟩ := K.dep 6 rfl rfl rfl;refine zh 30 (.int .u8 ((bAt c i : Nat) : Int)) rfl e6 ?_;exact yt rfl rfl ⟨Below.refl _ _, Left.of (kb (by omega))⟩
      · intro vs X wq K;obtain ⟨_, e7, k7⟩ := K.dep 7 rfl rfl rfl;refine zh 31 (.bool (decide (dg t.d i < bAt c i))) rfl e7 ?_;exact vq rfl ⟨Below.refl _ _, Left.of rfl⟩
    intro vs w4 LE AO AL AF AA;replace E := E.drew.trans (LE.mono OY);obtain ⟨_, e8, k8⟩ := AL.2.2.2.2.2.2.2.2.1;refine je (τ := [(0, _), (1, _), (4, .bool (decide (dg t.d i < bAt c i))), (5, _)]) ⟨rfl, rfl, congrArg some e8, rfl, trivial⟩ ?_;clear AL AF AA LE AO OY e8 k8
    refine ze (zr (zn (zd (zd (zn (zd (zp (rs := [.tmp 4]) (vs := [_]) rfl ⟨rfl, trivial⟩ ?_)))))));exact ⟨by rw [hs]; rfl, (LW.step E XLW).toBelow⟩
   ·
    have h3 : dg t.d i = bAt c i := by
     rcases Nat.decEq (dg t.d i) (bAt c i) with h | h
     · rw [bne_iff_ne.2 (by omega)] at h3; cases h3
     · exact h
    rw [if_pos h3] at hs;refine zj (zm (ze (zi (mvx rfl (za rfl (yg rfl rfl (zo (by omega)) (avx rfl (yf (yr 5 (.int .i64 ((i + 1 : Nat) : Int)) rfl (rfl) ?_)))))))));exact ym (i + 1) (by omega) ⟨rfl, rfl, rfl, rfl, trivial⟩ ⟨M1.step E XM1, by omega, by omega, hs.symm⟩
 ·
  have h1 : l.length ≤ i := by have h1 := of_decide_eq_false h1; omega
  have e : vx (t.d.take n) l = false := by rw [← he, preLess_end _ h1]
  refine yn (zg (zg (zv (ze (srx (anx rfl (zr (zp (rs := [.tmp 4]) (vs := [_]) rfl ⟨rfl, trivial⟩ ?_))))))));exact ⟨by rw [e]; rfl, (LW.step E XLW).toBelow⟩
end
end Go.Proofs.YtmjbnhjgebjhlaaDoor
namespace Go.Proofs.YtmjbnhjgebjhlaaDoor
open Go.RowKit
set_option maxRecDepth 100000
attribute [local irreducible] OW RS
theorem mask_n (k : Nat) (hk : k ≤ 60) : IntKind.u64.wrap (((1 : Nat) : Int) * 2 ^ (min ((k : Nat) : Int).toNat IntKind.u64.bits)) = ((2 ^ k : Nat) : Int) := by
 rw [znx 1 k (by omega), Nat.one_mul];have h1 : 2 ^ k ≤ 2 ^ 60 := Nat.pow_le_pow_right (by decide) hk;have h2 : (2 : Nat) ^ 60 = 1152921504606846976 := by decide
 rw [Nat.mod_eq_of_lt (by omega)]
theorem mask_and (n k : Nat) (hn : n < 18446744073709551616) (hk : k ≤ 60) : IntKind.u64.wrap (BitVec.ofInt IntKind.u64.bits (n : Int) &&& BitVec.ofInt IntKind.u64.bits ((2 ^ k - 1 : Nat) : Int)).toNat = ((n % 2 ^ k : Nat) : Int) := by
 have h1 : 2 ^ k ≤ 2 ^ 60 := Nat.pow_le_pow_right (by decide) hk;have h2 : (2 : Nat) ^ 60 = 1152921504606846976 := by decide
 rw [xa hn (by omega), Nat.and_two_pow_sub_one_eq_mod]
theorem shr_q (n k Q : Nat) (hk : k ≤ 60) (h : Q = n / 2 ^ k) : ((n : Nat) : Int).fdiv (2 ^ (min ((k : Nat) : Int).toNat IntKind.u64.bits)) = ((Q : Nat) : Int) := by
 rw [h]; exact kr n k (by omega)
theorem mask_q (n k M : Nat) (hn : n < 18446744073709551616) (hk : k ≤ 60) (h : M = n % 2 ^ k) : IntKind.u64.wrap (BitVec.ofInt IntKind.u64.bits (n : Int) &&& BitVec.ofInt IntKind.u64.bits ((2 ^ k - 1 : Nat) : Int)).toNat = ((M : Nat) : Int) := by
 rw [h]; exact mask_and n k hn hk
theorem zero_b (m : Nat) : (((m : Nat) : Int) == 0) = decide (m = 0) := by
 by_cases h : m = 0
 · subst h; rfl
 · rw [decide_eq_false h]; exact beq_eq_false_iff_ne.2 (by omega)
theorem rsA_off {t : Dec} {k : Nat} {s : RsS} (h1 : s.n / 2 ^ k = 0) (h2 : s.r < t.nd) : zfq t k s = false := decide_eq_false (fun h => h.elim (fun h => h h1) (fun h => absurd h (Nat.not_le.2 h2)))
theorem rsBI_r {t : Dec} {k : Nat} {s : RsS} (h : RsBI t k s) : s.r ≤ t.nd + k + 1 := by
 rcases h.far with h1 | h1
 · omega
 · have h2 : 10 ^ (s.r - t.nd) < 10 ^ (k + 1) := by
    have h3 : 2 ^ k ≤ 10 ^ k := Nat.pow_le_pow_left (by decide) k;have := h.hn;rw [Nat.pow_succ]; omega
   have := (Nat.pow_lt_pow_iff_right (a := 10) (by decide)).1 h2;omega
section
variable (w : World)
theorem right_any (ga k : Nat) (t : Dec) (hk : 1 ≤ k ∧ k ≤ 60) (ht : DecI t) (h0 : 0 < t.nd) (hdp : -20000000 ≤ t.dp ∧ t.dp ≤ 20000000) (hB : Blk w ga 125 (yz t)) :
 Calls Tryd.prog 87 #[.pointer (some ⟨ga, 0, none⟩), .int .u64 ((k : Nat) : Int)] w fun e w' => e = .returned (.tuple #[]) ∧ Blk w' ga 125 (yz (jc t k)) ∧ Ext (Mut [some ga]) w w' := by
 have hl := ht.len;have hnd := ht.hn;have hp2 : 0 < 2 ^ k := Nat.two_pow_pos k;refine yl Tryd.func87 rfl Tryd.ntmps87 rfl ?_;have Ba := hB;have LW := erx (Mut [(some ga)]) w;have XLW := grx (Mut [(some ga)]) w;have E := erx (Mut [(some ga)]) w;refine srx (anx rfl (srx (anx rfl (srx (anx rfl (zf ?_))))));replace LW := LW.step E XLW;replace E := erx (Mut [(some ga)]) w
 refine qd (ι := RsS) (fun s => [(0, .pointer (some ⟨ga, 0, none⟩)), (1, .int .u64 ((k : Nat) : Int)), (4, .int .i64 ((s.r : Nat) : Int)), (5, .int .i64 0), (6, .int .u64 ((s.n : Nat) : Int))]) (fun s w' => Ext (Mut [(some ga)]) w w' ∧ Blk w' ga 125 (yz t) ∧ (s = rsB t k)) ?_ ?_
 ·
  have M1 := erx (Mut [(some ga)]) w;have XM1 := grx (Mut [(some ga)]) w;refine zx ?_;replace M1 := M1.step E XM1;replace E := erx (Mut [(some ga)]) w
  refine qk (ι := RsS) (fun s => [(0, .pointer (some ⟨ga, 0, none⟩)), (1, .int .u64 ((k : Nat) : Int)), (4, .int .i64 ((s.r : Nat) : Int)), (5, .int .i64 0), (6, .int .u64 ((s.n : Nat) : Int))]) (fun s w' => Ext (Mut [(some ga)]) w w' ∧ Blk w' ga 125 (yz t) ∧ (RsAI t k s ∧ qv (zfq t k) (yjz t) s = rsA t k)) (fun s => t.nd - s.r) (⟨0, 0⟩) ⟨rfl, rfl, rfl, rfl, rfl, trivial⟩ ⟨Ext.refl _ _, (by exact Ba), rsA_start t k, rfl⟩ ?_
  have LTa := (yj Ba.lt);clear Ba;rintro s w4 ⟨M3, Ba, ⟨hI, hu⟩⟩;have XM3 : Gro (Mut [(some ga)]) (Mut [(some ga)]) w := (Mut.grow Mut.none_ (fun k e => Or.inl (Mut.head k e)));replace E := E.trans M3;replace M1 := M1.step E XM1;replace E := erx (Mut [(some ga)]) w4;have hn64 := two64 hI.hn hk.2;obtain ⟨Q, hQ⟩ : ∃ Q, Q = s.n / 2 ^ k := ⟨_, rfl⟩;have hr := hI.hr
  refine zf (srx (mvx rfl (mvx rfl (za rfl (kh rfl rfl (by omega) (shr_q s.n k Q (by omega) hQ) (za rfl (ye rfl rfl (rnx (zu 15 (.bool (decide (Q = 0))) rfl ((by rw [zero_b] : (.bool (((Q : Nat) : Int) == 0) : Value) = _)) (zt rfl (fun h1 => ?_) (fun h1 => ?_)))))))))))
  ·
   have h1 : Q = 0 := of_decide_eq_true h1;rw [hQ] at h1;refine zj (ze (zf (zx (zf (srx (mvx rfl (mvx rfl (za rfl (zk rfl (za rfl (zb Tryd.underlying125 rfl sz3 (by decide) rfl (za rfl (zl Tryd.underlying3 rfl rfl Ba (xj hl (t.nd) rfl) (za rfl (vr rfl rfl (rnx (zt rfl (fun h2 => ?_) (fun h2 => ?_))))))))))))))))))
   ·
    have h2 : t.nd ≤ s.r := by have h2 := of_decide_eq_true h2; omega
    have hn0 := hI.pos (by omega);have hdone : zfq t k s = true := decide_eq_true (.inr h2);rw [qe hdone] at hu;have hJ := rsBJ_start (k := k) ht h0;rw [← hu] at hJ;refine zf (srx (mvx rfl (za rfl (ye rfl rfl (rnx (zu 25 (.bool false) rfl (beq_0 (by omega)) (zy rfl (zj (ze (zf (zx ?_)))))))))));replace M1 := M1.step E XM1
    replace E := erx (Mut [(some ga)]) w4
    refine qk (ι := RsS) (fun s => [(0, .pointer (some ⟨ga, 0, none⟩)), (1, .int .u64 ((k : Nat) : Int)), (4, .int .i64 ((s.r : Nat) : Int)), (5, .int .i64 0), (6, .int .u64 ((s.n : Nat) : Int))]) (fun s w' => Ext (Mut [(some ga)]) w4 w' ∧ Blk w' ga 125 (yz t) ∧ (RsBJ t k s ∧ qv (zak k) zvk s = rsB t k)) (fun s => 2 ^ k - s.n) s ⟨rfl, rfl, rfl, rfl, rfl, trivial⟩ ⟨Ext.refl _ _, (by exact Ba), hJ, by rw [hu]; rfl⟩ ?_
    have LTa := (yj Ba.lt);clear Ba;rintro s w6 ⟨M5, Ba, ⟨hJ, hu⟩⟩;have XM5 : Gro (Mut [(some ga)]) (Mut [(some ga)]) w4 := (Mut.grow Mut.none_ (fun k e => Or.inl (Mut.head k e)));replace E := E.trans M5;replace M1 := M1.step E XM1;replace E := erx (Mut [(some ga)]) w6;have hn64 := two64 hJ.1.hn hk.2;have hnp := hJ.1.pos;have hrr := hJ.1.far
    obtain ⟨Q, hQ⟩ : ∃ Q, Q = s.n / 2 ^ k := ⟨_, rfl⟩;refine zf (srx (mvx rfl (mvx rfl (za rfl (kh rfl rfl (by omega) (shr_q s.n k Q (by omega) hQ) (za rfl (ye rfl rfl (rnx (zu 32 (.bool (decide (Q = 0))) rfl ((by rw [zero_b] : (.bool (((Q : Nat) : Int) == 0) : Value) = _)) (zt rfl (fun h3 => ?_) (fun h3 => ?_)))))))))))
    ·
     have h3 : Q = 0 := of_decide_eq_true h3;rw [hQ] at h3;have hdone : zak k s = false := decide_eq_false (fun h => h h3);obtain ⟨hk1, hk2⟩ := rsBJ_keeps hJ hdone;have hk3 := two60 hk2 hk.2;have hr3 := rsBI_r hk1.1;have hs : zvk s = ⟨s.r + 1, s.n * 10⟩ := rfl;rw [vb hdone] at hu;rw [hs] at hk1 hu hr3
     have hr3 : s.r + 1 ≤ 900 := by have hr3 : s.r + 1 ≤ t.nd + k + 1 := hr3; omega
     refine zj (ze (zx (srx (mvx rfl (za rfl (gy rfl rfl (wrap_u64 (by omega)) (anx rfl (zi (mvx rfl (za rfl (yg rfl rfl (zo (by omega)) (avx rfl (yf (zm (yr 6 (.int .u64 ((s.n * 10 : Nat) : Int)) rfl (rfl) (yr 4 (.int .i64 ((s.r + 1 : Nat) : Int)) rfl (rfl) ?_))))))))))))))))
     exact ym (⟨s.r + 1, s.n * 10⟩) (by show 2 ^ k - s.n * 10 < 2 ^ k - s.n; omega) ⟨rfl, rfl, rfl, rfl, rfl, trivial⟩ ⟨M5.step E XM5, (by exact Ba), hk1, hu⟩
    ·
     have h3 : ¬ Q = 0 := of_decide_eq_false h3;rw [hQ] at h3;have hdone : zak k s = true := decide_eq_true h3;rw [qe hdone] at hu;refine yn (zg (zg (zv (ze (yn (zg (yv rfl (zg (zg (zv ?_))))))))));exact yp s ⟨rfl, rfl, rfl, rfl, rfl, trivial⟩ ⟨M1.step E XM1, (by exact Ba), hu⟩
   ·
    have h2 : s.r < t.nd := by have h2 := of_decide_eq_false h2; omega
    have hdone := rsA_off h1 h2;obtain ⟨hk1, hk2, _⟩ := rsA_keeps ht hI hdone;have hk3 := two60 hk2 hk.2;have hg := ht.dig s.r h2;have hs : yjz t s = ⟨s.r + 1, s.n * 10 + (dg t.d s.r - 48)⟩ := rfl;rw [vb hdone] at hu;rw [hs] at hk1 hu
    refine zj (ze (srx (mvx rfl (mvx rfl (za rfl (zk rfl (za rfl (zb Tryd.underlying125 rfl xn (by decide) rfl (za rfl (qo (j := s.r) Tryd.underlying123 sz5 rfl rfl (by omega) (by omega) (za rfl (zl Tryd.underlying5 rfl rfl Ba (dAt hl (dg t.d (s.r)) (s.r) rfl (by omega)) (za rfl (ja Tryd.underlying88 Tryd.underlying5 rfl (wrap_u64 (by omega)) (anx rfl (zi (mvx rfl (za rfl (gy rfl rfl (wrap_u64 (by omega)) (mvx rfl (za rfl (yg rfl rfl (wrap_u64 (by omega)) (za rfl (yw rfl rfl (wrap_u64 (by omega)) (avx rfl (yf (zm (ze (zi (mvx rfl (za rfl (yg rfl rfl (zo (by omega)) (avx rfl (yf (yr 6 (.int .u64 ((s.n * 10 + (dg t.d s.r - 48) : Nat) : Int)) rfl ((by congr 1; omega : (.int .u64 (((((s.n : Nat) : Int) * 10) + ((dg t.d (s.r) : Nat) : Int)) - 48) : Value) = _)) (yr 4 (.int .i64 ((s.r + 1 : Nat) : Int)) rfl (rfl) ?_))))))))))))))))))))))))))))))))))))
    exact ym (⟨s.r + 1, s.n * 10 + (dg t.d s.r - 48)⟩) (by show t.nd - (s.r + 1) < t.nd - s.r; omega) ⟨rfl, rfl, rfl, rfl, rfl, trivial⟩ ⟨M3.step E XM3, (by exact Ba), hk1, hu⟩
  ·
   have h1 : ¬ Q = 0 := of_decide_eq_false h1;rw [hQ] at h1;have hdone : zfq t k s = true := decide_eq_true (.inl h1);rw [qe hdone] at hu;have hdB : zak k (rsA t k) = true := by rw [← hu]; exact decide_eq_true h1
   have e : s = rsB t k := by unfold rsB; rw [qe hdB]; exact hu
   refine yn (zg (zg (zv ?_)));exact yp s ⟨rfl, rfl, rfl, rfl, rfl, trivial⟩ ⟨M1.step E XM1, (by exact Ba), e⟩
 ·
  have LTa := (yj Ba.lt);clear Ba;rintro s w2 ⟨M1, Ba, hs⟩;replace E := E.trans M1;replace LW := LW.step E XLW;replace E := erx (Mut [(some ga)]) w2;obtain ⟨hJ, hdB⟩ := zex k ht h0;have hBr := rsB_r k ht h0;have hBn := two64 hJ.1.hn hk.2;have hBp := hJ.1.hr;rw [← hs] at hBr hBn hBp
  refine srx (mvx rfl (za rfl (zk rfl (za rfl (zb Tryd.underlying125 rfl sz3 (by decide) rfl (za rfl (zl Tryd.underlying3 rfl rfl Ba (zlq hl t.dp rfl) (mvx rfl (za rfl (yw rfl rfl (zo (by omega)) (za rfl (yw rfl rfl (zo (by omega)) (za rfl (zk rfl (za rfl (zb Tryd.underlying125 rfl sz3 (by decide) rfl (qf (qi sz3 rfl rfl Ba rfl rfl (in_ hl (by decide : 801 < 804)) (zsq hl (t.dp - (((s.r : Nat) : Int) - 1))) ?_))))))))))))))))))
  intro w7 Bx Ea;replace Ba : Blk w7 ga 125 (yz { t with dp := t.dp - (((s.r : Nat) : Int) - 1) }) := Bx;replace E := E.step1 Ea Mut.head;refine rnx (srx (mvx rfl (za rfl (jl rfl rfl (by omega) (mask_n k (by omega)) ?_))));have hp60 := two60 (n := 2 ^ k - 1) (k := k) (by omega) (by omega)
  refine za rfl (yw rfl rfl (wrap_u64 (by omega)) (anx rfl (zf (zu 8 (.int .u64 ((2 ^ k - 1 : Nat) : Int)) rfl ((by congr 1; omega : (.int .u64 (((2 ^ k : Nat) : Int) - 1) : Value) = _)) ?_))));replace LW := LW.step E XLW;replace E := erx (Mut [(some ga)]) w7
  refine qd (ι := RsC) (fun x => [(0, .pointer (some ⟨ga, 0, none⟩)), (1, .int .u64 ((k : Nat) : Int)), (5, .int .i64 ((x.w : Nat) : Int)), (6, .int .u64 ((x.n : Nat) : Int)), (8, .int .u64 ((2 ^ k - 1 : Nat) : Int))]) (fun x w' => Ext (Mut [(some ga)]) w7 w' ∧ Blk w' ga 125 (yz { t with d := x.d, dp := t.dp - (((s.r : Nat) : Int) - 1) }) ∧ (x = rsC t k)) ?_ ?_
  ·
   have M8 := erx (Mut [(some ga)]) w7;have XM8 := grx (Mut [(some ga)]) w7;refine zx ?_;replace M8 := M8.step E XM8;replace E := erx (Mut [(some ga)]) w7
   refine qk (ι := RsC) (fun x => [(0, .pointer (some ⟨ga, 0, none⟩)), (1, .int .u64 ((k : Nat) : Int)), (4, .int .i64 ((x.r : Nat) : Int)), (5, .int .i64 ((x.w : Nat) : Int)), (6, .int .u64 ((x.n : Nat) : Int)), (8, .int .u64 ((2 ^ k - 1 : Nat) : Int))]) (fun x w' => Ext (Mut [(some ga)]) w7 w' ∧ Blk w' ga 125 (yz { t with d := x.d, dp := t.dp - (((s.r : Nat) : Int) - 1) }) ∧ (RsCI t k s.r x ∧ qv (znz t) (yjx k) x = rsC t k)) (fun x => t.nd - x.r) (⟨t.d, s.r, 0, s.n⟩) ⟨rfl, rfl, rfl, rfl, rfl, rfl, trivial⟩ ⟨Ext.refl _ _, (by exact Ba), by rw [hs]; exact rsC_start ht h0, by rw [hs]; rfl⟩ ?_
   have LTa := (yj Ba.lt);clear Ba;rintro x w11 ⟨M10, Ba, ⟨hI, hu⟩⟩;have XM10 : Gro (Mut [(some ga)]) (Mut [(some ga)]) w7 := (Mut.grow Mut.none_ (fun k e => Or.inl (Mut.head k e)));replace E := E.trans M10;replace M8 := M8.step E XM8;replace E := erx (Mut [(some ga)]) w11;have hlx : ({ t with d := x.d, dp := t.dp - (((s.r : Nat) : Int) - 1) } : Dec).d.length = 800 := hI.len
   have hxw := hI.hw;have hxr := hI.hr;have hn64 := two64 hI.hn hk.2;refine zf (srx (mvx rfl (mvx rfl (za rfl (zk rfl (za rfl (zb Tryd.underlying125 rfl sz3 (by decide) rfl (za rfl (zl Tryd.underlying3 rfl rfl Ba (xj hlx (t.nd) rfl) (za rfl (yt rfl rfl (rnx (zt rfl (fun h1 => ?_) (fun h1 => ?_))))))))))))))
   ·
    have h1 : x.r < t.nd := by have h1 := of_decide_eq_true h1; omega
    have hdone : znz t x = false := decide_eq_false (by omega);have hkeep := rsC_keeps ht hk.1 hBp hI hdone;have hg := ht.dig x.r (by omega);rw [← hI.old x.r (by omega)] at hg;obtain ⟨Q, hQ⟩ : ∃ Q, Q = x.n / 2 ^ k := ⟨_, rfl⟩;obtain ⟨M, hM⟩ : ∃ M, M = x.n % 2 ^ k := ⟨_, rfl⟩;have hq9 := ymx hI.hn;rw [← hQ] at hq9;have hm60 := two60 (n := M) (by rw [hM]; exact Nat.mod_lt _ hp2) hk.2
    have hst : yjx k x = ⟨x.d.set x.w (Q + 48), x.r + 1, x.w + 1, M * 10 + (dg x.d x.r - 48)⟩ := by rw [hQ, hM]; rfl
    rw [vb hdone] at hu;rw [hst] at hkeep hu
    refine zj (ze (zf (zx (srx (mvx rfl (mvx rfl (za rfl (zk rfl (za rfl (zb Tryd.underlying125 rfl xn (by decide) rfl (za rfl (qo (j := x.r) Tryd.underlying123 sz5 rfl rfl (by omega) (by omega) (za rfl (zl Tryd.underlying5 rfl rfl Ba (dAt hlx (dg x.d (x.r)) (x.r) rfl (by omega)) (za rfl (ja Tryd.underlying88 Tryd.underlying5 rfl (wrap_u64 (by omega)) (anx rfl (srx (mvx rfl (mvx rfl (za rfl (kh rfl rfl (by omega) (shr_q x.n k Q (by omega) hQ) (anx rfl (srx (mvx rfl (mvx rfl (za rfl (vc rfl rfl (mask_q x.n k M (by omega) hk.2 hM) (anx rfl (srx (mvx rfl (mvx rfl (mvx rfl (za rfl (yg rfl rfl (wrap_u64 (by omega)) (za rfl (ja Tryd.underlying5 Tryd.underlying88 rfl (xx (by omega)) (za rfl (zk rfl ?_)))))))))))))))))))))))))))))))))))))))
    refine za rfl (zb Tryd.underlying125 rfl xn (by decide) rfl (za rfl (qo (j := x.w) Tryd.underlying123 sz5 rfl rfl rfl (by omega) (yd 86 (.int .u8 ((Q + 48 : Nat) : Int)) rfl (rfl) (qf (qi sz5 rfl rfl Ba rfl rfl (in_ hlx (by omega)) (set_d hlx (by omega)) ?_))))));intro w12 Bx Ea
    replace Ba : Blk w12 ga 125 (yz { t with d := x.d.set x.w (Q + 48), dp := t.dp - (((s.r : Nat) : Int) - 1) }) := Bx;replace E := E.step1 Ea Mut.head
    refine rnx (srx (mvx rfl (za rfl (yg rfl rfl (zo (by omega)) (anx rfl (zi (mvx rfl (za rfl (gy rfl rfl (wrap_u64 (by omega)) (mvx rfl (za rfl (yg rfl rfl (wrap_u64 (by omega)) (za rfl (yw rfl rfl (wrap_u64 (by omega)) (avx rfl (yf (zm (ze (zi (mvx rfl (za rfl (yg rfl rfl (zo (by omega)) (avx rfl (yf (yr 6 (.int .u64 ((M * 10 + (dg x.d x.r - 48) : Nat) : Int)) rfl ((by congr 1; omega : (.int .u64 (((((M : Nat) : Int) * 10) + ((dg x.d (x.r) : Nat) : Int)) - 48) : Value) = _)) (yr 4 (.int .i64 ((x.r + 1 : Nat) : Int)) rfl (rfl) (yr 5 (.int .i64 ((x.w + 1 : Nat) : Int)) rfl (rfl) ?_)))))))))))))))))))))))))))
    exact ym (⟨x.d.set x.w (Q + 48), x.r + 1, x.w + 1, M * 10 + (dg x.d x.r - 48)⟩) (by show t.nd - (x.r + 1) < t.nd - x.r; omega) ⟨rfl, rfl, rfl, rfl, rfl, rfl, trivial⟩ ⟨M10.step E XM10, (by exact Ba), hkeep, hu⟩
   ·
    have h1 : t.nd ≤ x.r := by have h1 := of_decide_eq_false h1; omega
    have hdone : znz t x = true := decide_eq_true h1;rw [qe hdone] at hu;refine yn (zg (zg (zv ?_)));exact yp x ⟨rfl, rfl, rfl, rfl, rfl, trivial⟩ ⟨M8.step E XM8, (by exact Ba), hu⟩
  ·
   have LTa := (yj Ba.lt);clear Ba;rintro x w9 ⟨M8, Ba, hx⟩;replace E := E.trans M8;replace LW := LW.step E XLW;replace E := erx (Mut [(some ga)]) w9;obtain ⟨hC, _⟩ := rsC_ends ht hk.1 h0;refine zf ?_;replace LW := LW.step E XLW;replace E := erx (Mut [(some ga)]) w9
   refine qd (ι := RsE) (fun y => [(0, .pointer (some ⟨ga, 0, none⟩)), (5, .int .i64 ((y.w : Nat) : Int))]) (fun y w' => Ext (Mut [(some ga)]) w9 w' ∧ Blk w' ga 125 (yz { t with d := y.d, dp := t.dp - (((s.r : Nat) : Int) - 1), tr := y.tr }) ∧ (y = rsE t k)) ?_ ?_
   ·
    have M13 := erx (Mut [(some ga)]) w9;have XM13 := grx (Mut [(some ga)]) w9;have hl9 : ({ t with d := x.d, dp := t.dp - (((s.r : Nat) : Int) - 1) } : Dec).d.length = 800 := by show x.d.length = 800; rw [hx]; exact hC.len
    refine zx ?_;replace M13 := M13.step E XM13;replace E := erx (Mut [(some ga)]) w9
    refine qk (ι := RsE × Nat) (fun (y, j) => [(0, .pointer (some ⟨ga, 0, none⟩)), (1, .int .u64 ((k : Nat) : Int)), (5, .int .i64 ((y.w : Nat) : Int)), (6, .int .u64 ((y.n : Nat) : Int)), (8, .int .u64 ((2 ^ k - 1 : Nat) : Int))]) (fun (y, j) w' => Ext (Mut [(some ga)]) w9 w' ∧ Blk w' ga 125 (yz { t with d := y.d, dp := t.dp - (((s.r : Nat) : Int) - 1), tr := y.tr }) ∧ (RsEI t k s.r y ∧ qv ks (js k) y = rsE t k ∧ (2 ^ j ∣ y.n ∧ j ≤ k + 1 ∧ (j = k + 1 → y.n = 0)))) (fun (y, j) => k + 1 - j) (⟨x.d, x.w, x.n, t.tr⟩, 0) ⟨rfl, rfl, rfl, rfl, rfl, trivial⟩ ⟨Ext.refl _ _, (by exact Ba), by rw [hx, hs]; exact rsE_start ht hk.1 h0, by rw [hx]; rfl, ⟨Nat.one_dvd _, by omega, fun e => absurd e (by omega)⟩⟩ ?_
    have LTa := (yj Ba.lt);clear Ba;rintro ⟨y, j⟩ w16 ⟨M15, Ba, ⟨hI, hu, hj⟩⟩;have XM15 : Gro (Mut [(some ga)]) (Mut [(some ga)]) w9 := (Mut.grow Mut.none_ (fun k e => Or.inl (Mut.head k e)));replace E := E.trans M15;replace M13 := M13.step E XM13;replace E := erx (Mut [(some ga)]) w16
    have hly : ({ t with d := y.d, dp := t.dp - (((s.r : Nat) : Int) - 1), tr := y.tr } : Dec).d.length = 800 := hI.len;have hyw := hI.hw;have hn64 := two64 hI.hn hk.2;refine zf (srx (mvx rfl (za rfl (qq rfl rfl (rnx (zt rfl (fun h1 => ?_) (fun h1 => ?_)))))))
    ·
     have h1 : 0 < y.n := by have h1 := of_decide_eq_true h1; omega
     have hdone : ks y = false := decide_eq_false (by omega);have hkeep := rsE_keeps hk.1 hI;obtain ⟨hj1, hj2⟩ := rsE_twos hj hdone;obtain ⟨Q, hQ⟩ : ∃ Q, Q = y.n / 2 ^ k := ⟨_, rfl⟩;obtain ⟨M, hM⟩ : ∃ M, M = y.n % 2 ^ k := ⟨_, rfl⟩;have hq9 := ymx hI.hn;rw [← hQ] at hq9;have hm60 := two60 (n := M) (by rw [hM]; exact Nat.mod_lt _ hp2) hk.2;rw [vb hdone] at hu
     refine zj (ze (zx (srx (mvx rfl (mvx rfl (za rfl (kh rfl rfl (by omega) (shr_q y.n k Q (by omega) hQ) (anx rfl (srx (mvx rfl (mvx rfl (za rfl (vc rfl rfl (mask_q y.n k M (by omega) hk.2 hM) (anx rfl (zf (srx (mvx rfl (za rfl (yt rfl rfl (rnx (zt rfl (fun h2 => ?_) (fun h2 => ?_))))))))))))))))))))))
     ·
      have h2 : y.w < 800 := by have h2 := of_decide_eq_true h2; omega
      have hst : js k y = ⟨y.d.set y.w (Q + 48), y.w + 1, M * 10, y.tr⟩ := by rw [hQ, hM]; unfold js; rw [if_pos h2]
      rw [hst] at hkeep hu hj2
      refine srx (mvx rfl (mvx rfl (mvx rfl (za rfl (yg rfl rfl (wrap_u64 (by omega)) (za rfl (ja Tryd.underlying5 Tryd.underlying88 rfl (xx (by omega)) (za rfl (zk rfl (za rfl (zb Tryd.underlying125 rfl xn (by decide) rfl (za rfl (qo (j := y.w) Tryd.underlying123 sz5 rfl rfl rfl (by omega) (yd 111 (.int .u8 ((Q + 48 : Nat) : Int)) rfl (rfl) (qf (qi sz5 rfl rfl Ba rfl rfl (in_ hly (by omega)) (set_d hly (by omega)) ?_))))))))))))))))
      intro w17 Bx Ea;replace Ba : Blk w17 ga 125 (yz { t with d := y.d.set y.w (Q + 48), dp := t.dp - (((s.r : Nat) : Int) - 1), tr := y.tr }) := Bx;replace E := E.step1 Ea Mut.head
      refine rnx (zi (mvx rfl (za rfl (yg rfl rfl (zo (by omega)) (anx rfl (zi (mvx rfl (za rfl (gy rfl rfl (wrap_u64 (by omega)) (avx rfl (yf (zm (yr 6 (.int .u64 ((M * 10 : Nat) : Int)) rfl (rfl) (yr 5 (.int .i64 ((y.w + 1 : Nat) : Int)) rfl (rfl) ?_))))))))))))))
      exact ym (⟨y.d.set y.w (Q + 48), y.w + 1, M * 10, y.tr⟩, j + 1) (by show k + 1 - (j + 1) < k + 1 - j; omega) ⟨rfl, rfl, rfl, rfl, rfl, trivial⟩ ⟨M15.step E XM15, (by exact Ba), hkeep, hu, hj2⟩
     ·
      have h2 : ¬ y.w < 800 := by have h2 := of_decide_eq_false h2; omega
      refine srx (mvx rfl (za rfl (qq rfl rfl (rnx (zt rfl (fun h3 => ?_) (fun h3 => ?_))))))
      ·
       have h3 : 0 < Q := by have h3 := of_decide_eq_true h3; omega
       have hst : js k y = ⟨y.d, y.w, M * 10, true⟩ := by rw [hQ] at h3; rw [hM]; unfold js; rw [if_neg h2, if_pos h3]
       rw [hst] at hkeep hu hj2;refine zi (mvx rfl (za rfl (zk rfl (za rfl (zb Tryd.underlying125 rfl sz4 (by decide) rfl (qf (qi sz4 rfl rfl Ba rfl rfl (in_ hly (by decide : 803 < 804)) (ybz hly true) ?_)))))));intro w18 Bx Ea;replace Ba : Blk w18 ga 125 (yz { t with d := y.d, dp := t.dp - (((s.r : Nat) : Int) - 1), tr := true }) := Bx
       replace E := E.step1 Ea Mut.head;refine rnx (zi (mvx rfl (za rfl (gy rfl rfl (wrap_u64 (by omega)) (avx rfl (yf (zm (yr 6 (.int .u64 ((M * 10 : Nat) : Int)) rfl (rfl) ?_))))))))
       exact ym (⟨y.d, y.w, M * 10, true⟩, j + 1) (by show k + 1 - (j + 1) < k + 1 - j; omega) ⟨rfl, rfl, rfl, rfl, rfl, trivial⟩ ⟨M15.step E XM15, (by exact Ba), hkeep, hu, hj2⟩
      ·
       have h3 : ¬ 0 < Q := by have h3 := of_decide_eq_false h3; omega
       have hst : js k y = ⟨y.d, y.w, M * 10, y.tr⟩ := by rw [hQ] at h3; rw [hM]; unfold js; rw [if_neg h2, if_neg h3]
       rw [hst] at hkeep hu hj2;refine zj (ze (zi (mvx rfl (za rfl (gy rfl rfl (wrap_u64 (by omega)) (avx rfl (yf (zm (yr 6 (.int .u64 ((M * 10 : Nat) : Int)) rfl (rfl) ?_)))))))))
       exact ym (⟨y.d, y.w, M * 10, y.tr⟩, j + 1) (by show k + 1 - (j + 1) < k + 1 - j; omega) ⟨rfl, rfl, rfl, rfl, rfl, trivial⟩ ⟨M15.step E XM15, (by exact Ba), hkeep, hu, hj2⟩
    ·
     have h1 : y.n = 0 := by have h1 := of_decide_eq_false h1; omega
     have hdone : ks y = true := decide_eq_true h1;rw [qe hdone] at hu;refine yn (zg (zg (zv ?_)));exact yp y ⟨rfl, rfl, trivial⟩ ⟨M13.step E XM13, (by exact Ba), hu⟩
   ·
    have LTa := (yj Ba.lt);clear Ba;rintro y w14 ⟨M13, Ba, hy⟩;replace E := E.trans M13;replace LW := LW.step E XLW;replace E := erx (Mut [(some ga)]) w14;obtain ⟨hE, _⟩ := rsE_ends ht hk.1 h0;rw [← hy] at hE;have hly : ({ t with d := y.d, dp := t.dp - (((s.r : Nat) : Int) - 1), tr := y.tr } : Dec).d.length = 800 := hE.len
    have hly2 : ({ t with d := y.d, nd := y.w, dp := t.dp - (((s.r : Nat) : Int) - 1), tr := y.tr } : Dec).d.length = 800 := hE.len;refine srx (mvx rfl (mvx rfl (za rfl (zk rfl (za rfl (zb Tryd.underlying125 rfl sz3 (by decide) rfl (qf (qi sz3 rfl rfl Ba rfl rfl (in_ hly (by decide : 800 < 804)) (ybq hly y.w) ?_))))))));intro w19 Bx Ea
    replace Ba : Blk w19 ga 125 (yz { t with d := y.d, nd := y.w, dp := t.dp - (((s.r : Nat) : Int) - 1), tr := y.tr }) := Bx;replace E := E.step1 Ea Mut.head;refine rnx (zi (mvx rfl (za rfl (zz en93 rfl ((trim_any _ ga _ hly2 hE.hw Ba).mono ?_)))));rintro e w20 ⟨rfl, hB, hE⟩;refine ⟨_, rfl, ?_⟩;replace Ba := hB;clear hB;replace E := E.step1 hE Mut.head;clear hE
    refine yf (ztz rfl ?_);exact ⟨rfl, by unfold jc; rw [← hy, ← hs]; exact Ba, (LW.step E XLW)⟩
end
end Go.Proofs.YtmjbnhjgebjhlaaDoor
namespace Go.Proofs.YtmjbnhjgebjhlaaDoor
open Go.RowKit
set_option maxRecDepth 100000
attribute [local irreducible] OW RS
theorem lcB_size {k : Nat} (h : Shl k) : (lcB k).size = (lcS k).length := by
 rw [← (lc_row h).2.1, List.length_map];show (Go.Pinned.cheatRows.getD k (0, [])).2.toArray.size = _
 rw [List.size_toArray]
theorem lcB_at {k : Nat} (h : Shl k) (i : Nat) (hi : i < (lcS k).length) : (lcS k)[i]? = some (bAt (lcB k) i) := by
 rw [← lcB_size h] at hi;rw [← yu hi, ← (lc_row h).2.1, List.getElem?_map];show _ = ((Go.Pinned.cheatRows.getD k (0, [])).2.toArray[i]?).map _
 rw [List.getElem?_toArray]
theorem shl_k {c k C : Nat} (hc : c ≤ 9) (hk : k ≤ 60) (hC : C = c * 2 ^ k) : IntKind.u64.wrap (((c : Nat) : Int) * 2 ^ (min ((k : Nat) : Int).toNat IntKind.u64.bits)) = ((C : Nat) : Int) := by
 rw [hC, znx c k (by omega)];have h1 : 2 ^ k ≤ 2 ^ 60 := Nat.pow_le_pow_right (by decide) hk;have h2 : (2 : Nat) ^ 60 = 1152921504606846976 := by decide
 have h3 : c * 2 ^ k ≤ 9 * 2 ^ k := Nat.mul_le_mul_right _ hc;rw [Nat.mod_eq_of_lt (by omega)]
theorem quo10 (n D : Nat) (h : n < 18446744073709551616) (hD : D = n / 10) : IntKind.u64.wrap (((n : Nat) : Int).tdiv 10) = ((D : Nat) : Int) := by
 rw [hD, Int.tdiv_eq_ediv_of_nonneg (by omega)];exact wrap_u64 (by omega)
theorem put_in {d : List Nat} {w x : Nat} (h : w < 800) : kp d w x = d.set w (x + 48) := by unfold kp; rw [if_pos h]
theorem yjv {d : List Nat} {w x : Nat} (h : ¬ w < 800) : kp d w x = d := by unfold kp; rw [if_neg h]
theorem tr_in {b : Bool} {w x : Nat} (h : w < 800) : lsTr b w x = b := by unfold lsTr; rw [if_pos h]
theorem tr_out {b : Bool} {w x : Nat} (h : ¬ w < 800) (hx : x ≠ 0) : lsTr b w x = true := by unfold lsTr; rw [if_neg h, if_pos hx]
theorem tr_nil {b : Bool} {w x : Nat} (hx : x = 0) : lsTr b w x = b := by
 unfold lsTr;split
 · rfl
 · rw [if_neg (fun h => h hx)]
section
variable (w : World) {bp op cp bf of cf bl ol cl : Nat}
theorem left_any (ga k : Nat) (t : Dec) (hk : Shl k) (ht : DecI t) (h0 : 0 < t.nd) (hdp : -20000000 ≤ t.dp ∧ t.dp ≤ 20000000) (hB : Blk w ga 125 (yz t)) (hT : Tabs bp op cp bf of cf bl ol cl w) (hg : TabsB bp bf bl ga) :
 Calls Tryd.prog 86 #[.pointer (some ⟨ga, 0, none⟩), .int .u64 ((k : Nat) : Int)] w fun e w' => e = .returned (.tuple #[]) ∧ Blk w' ga 125 (yz (vj t k)) ∧ Ext (Mut [some ga]) w w' := by
 have hl := ht.len;have hnd := ht.hn;have hS := shl_ok hk;have hk60 := hS.k1;have hk61 := (lc_row hk).2.2;have hd16 := hS.d1;obtain ⟨hdl, _⟩ := zzz ht h0 hk;obtain ⟨L, hL⟩ : ∃ L, L = qr t k := ⟨_, rfl⟩;rw [← hL] at hdl;refine yl Tryd.func86 rfl Tryd.ntmps86 rfl ?_;have Ba := hB;have HF : Per (Mut [(some ga)]) w (fun _ => True) := Per.true_;have LW := erx (Mut [(some ga)]) w
 have XLW := grx (Mut [(some ga)]) w;have E := erx (Mut [(some ga)]) w;replace HF := HF.on E;replace LW := LW.step E XLW;replace E := erx (Mut [(some ga)]) w;replace HF := HF.and (Per.tabsB hT hg (fun q h => h.elim (fun e => Nat.le_of_eq (Option.some.inj e).symm) (fun e => e.elim)))
 refine srx (za rfl (yk Tryd.underlying168 rfl rfl (HF.on E).here.2.cheat.head (mvx rfl (za rfl (vd (j := k) Tryd.underlying168 sz167 rfl rfl rfl hk61 (za rfl (zb Tryd.underlying167 rfl sz3 (by decide) rfl (za rfl (yk Tryd.underlying3 rfl rfl ((HF.on E).here.2.cheat.delta k hk) (anx rfl (zf (zf ?_))))))))))));replace HF := HF.on E
 replace LW := LW.step E XLW;replace E := erx (Mut [(some ga)]) w;refine qd (ι := Unit) (fun _ => [(0, .pointer (some ⟨ga, 0, none⟩)), (1, .int .u64 ((k : Nat) : Int)), (4, .int .i64 ((lcD k : Nat) : Int)), (30, .bool (vx (t.d.take t.nd) (lcS k)))]) (fun _ w' => Ext (Mut [(some ga)]) w w' ∧ Blk w' ga 125 (yz t) ∧ (True)) ?_ ?_
 ·
  have M1 := erx (Mut [(some ga)]) w;have XM1 := grx (Mut [(some ga)]) w;have OY : ∀ q9, (Mut (xq [])) q9 → q9 < (World.drew w).heap.size → (Mut [(some ga)]) q9 := fun k h _ => (Mut.none_) k h;refine vu (Mut [(some ga)]) (Mut.grow Mut.none_ (yj Ba.lt)) [] [] (oz [Fx.of (.pointer (some ⟨ga, 0, none⟩)),
   Fx.of (.pointer (some ⟨ga, 0, none⟩)),
   Fx.of (.pointer (some ⟨ga, 0, none⟩)),
   Fx.of (.pointer (some ⟨ga, 0, none⟩)),
   Fx.of (.pointer (some ⟨ga, 0, none⟩)),
   Fx.of (.pointer (some ⟨ga, 800, none⟩)),
   Fx.of (.int .i64 ((t.nd : Nat) : Int)),
   Fx.of (.slice (some ⟨ga, 0, none⟩) t.nd 800),
   Fx.of (.slice (some ⟨bl, ol, none⟩) 61 cl),
   Fx.of (.int .u64 ((k : Nat) : Int)),
   Fx.of (.pointer (some ⟨bl, ol + k * 2, none⟩)),
   Fx.of (.pointer (some ⟨bl, ol + k * 2 + 1, none⟩)),
   Fx.of (.string (lcB k)),
   Fx.of (.bool (vx (t.d.take t.nd) (lcS k)))]) mixed rfl trivial (fun _ h => by cases h) ?_ ?_
  · refine ⟨?_, ?_, ?_, ?_, ?_, ?_, ?_, ?_, ?_, ?_, ?_, ?_, ?_, ?_, trivial⟩
    · intro vs X wq K;exact zq rfl ⟨Below.refl _ _, Left.of rfl⟩
    · intro vs X wq K;obtain ⟨_, e0, k0⟩ := K.dep 0 rfl rfl rfl;refine zh 17 (.pointer (some ⟨ga, 0, none⟩)) rfl e0 ?_;exact zk rfl ⟨Below.refl _ _, Left.of rfl⟩
    · intro vs X wq K;obtain ⟨_, e1, k1⟩ := K.dep 1 rfl rfl rfl;refine zh 18 (.pointer (some ⟨ga, 0, none⟩)) rfl e1 ?_;exact zb Tryd.underlying125 rfl xn (by decide) rfl ⟨Below.refl _ _, Left.of rfl⟩
    · intro vs X wq K;exact zq rfl ⟨Below.refl _ _, Left.of rfl⟩
    · intro vs X wq K;obtain ⟨_, e3, k3⟩ := K.dep 3 rfl rfl rfl;refine zh 20 (.pointer (some ⟨ga, 0, none⟩)) rfl e3 ?_;exact zk rfl ⟨Below.refl _ _, Left.of rfl⟩
    · intro vs X wq K;obtain ⟨_, e4, k4⟩ := K.dep 4 rfl rfl rfl;refine zh 21 (.pointer (some ⟨ga, 0, none⟩)) rfl e4 ?_;exact zb Tryd.underlying125 rfl sz3 (by decide) rfl ⟨Below.refl _ _, Left.of rfl⟩
    · intro vs X wq K;have LE := K.1;obtain ⟨_, e5, k5⟩ := K.dep 5 rfl rfl rfl;refine zh 22 (.pointer (some ⟨ga, 800, none⟩)) rfl e5 ?_;exact zl Tryd.underlying3 rfl rfl (Ba.drew.extN LE NotIn.nil) (xj hl t.nd rfl) ⟨Below.refl _ _, Left.of rfl⟩
    · intro vs X wq K;obtain ⟨_, e2, k2⟩ := K.dep 2 rfl rfl rfl;refine zh 19 (.pointer (some ⟨ga, 0, none⟩)) rfl e2 ?_;obtain ⟨_, e6, k6⟩ := K.dep 6 rfl rfl rfl;refine zh 23 (.int .i64 ((t.nd : Nat) : Int)) rfl e6 ?_;exact ow_sliceA0 (h := t.nd) Tryd.underlying123 sz5 rfl rfl rfl rfl hnd ⟨Below.refl _ _, Left.of rfl⟩
    · intro vs X wq K;have LE := K.1;exact yk Tryd.underlying168 rfl rfl (HF.on (E.drew.trans (LE.mono OY))).here.2.cheat.head ⟨Below.refl _ _, Left.of rfl⟩
    · intro vs X wq K;exact zq rfl ⟨Below.refl _ _, Left.of rfl⟩
    · intro vs X wq K;obtain ⟨_, e8, k8⟩ := K.dep 8 rfl rfl rfl;refine zh 25 (.slice (some ⟨bl, ol, none⟩) 61 cl) rfl e8 ?_;obtain ⟨_, e9, k9⟩ := K.dep 9 rfl rfl rfl;refine zh 26 (.int .u64 ((k : Nat) : Int)) rfl e9 ?_;exact vd (j := k) Tryd.underlying168 sz167 rfl rfl rfl hk61 ⟨Below.refl _ _, Left.of rfl⟩
    · intro vs X wq K;obtain ⟨_, e10, k10⟩ := K.dep 10 rfl rfl rfl;refine zh 27 (.pointer (some ⟨bl, ol + k * 2, none⟩)) rfl e10 ?_;exact zb Tryd.underlying167 rfl sz9 (by decide) rfl ⟨Below.refl _ _, Left.of rfl⟩
    · intro vs X wq K;have LE := K.1;obtain ⟨_, e11, k11⟩ := K.dep 11 rfl rfl rfl;refine zh 28 (.pointer (some ⟨bl, ol + k * 2 + 1, none⟩)) rfl e11 ?_;exact yk Tryd.underlying9 rfl rfl ((HF.on (E.drew.trans (LE.mono OY))).here.2.cheat.cut k hk) ⟨Below.refl _ _, Left.of rfl⟩
    · intro vs X wq K;have LE := K.1;obtain ⟨_, e7, k7⟩ := K.dep 7 rfl rfl rfl;refine zh 24 (.slice (some ⟨ga, 0, none⟩) t.nd 800) rfl e7 ?_;obtain ⟨_, e12, k12⟩ := K.dep 12 rfl rfl rfl;refine zh 29 (.string (lcB k)) rfl e12 (zz en92 rfl ((prefix_any _ ga t t.nd (lcB k) (lcS k) hl hnd (lcB_size hk) (lcB_at hk) (Ba.drew.extN LE NotIn.nil)).mono ?_));rintro e w2 ⟨rfl, hb⟩
      exact ⟨_, rfl, hb, Left.of rfl⟩
  intro vs w3 LE AO AL AF AA;have LBa := Ba;replace Ba := Ba.drew.extN LE NotIn.nil;replace E := E.drew.trans (LE.mono OY);obtain ⟨_, e13, k13⟩ := AL.2.2.2.2.2.2.2.2.2.2.2.2.2.1;refine je (τ := [(0, _), (1, _), (4, _), (30, .bool (vx (t.d.take t.nd) (lcS k)))]) ⟨rfl, rfl, rfl, congrArg some e13, trivial⟩ ?_;clear AL AF AA LE AO OY e13 k13 LBa
  exact yp () ⟨rfl, rfl, rfl, rfl, trivial⟩ ⟨M1.step E XM1, (by exact Ba), trivial⟩
 ·
  have LTa := (yj Ba.lt);clear Ba;rintro _ w2 ⟨M1, Ba, _⟩;replace E := E.trans M1;replace LW := LW.step E XLW;replace E := erx (Mut [(some ga)]) w2;replace LW := LW.step E XLW;replace E := erx (Mut [(some ga)]) w2
  refine qd (ι := Unit) (fun _ => [(0, .pointer (some ⟨ga, 0, none⟩)), (1, .int .u64 ((k : Nat) : Int)), (4, .int .i64 ((L : Nat) : Int))]) (fun _ w' => Ext (Mut [(some ga)]) w2 w' ∧ Blk w' ga 125 (yz t) ∧ (True)) ?_ ?_
  ·
   have M4 := erx (Mut [(some ga)]) w2;have XM4 := grx (Mut [(some ga)]) w2;refine zt rfl (fun hb => ?_) (fun hb => ?_)
   ·
    have e : L = lcD k - 1 := by rw [hL]; unfold qr; rw [if_pos hb]
    refine zi (mvx rfl (za rfl (yw rfl rfl (zo (by omega)) (avx rfl (yf (yr 4 (.int .i64 ((L : Nat) : Int)) rfl ((by congr 1; omega : (.int .i64 (((lcD k : Nat) : Int) - 1) : Value) = _)) ?_))))));exact yp () ⟨rfl, rfl, rfl, trivial⟩ ⟨M4.step E XM4, (by exact Ba), trivial⟩
   ·
    have e : L = lcD k := by rw [hL]; unfold qr; rw [if_neg (by rw [hb]; decide)]
    refine zj (yr 4 (.int .i64 ((L : Nat) : Int)) rfl ((by rw [e] : (.int .i64 ((lcD k : Nat) : Int) : Value) = _)) ?_);exact yp () ⟨rfl, rfl, rfl, trivial⟩ ⟨M4.step E XM4, (by exact Ba), trivial⟩
  ·
   have LTa := (yj Ba.lt);clear Ba;rintro _ w5 ⟨M4, Ba, _⟩;replace E := E.trans M4;replace LW := LW.step E XLW;replace E := erx (Mut [(some ga)]) w5
   refine srx (mvx rfl (za rfl (zk rfl (za rfl (zb Tryd.underlying125 rfl sz3 (by decide) rfl (za rfl (zl Tryd.underlying3 rfl rfl Ba (xj hl (t.nd) rfl) (anx rfl (srx (mvx rfl (za rfl (zk rfl (za rfl (zb Tryd.underlying125 rfl sz3 (by decide) rfl (za rfl (zl Tryd.underlying3 rfl rfl Ba (xj hl (t.nd) rfl) (mvx rfl (za rfl (yg rfl rfl (zo (by omega)) (anx rfl (srx (anx rfl (zf (srx (mvx rfl (za rfl (yw rfl rfl (zo (by omega)) (anx rfl ?_))))))))))))))))))))))))))))
   replace LW := LW.step E XLW;replace E := erx (Mut [(some ga)]) w5;refine qd (ι := LsA) (fun x => [(0, .pointer (some ⟨ga, 0, none⟩)), (4, .int .i64 ((L : Nat) : Int)), (6, .int .i64 ((x.w : Nat) : Int)), (7, .int .u64 ((x.n : Nat) : Int))]) (fun x w' => Ext (Mut [(some ga)]) w5 w' ∧ Blk w' ga 125 (yz { t with d := x.d, tr := x.tr }) ∧ (x = lsA t k)) ?_ ?_
   ·
    have M6 := erx (Mut [(some ga)]) w5;have XM6 := grx (Mut [(some ga)]) w5;refine zx ?_;replace M6 := M6.step E XM6;replace E := erx (Mut [(some ga)]) w5
    refine qk (ι := LsA) (fun x => [(0, .pointer (some ⟨ga, 0, none⟩)), (1, .int .u64 ((k : Nat) : Int)), (4, .int .i64 ((L : Nat) : Int)), (5, .int .i64 (((x.r : Nat) : Int) - 1)), (6, .int .i64 ((x.w : Nat) : Int)), (7, .int .u64 ((x.n : Nat) : Int))]) (fun x w' => Ext (Mut [(some ga)]) w5 w' ∧ Blk w' ga 125 (yz { t with d := x.d, tr := x.tr }) ∧ (LsAI t k x ∧ qv zok (ylx k) x = lsA t k)) (fun x => x.r) (⟨t.d, t.nd, t.nd + L, 0, t.tr⟩) ⟨rfl, rfl, rfl, rfl, rfl, rfl, trivial⟩ ⟨Ext.refl _ _, (by exact Ba), by rw [hL]; exact lsA_start ht, by rw [hL]; rfl⟩ ?_
    have LTa := (yj Ba.lt);clear Ba;rintro x w9 ⟨M8, Ba, ⟨hI, hu⟩⟩;have XM8 : Gro (Mut [(some ga)]) (Mut [(some ga)]) w5 := (Mut.grow Mut.none_ (fun k e => Or.inl (Mut.head k e)));replace E := E.trans M8;replace M6 := M6.step E XM6;replace E := erx (Mut [(some ga)]) w9;have hlx : ({ t with d := x.d, tr := x.tr } : Dec).d.length = 800 := hI.len;have hxw := hI.hw;rw [← hL] at hxw
    have hxr := hI.hr;refine zf (srx (mvx rfl (za rfl (vr rfl rfl (rnx (zt rfl (fun h1 => ?_) (fun h1 => ?_)))))))
    ·
     have h1 : 0 < x.r := by have h1 := of_decide_eq_true h1; omega
     have hdone : zok x = false := decide_eq_false (by omega);obtain ⟨hkeep, _, hN⟩ := lsA_keeps ht hI hdone;have hN64 := two64 hN hk60.2;have hdg := ht.dig (x.r - 1) (by omega);rw [← hI.old (x.r - 1) (by omega)] at hdg;obtain ⟨C, hC⟩ : ∃ C, C = (dg x.d (x.r - 1) - 48) * 2 ^ k := ⟨_, rfl⟩;obtain ⟨V, hV⟩ : ∃ V, V = lsN k x := ⟨_, rfl⟩;have hVC : V = x.n + C := by rw [hV, hC]; rfl
     rw [← hV] at hN64;obtain ⟨D, hD⟩ : ∃ D, D = V / 10 := ⟨_, rfl⟩;obtain ⟨R, hR⟩ : ∃ R, R = V % 10 := ⟨_, rfl⟩;have hst : ylx k x = ⟨kp x.d (x.w - 1) R, x.r - 1, x.w - 1, D, lsTr x.tr (x.w - 1) R⟩ := by rw [hR, hD, hV]; rfl
     rw [vb hdone] at hu;rw [hst] at hkeep hu
     refine zj (ze (zf (zx (srx (mvx rfl (mvx rfl (mvx rfl (za rfl (zk rfl (za rfl (zb Tryd.underlying125 rfl xn (by decide) rfl (za rfl (qo (j := x.r - 1) Tryd.underlying123 sz5 rfl rfl (by omega) (by omega) (za rfl (zl Tryd.underlying5 rfl rfl Ba (dAt hlx (dg x.d (x.r - 1)) (x.r - 1) rfl (by omega)) (za rfl (ja Tryd.underlying88 Tryd.underlying5 rfl (wrap_u64 (by omega)) (za rfl (yw rfl rfl (wrap_u64 (by omega)) (mvx rfl (yd 57 (.int .u64 ((dg x.d (x.r - 1) - 48 : Nat) : Int)) rfl ((by congr 1; omega : (.int .u64 (((dg x.d (x.r - 1) : Nat) : Int) - 48) : Value) = _)) (za rfl (jl rfl rfl (by omega) (shl_k (by omega) hk60.2 hC) (za rfl (yg rfl rfl (wrap_u64 (by omega)) (anx rfl (srx (mvx rfl (yd 61 (.int .u64 ((V : Nat) : Int)) rfl ((by congr 1; omega : (.int .u64 (((x.n : Nat) : Int) + ((C : Nat) : Int)) : Value) = _)) (za rfl (ow_quo rfl rfl (by decide) (quo10 V D (by omega) hD) (anx rfl (srx (mvx rfl (mvx rfl (za rfl (gy rfl rfl (wrap_u64 (by omega)) (za rfl (yw rfl rfl (wrap_u64 (by omega)) (anx rfl (zf ?_)))))))))))))))))))))))))))))))))))))))))
     refine zi (mvx rfl (za rfl (yw rfl rfl (zo (by omega)) (anx rfl (zf (srx (mvx rfl (za rfl (yt rfl rfl (rnx (zu 9 (.int .u64 ((R : Nat) : Int)) rfl ((by congr 1; omega : (.int .u64 ((((x.n : Nat) : Int) + ((C : Nat) : Int)) - (10 * ((D : Nat) : Int))) : Value) = _)) (zt rfl (fun h2 => ?_) (fun h2 => ?_)))))))))))))
     ·
      have h2 : x.w - 1 < 800 := by have h2 := of_decide_eq_true h2; omega
      rw [put_in h2, tr_in h2] at hu hkeep
      refine zi (mvx rfl (mvx rfl (mvx rfl (za rfl (yg rfl rfl (wrap_u64 (by omega)) (za rfl (ja Tryd.underlying5 Tryd.underlying88 rfl (xx (by omega)) (za rfl (zk rfl (za rfl (zb Tryd.underlying125 rfl xn (by decide) rfl (za rfl (qo (j := x.w - 1) Tryd.underlying123 sz5 rfl rfl (by omega) (by omega) (yd 75 (.int .u8 ((R + 48 : Nat) : Int)) rfl (rfl) (qf (qi sz5 rfl rfl Ba rfl rfl (in_ hlx (by omega)) (set_d hlx (by omega)) ?_))))))))))))))))
      intro w10 Bx Ea;replace Ba : Blk w10 ga 125 (yz { t with d := x.d.set (x.w - 1) (R + 48), tr := x.tr }) := Bx;replace E := E.step1 Ea Mut.head
      refine rnx (zi (mvx rfl (avx rfl (yf (zm (ze (zi (mvx rfl (za rfl (yw rfl rfl (zo (by omega)) (avx rfl (yf (yr 6 (.int .i64 ((x.w - 1 : Nat) : Int)) rfl ((by congr 1; omega : (.int .i64 (((x.w : Nat) : Int) - 1) : Value) = _)) (yr 5 (.int .i64 (((x.r - 1 : Nat) : Int) - 1)) rfl ((by congr 1; omega : (.int .i64 ((((x.r : Nat) : Int) - 1) - 1) : Value) = _)) ?_))))))))))))))
      exact ym (⟨x.d.set (x.w - 1) (R + 48), x.r - 1, x.w - 1, D, x.tr⟩) (by show x.r - 1 < x.r; omega) ⟨rfl, rfl, rfl, rfl, rfl, rfl, trivial⟩ ⟨M8.step E XM8, (by exact Ba), hkeep, hu⟩
     ·
      have h2 : ¬ x.w - 1 < 800 := by have h2 := of_decide_eq_false h2; omega
      refine srx (mvx rfl (za rfl (qn rfl rfl (rnx (zt rfl (fun h3 => ?_) (fun h3 => ?_))))))
      ·
       have h3 : R ≠ 0 := fun e => absurd h3 (by rw [e]; decide);rw [yjv h2, tr_out h2 h3] at hu hkeep;refine zi (mvx rfl (za rfl (zk rfl (za rfl (zb Tryd.underlying125 rfl sz4 (by decide) rfl (qf (qi sz4 rfl rfl Ba rfl rfl (in_ hlx (by decide : 803 < 804)) (ybz hlx true) ?_)))))));intro w11 Bx Ea
       replace Ba : Blk w11 ga 125 (yz { t with d := x.d, tr := true }) := Bx;replace E := E.step1 Ea Mut.head
       refine rnx (zi (mvx rfl (avx rfl (yf (zm (ze (zi (mvx rfl (za rfl (yw rfl rfl (zo (by omega)) (avx rfl (yf (yr 6 (.int .i64 ((x.w - 1 : Nat) : Int)) rfl ((by congr 1; omega : (.int .i64 (((x.w : Nat) : Int) - 1) : Value) = _)) (yr 5 (.int .i64 (((x.r - 1 : Nat) : Int) - 1)) rfl ((by congr 1; omega : (.int .i64 ((((x.r : Nat) : Int) - 1) - 1) : Value) = _)) ?_))))))))))))))
       exact ym (⟨x.d, x.r - 1, x.w - 1, D, true⟩) (by show x.r - 1 < x.r; omega) ⟨rfl, rfl, rfl, rfl, rfl, rfl, trivial⟩ ⟨M8.step E XM8, (by exact Ba), hkeep, hu⟩
      ·
       have h3 : R = 0 := by
        rcases Nat.decEq R 0 with h | h
        · rw [bne_iff_ne.2 (by omega)] at h3; cases h3
        · exact h
       rw [yjv h2, tr_nil h3] at hu hkeep
       refine zj (ze (zi (mvx rfl (avx rfl (yf (zm (ze (zi (mvx rfl (za rfl (yw rfl rfl (zo (by omega)) (avx rfl (yf (yr 6 (.int .i64 ((x.w - 1 : Nat) : Int)) rfl ((by congr 1; omega : (.int .i64 (((x.w : Nat) : Int) - 1) : Value) = _)) (yr 5 (.int .i64 (((x.r - 1 : Nat) : Int) - 1)) rfl ((by congr 1; omega : (.int .i64 ((((x.r : Nat) : Int) - 1) - 1) : Value) = _)) ?_)))))))))))))))
       exact ym (⟨x.d, x.r - 1, x.w - 1, D, x.tr⟩) (by show x.r - 1 < x.r; omega) ⟨rfl, rfl, rfl, rfl, rfl, rfl, trivial⟩ ⟨M8.step E XM8, (by exact Ba), hkeep, hu⟩
    ·
     have h1 : x.r = 0 := by have h1 := of_decide_eq_false h1; omega
     have hdone : zok x = true := decide_eq_true h1;rw [qe hdone] at hu;refine yn (zg (zg (zv ?_)));exact yp x ⟨rfl, rfl, rfl, rfl, trivial⟩ ⟨M6.step E XM6, (by exact Ba), hu⟩
   ·
    have LTa := (yj Ba.lt);clear Ba;rintro x w7 ⟨M6, Ba, hx⟩;replace E := E.trans M6;replace LW := LW.step E XLW;replace E := erx (Mut [(some ga)]) w7;refine zf ?_;replace LW := LW.step E XLW;replace E := erx (Mut [(some ga)]) w7
    refine qd (ι := LsA) (fun x => [(0, .pointer (some ⟨ga, 0, none⟩)), (4, .int .i64 ((L : Nat) : Int))]) (fun x w' => Ext (Mut [(some ga)]) w7 w' ∧ Blk w' ga 125 (yz { t with d := x.d, tr := x.tr }) ∧ (x = lsB t k)) ?_ ?_
    ·
     have M12 := erx (Mut [(some ga)]) w7;have XM12 := grx (Mut [(some ga)]) w7;have hS2 := lsB_start ht h0 hk;refine zx ?_;replace M12 := M12.step E XM12;replace E := erx (Mut [(some ga)]) w7
     refine qk (ι := LsA) (fun x => [(0, .pointer (some ⟨ga, 0, none⟩)), (4, .int .i64 ((L : Nat) : Int)), (6, .int .i64 ((x.w : Nat) : Int)), (7, .int .u64 ((x.n : Nat) : Int))]) (fun x w' => Ext (Mut [(some ga)]) w7 w' ∧ Blk w' ga 125 (yz { t with d := x.d, tr := x.tr }) ∧ (LsBI t k x ∧ qv zoq ykv x = lsB t k)) (fun x => x.w) x ⟨rfl, rfl, rfl, rfl, trivial⟩ ⟨Ext.refl _ _, (by exact Ba), by rw [hx]; exact hS2, by rw [hx]; rfl⟩ ?_
     have LTa := (yj Ba.lt);clear Ba;rintro x w15 ⟨M14, Ba, ⟨hI, hu⟩⟩;have XM14 : Gro (Mut [(some ga)]) (Mut [(some ga)]) w7 := (Mut.grow Mut.none_ (fun k e => Or.inl (Mut.head k e)));replace E := E.trans M14;replace M12 := M12.step E XM12;replace E := erx (Mut [(some ga)]) w15;have hlx : ({ t with d := x.d, tr := x.tr } : Dec).d.length = 800 := hI.len;have hn60 := two60 hI.small hk60.2
     refine zf (srx (mvx rfl (za rfl (qq rfl rfl (rnx (zt rfl (fun h1 => ?_) (fun h1 => ?_)))))))
     ·
      have h1 : 0 < x.n := by have h1 := of_decide_eq_true h1; omega
      have hdone : zoq x = false := decide_eq_false (by omega);obtain ⟨hkeep, hw1, hw2⟩ := lsB_keeps ht hk h0 hI hdone;obtain ⟨D, hD⟩ : ∃ D, D = x.n / 10 := ⟨_, rfl⟩;obtain ⟨R, hR⟩ : ∃ R, R = x.n % 10 := ⟨_, rfl⟩;have hst : ykv x = ⟨kp x.d (x.w - 1) R, x.r, x.w - 1, D, lsTr x.tr (x.w - 1) R⟩ := by rw [hR, hD]; rfl
      rw [vb hdone] at hu;rw [hst] at hkeep hu
      refine zj (ze (zx (srx (mvx rfl (za rfl (ow_quo rfl rfl (by decide) (quo10 x.n D (by omega) hD) (anx rfl (srx (mvx rfl (mvx rfl (za rfl (gy rfl rfl (wrap_u64 (by omega)) (za rfl (yw rfl rfl (wrap_u64 (by omega)) (anx rfl (srx (mvx rfl (za rfl (yw rfl rfl (zo (by omega)) (anx rfl (zf (srx (mvx rfl (za rfl (yt rfl rfl (rnx (zu 11 (.int .u64 ((R : Nat) : Int)) rfl ((by congr 1; omega : (.int .u64 (((x.n : Nat) : Int) - (10 * ((D : Nat) : Int))) : Value) = _)) (zt rfl (fun h2 => ?_) (fun h2 => ?_)))))))))))))))))))))))))))))
      ·
       have h2 : x.w - 1 < 800 := by have h2 := of_decide_eq_true h2; omega
       rw [put_in h2, tr_in h2] at hu hkeep
       refine zi (mvx rfl (mvx rfl (mvx rfl (za rfl (yg rfl rfl (wrap_u64 (by omega)) (za rfl (ja Tryd.underlying5 Tryd.underlying88 rfl (xx (by omega)) (za rfl (zk rfl (za rfl (zb Tryd.underlying125 rfl xn (by decide) rfl (za rfl (qo (j := x.w - 1) Tryd.underlying123 sz5 rfl rfl (by omega) (by omega) (yd 101 (.int .u8 ((R + 48 : Nat) : Int)) rfl (rfl) (qf (qi sz5 rfl rfl Ba rfl rfl (in_ hlx (by omega)) (set_d hlx (by omega)) ?_))))))))))))))))
       intro w16 Bx Ea;replace Ba : Blk w16 ga 125 (yz { t with d := x.d.set (x.w - 1) (R + 48), tr := x.tr }) := Bx;replace E := E.step1 Ea Mut.head;refine rnx (zi (mvx rfl (avx rfl (yf (zm (yr 6 (.int .i64 ((x.w - 1 : Nat) : Int)) rfl ((by congr 1; omega : (.int .i64 (((x.w : Nat) : Int) - 1) : Value) = _)) ?_))))))
       exact ym (⟨x.d.set (x.w - 1) (R + 48), x.r, x.w - 1, D, x.tr⟩) (by show x.w - 1 < x.w; omega) ⟨rfl, rfl, rfl, rfl, trivial⟩ ⟨M14.step E XM14, (by exact Ba), hkeep, hu⟩
      ·
       have h2 : ¬ x.w - 1 < 800 := by have h2 := of_decide_eq_false h2; omega
       refine srx (mvx rfl (za rfl (qn rfl rfl (rnx (zt rfl (fun h3 => ?_) (fun h3 => ?_))))))
       ·
        have h3 : R ≠ 0 := fun e => absurd h3 (by rw [e]; decide);rw [yjv h2, tr_out h2 h3] at hu hkeep;refine zi (mvx rfl (za rfl (zk rfl (za rfl (zb Tryd.underlying125 rfl sz4 (by decide) rfl (qf (qi sz4 rfl rfl Ba rfl rfl (in_ hlx (by decide : 803 < 804)) (ybz hlx true) ?_)))))));intro w17 Bx Ea
        replace Ba : Blk w17 ga 125 (yz { t with d := x.d, tr := true }) := Bx;replace E := E.step1 Ea Mut.head;refine rnx (zi (mvx rfl (avx rfl (yf (zm (yr 6 (.int .i64 ((x.w - 1 : Nat) : Int)) rfl ((by congr 1; omega : (.int .i64 (((x.w : Nat) : Int) - 1) : Value) = _)) ?_))))))
        exact ym (⟨x.d, x.r, x.w - 1, D, true⟩) (by show x.w - 1 < x.w; omega) ⟨rfl, rfl, rfl, rfl, trivial⟩ ⟨M14.step E XM14, (by exact Ba), hkeep, hu⟩
       ·
        have h3 : R = 0 := by
         rcases Nat.decEq R 0 with h | h
         · rw [bne_iff_ne.2 (by omega)] at h3; cases h3
         · exact h
        rw [yjv h2, tr_nil h3] at hu hkeep;refine zj (ze (zi (mvx rfl (avx rfl (yf (zm (yr 6 (.int .i64 ((x.w - 1 : Nat) : Int)) rfl ((by congr 1; omega : (.int .i64 (((x.w : Nat) : Int) - 1) : Value) = _)) ?_)))))))
        exact ym (⟨x.d, x.r, x.w - 1, D, x.tr⟩) (by show x.w - 1 < x.w; omega) ⟨rfl, rfl, rfl, rfl, trivial⟩ ⟨M14.step E XM14, (by exact Ba), hkeep, hu⟩
     ·
      have h1 : x.n = 0 := by have h1 := of_decide_eq_false h1; omega
      have hdone : zoq x = true := decide_eq_true h1;rw [qe hdone] at hu;refine yn (zg (zg (zv ?_)));exact yp x ⟨rfl, rfl, trivial⟩ ⟨M12.step E XM12, (by exact Ba), hu⟩
    ·
     have LTa := (yj Ba.lt);clear Ba;rintro x w13 ⟨M12, Ba, hx⟩;replace E := E.trans M12;replace LW := LW.step E XLW;replace E := erx (Mut [(some ga)]) w13;obtain ⟨hE, _⟩ := lsB_ends ht h0 hk;rw [← hx] at hE;have hlx : ({ t with d := x.d, tr := x.tr } : Dec).d.length = 800 := hE.len
     refine srx (mvx rfl (za rfl (zk rfl (za rfl (zb Tryd.underlying125 rfl sz3 (by decide) rfl (za rfl (zl Tryd.underlying3 rfl rfl Ba (xj hlx (t.nd) rfl) (mvx rfl (za rfl (yg rfl rfl (zo (by omega)) (za rfl (zk rfl (za rfl (zb Tryd.underlying125 rfl sz3 (by decide) rfl (yd 116 (.int .i64 ((t.nd + L : Nat) : Int)) rfl (rfl) (qf (qi sz3 rfl rfl Ba rfl rfl (in_ hlx (by decide : 800 < 804)) (ybq hlx (t.nd + L)) ?_)))))))))))))))))
     intro w18 Bx Ea;replace Ba : Blk w18 ga 125 (yz { t with d := x.d, nd := t.nd + L, tr := x.tr }) := Bx;replace E := E.step1 Ea Mut.head;have hly : ({ t with d := x.d, nd := t.nd + L, tr := x.tr } : Dec).d.length = 800 := hE.len
     refine rnx (zf (srx (mvx rfl (za rfl (zk rfl (za rfl (zb Tryd.underlying125 rfl sz3 (by decide) rfl (za rfl (zl Tryd.underlying3 rfl rfl Ba (xj hly (t.nd + L) rfl) (za rfl (vr rfl rfl (rnx ?_))))))))))));replace LW := LW.step E XLW;replace E := erx (Mut [(some ga)]) w18
     refine qd (ι := Unit) (fun _ => [(0, .pointer (some ⟨ga, 0, none⟩)), (4, .int .i64 ((L : Nat) : Int))]) (fun _ w' => Ext (Mut [(some ga)]) w18 w' ∧ Blk w' ga 125 (yz { t with d := x.d, nd := if 800 ≤ t.nd + L then 800 else t.nd + L, tr := x.tr }) ∧ (True)) ?_ ?_
     ·
      have M19 := erx (Mut [(some ga)]) w18;have XM19 := grx (Mut [(some ga)]) w18;refine zt rfl (fun h1 => ?_) (fun h1 => ?_)
      ·
       have h1 : 800 ≤ t.nd + L := by have h1 := of_decide_eq_true h1; omega
       refine zi (mvx rfl (za rfl (zk rfl (za rfl (zb Tryd.underlying125 rfl sz3 (by decide) rfl (qf (qi sz3 rfl rfl Ba rfl rfl (in_ hly (by decide : 800 < 804)) (ybq hly 800) ?_)))))));intro w21 Bx Ea;replace Ba : Blk w21 ga 125 (yz { t with d := x.d, nd := 800, tr := x.tr }) := Bx;replace E := E.step1 Ea Mut.head;refine yf ?_
       replace Ba : Blk w21 ga 125 (yz { t with d := x.d, nd := if 800 ≤ t.nd + L then 800 else t.nd + L, tr := x.tr }) := by rw [if_pos h1]; exact Ba
       exact yp () ⟨rfl, rfl, trivial⟩ ⟨M19.step E XM19, (by exact Ba), trivial⟩
      ·
       have h1 : ¬ 800 ≤ t.nd + L := by have h1 := of_decide_eq_false h1; omega
       refine zj ?_;replace Ba : Blk w18 ga 125 (yz { t with d := x.d, nd := if 800 ≤ t.nd + L then 800 else t.nd + L, tr := x.tr }) := by rw [if_neg h1]; exact Ba
       exact yp () ⟨rfl, rfl, trivial⟩ ⟨M19.step E XM19, (by exact Ba), trivial⟩
     ·
      have LTa := (yj Ba.lt);clear Ba;rintro _ w20 ⟨M19, Ba, _⟩;replace E := E.trans M19;replace LW := LW.step E XLW;replace E := erx (Mut [(some ga)]) w20;have hlz : ({ t with d := x.d, nd := if 800 ≤ t.nd + L then 800 else t.nd + L, tr := x.tr } : Dec).d.length = 800 := hE.len
      have hlz2 : ({ t with d := x.d, nd := if 800 ≤ t.nd + L then 800 else t.nd + L, dp := t.dp + ((L : Nat) : Int), tr := x.tr } : Dec).d.length = 800 := hE.len
      refine srx (mvx rfl (za rfl (zk rfl (za rfl (zb Tryd.underlying125 rfl sz3 (by decide) rfl (za rfl (zl Tryd.underlying3 rfl rfl Ba (zlq hlz t.dp rfl) (mvx rfl (za rfl (yg rfl rfl (zo (by omega)) (za rfl (zk rfl (za rfl (zb Tryd.underlying125 rfl sz3 (by decide) rfl (qf (qi sz3 rfl rfl Ba rfl rfl (in_ hlz (by decide : 801 < 804)) (zsq hlz (t.dp + ((L : Nat) : Int))) ?_))))))))))))))))
      intro w22 Bx Ea;replace Ba : Blk w22 ga 125 (yz { t with d := x.d, nd := if 800 ≤ t.nd + L then 800 else t.nd + L, dp := t.dp + ((L : Nat) : Int), tr := x.tr }) := Bx;replace E := E.step1 Ea Mut.head;refine rnx (zi (mvx rfl (za rfl (zz en93 rfl ((trim_any _ ga _ hlz2 (by show (if 800 ≤ t.nd + L then 800 else t.nd + L) ≤ 800; split <;> omega) Ba).mono ?_)))))
      rintro e w23 ⟨rfl, hB, hE⟩;refine ⟨_, rfl, ?_⟩;replace Ba := hB;clear hB;replace E := E.step1 hE Mut.head;clear hE;refine yf (ztz rfl ?_);exact ⟨rfl, by unfold vj; rw [← hx, ← hL]; exact Ba, (LW.step E XLW)⟩
end
end Go.Proofs.YtmjbnhjgebjhlaaDoor
namespace Go.Proofs.YtmjbnhjgebjhlaaDoor
open Go.RowKit
set_option maxRecDepth 100000
attribute [local irreducible] OW RS
theorem shrD_one {t : Dec} {k : Nat} (h : k ≤ 60) : shrD t k = jc t k := by
 unfold shrD shA;rw [qe (done := zjq) (step := zsz) (s := ⟨t, k⟩) (decide_eq_true h)]
theorem mul10w (n : Nat) : IntKind.u64.wrap (((n : Nat) : Int) * 10) = ((n * 10 % 18446744073709551616 : Nat) : Int) := by
 have e : ((n : Nat) : Int) * 10 = ((n * 10 : Nat) : Int) := by omega
 rw [e]; exact wrap_mod _
theorem addw (n m : Nat) : IntKind.u64.wrap (((n : Nat) : Int) + ((m : Nat) : Int)) = (((n + m) % 18446744073709551616 : Nat) : Int) := by
 have e : ((n : Nat) : Int) + ((m : Nat) : Int) = ((n + m : Nat) : Int) := by omega
 rw [e]; exact wrap_mod _
theorem par_ne (c : Nat) : ((.bool (((c : Nat) : Int) % 2 != 0)) : Value) = .bool (decide (c % 2 ≠ 0)) := by
 congr 1
 by_cases h : c % 2 = 0
 · rw [decide_eq_false (fun e => e h), show ((c : Nat) : Int) % 2 = 0 by omega]; rfl
 · rw [decide_eq_true h]; exact bne_iff_ne.2 (by omega)
section
variable (w : World) {bp op cp bf of cf bl ol cl : Nat}
theorem shiftL_any (ga k : Nat) (t : Dec) (hk : Shl k) (ht : DecI t) (h0 : 0 < t.nd) (hdp : -20000000 ≤ t.dp ∧ t.dp ≤ 20000000) (hB : Blk w ga 125 (yz t)) (hT : Tabs bp op cp bf of cf bl ol cl w) (hg : TabsB bp bf bl ga) :
 Calls Tryd.prog 78 #[.pointer (some ⟨ga, 0, none⟩), .int .i64 ((k : Nat) : Int)] w fun e w' => e = .returned (.tuple #[]) ∧ Blk w' ga 125 (yz (vj t k)) ∧ Ext (Mut [some ga]) w w' := by
 have hl := ht.len;have hk60 := (shl_ok hk).k1;refine yl Tryd.func78 rfl Tryd.ntmps78 rfl ?_;have Ba := hB;have HF : Per (Mut [(some ga)]) w (fun _ => True) := Per.true_;have LW := erx (Mut [(some ga)]) w;have XLW := grx (Mut [(some ga)]) w;have E := erx (Mut [(some ga)]) w;replace HF := HF.on E;replace LW := LW.step E XLW;replace E := erx (Mut [(some ga)]) w
 replace HF := HF.and (Per.tabsB hT hg (fun q h => h.elim (fun e => Nat.le_of_eq (Option.some.inj e).symm) (fun e => e.elim)))
 refine zx (srx (mvx rfl (za rfl (zk rfl (za rfl (zb Tryd.underlying125 rfl sz3 (by decide) rfl (za rfl (zl Tryd.underlying3 rfl rfl Ba (xj hl t.nd rfl) (za rfl (ye rfl rfl (anx rfl (zu 4 (.bool false) rfl ((by rw [vy (by omega)] : (.bool (((t.nd : Nat) : Int) == 0) : Value) = _)) (zy rfl (srx (mvx rfl (za rfl (qq rfl rfl (anx rfl (zu 10 (.bool true) rfl ((by rw [decide_eq_true (by omega)] : (.bool (decide (0 < ((k : Nat) : Int))) : Value) = _)) (yi rfl (zf (zx (cw_unroll (zf (srx (mvx rfl (za rfl (qq rfl rfl (rnx (zu 14 (.bool false) rfl ((by rw [decide_eq_false (by omega)] : (.bool (decide (60 < ((k : Nat) : Int))) : Value) = _)) (zy rfl (yn (zg (zg (zv (ze (zi ?_)))))))))))))))))))))))))))))))))))))
 refine mvx rfl (mvx rfl (za rfl (ja Tryd.underlying88 Tryd.underlying3 rfl (wrap_u64 (by omega)) (za rfl (zz en86 rfl ((left_any _ ga k t hk ht h0 hdp Ba (HF.on E).here.2 hg).mono ?_))))));rintro e w1 ⟨rfl, hB, hE⟩;refine ⟨_, rfl, ?_⟩;replace Ba := hB;clear hB;replace E := E.step1 hE Mut.head;clear hE;refine yf (zm (ztz rfl ?_))
 exact ⟨rfl, Ba, (LW.step E XLW)⟩
theorem shiftR_any (ga k : Nat) (t : Dec) (h : ShI ⟨t, k⟩) (hB : Blk w ga 125 (yz t)) :
 Calls Tryd.prog 78 #[.pointer (some ⟨ga, 0, none⟩), .int .i64 (-((k : Nat) : Int))] w fun e w' => e = .returned (.tuple #[]) ∧ Blk w' ga 125 (yz (shrD t k)) ∧ Ext (Mut [some ga]) w w' := by
 have hl : t.d.length = 800 := h.dec.len;have h0 : 0 < t.nd := h.pos;have hk1 : 1 ≤ k ∧ k ≤ 300000 := h.k1;refine yl Tryd.func78 rfl Tryd.ntmps78 rfl ?_;have Ba := hB;have LW := erx (Mut [(some ga)]) w;have XLW := grx (Mut [(some ga)]) w;have E := erx (Mut [(some ga)]) w
 refine zx (srx (mvx rfl (za rfl (zk rfl (za rfl (zb Tryd.underlying125 rfl sz3 (by decide) rfl (za rfl (zl Tryd.underlying3 rfl rfl Ba (xj hl t.nd rfl) (za rfl (ye rfl rfl (anx rfl (zu 4 (.bool false) rfl ((by rw [vy (by omega)] : (.bool (((t.nd : Nat) : Int) == 0) : Value) = _)) (zy rfl (srx (mvx rfl (za rfl (qq rfl rfl (anx rfl (zu 10 (.bool false) rfl ((by rw [decide_eq_false (by omega)] : (.bool (decide (0 < (-((k : Nat) : Int)))) : Value) = _)) (zy rfl (srx (mvx rfl (za rfl (yt rfl rfl (anx rfl (zu 23 (.bool true) rfl ((by rw [decide_eq_true (by omega)] : (.bool (decide ((-((k : Nat) : Int)) < 0)) : Value) = _)) (yi rfl (zf ?_))))))))))))))))))))))))))))
 replace LW := LW.step E XLW;replace E := erx (Mut [(some ga)]) w;refine qd (ι := ShS) (fun s => [(0, .pointer (some ⟨ga, 0, none⟩)), (1, .int .i64 (-((s.k : Nat) : Int)))]) (fun s w' => Ext (Mut [(some ga)]) w w' ∧ Blk w' ga 125 (yz s.t) ∧ (s = shA t k)) ?_ ?_
 ·
  have M1 := erx (Mut [(some ga)]) w;have XM1 := grx (Mut [(some ga)]) w;refine zx ?_;replace M1 := M1.step E XM1;replace E := erx (Mut [(some ga)]) w
  refine qk (ι := ShS) (fun s => [(0, .pointer (some ⟨ga, 0, none⟩)), (1, .int .i64 (-((s.k : Nat) : Int)))]) (fun s w' => Ext (Mut [(some ga)]) w w' ∧ Blk w' ga 125 (yz s.t) ∧ (ShI s ∧ qv zjq zsz s = shA t k)) (fun s => s.k) (⟨t, k⟩) ⟨rfl, rfl, trivial⟩ ⟨Ext.refl _ _, (by exact Ba), h, rfl⟩ ?_;have LTa := (yj Ba.lt);clear Ba;rintro s w4 ⟨M3, Ba, ⟨hI, hu⟩⟩
  have XM3 : Gro (Mut [(some ga)]) (Mut [(some ga)]) w := (Mut.grow Mut.none_ (fun k e => Or.inl (Mut.head k e)));replace E := E.trans M3;replace M1 := M1.step E XM1;replace E := erx (Mut [(some ga)]) w4;have hk2 := hI.k1;have hdp2 := hI.dp;refine zf (srx (mvx rfl (za rfl (yt rfl rfl (rnx (zt rfl (fun h1 => ?_) (fun h1 => ?_)))))))
  ·
   have h1 : 60 < s.k := by have h1 := of_decide_eq_true h1; omega
   have hdone : zjq s = false := decide_eq_false (by omega);obtain ⟨hkeep, hlt⟩ := sh_keeps hI hdone;have hst : zsz s = ⟨jc s.t 60, s.k - 60⟩ := rfl;rw [vb hdone] at hu;rw [hst] at hu hkeep;refine zj (ze (zx (srx (mvx rfl (za rfl (zz en87 rfl ((right_any _ ga 60 s.t (by decide) hI.dec hI.pos (by omega) Ba).mono ?_)))))));rintro e w5 ⟨rfl, hB, hE⟩
   refine ⟨_, rfl, ?_⟩;replace Ba := hB;clear hB;replace E := E.step1 hE Mut.head;clear hE;refine rnx (zi (mvx rfl (za rfl (yg rfl rfl (zo (by omega)) (avx rfl (yf (zm (yr 1 (.int .i64 (-((s.k - 60 : Nat) : Int))) rfl ((by congr 1; omega : (.int .i64 ((-((s.k : Nat) : Int)) + 60) : Value) = _)) ?_))))))))
   exact ym (⟨jc s.t 60, s.k - 60⟩) (by show s.k - 60 < s.k; omega) ⟨rfl, rfl, trivial⟩ ⟨M3.step E XM3, (by exact Ba), hkeep, hu⟩
  ·
   have h1 : s.k ≤ 60 := by have h1 := of_decide_eq_false h1; omega
   have hdone : zjq s = true := decide_eq_true h1;rw [qe hdone] at hu;refine yn (zg (zg (zv ?_)));exact yp s ⟨rfl, rfl, trivial⟩ ⟨M1.step E XM1, (by exact Ba), hu⟩
 ·
  have LTa := (yj Ba.lt);clear Ba;rintro s w2 ⟨M1, Ba, hs⟩;replace E := E.trans M1;replace LW := LW.step E XLW;replace E := erx (Mut [(some ga)]) w2;obtain ⟨hE0, hd0⟩ := sh_ends h;rw [← hs] at hE0 hd0;have hd0 : s.k ≤ 60 := of_decide_eq_true hd0;have hk2 := hE0.k1;have hdp2 := hE0.dp
  refine zi (mvx rfl (mvx rfl (za rfl (zkq rfl (zo (by omega)) (za rfl (ja Tryd.underlying88 Tryd.underlying3 rfl (wrap_u64 (by omega)) (yd 35 (.int .u64 ((s.k : Nat) : Int)) rfl ((by congr 1; omega : (.int .u64 (0 - (-((s.k : Nat) : Int))) : Value) = _)) (za rfl (zz en87 rfl ((right_any _ ga s.k s.t (by omega) hE0.dec hE0.pos (by omega) Ba).mono ?_))))))))))
  rintro e w6 ⟨rfl, hB, hE⟩;refine ⟨_, rfl, ?_⟩;replace Ba := hB;clear hB;replace E := E.step1 hE Mut.head;clear hE;refine yf (zm (ztz rfl ?_));exact ⟨rfl, by unfold shrD; rw [← hs]; exact Ba, (LW.step E XLW)⟩
theorem rup_any (ga : Nat) (t : Dec) (p : Int) (ht : DecI t) (hp : -20000000 ≤ p ∧ p ≤ 20000000) (hB : Blk w ga 125 (yz t)) :
 Calls Tryd.prog 88 #[.pointer (some ⟨ga, 0, none⟩), .int .i64 p] w fun e w' => e = .returned (.bool (rup t p)) ∧ Below w.heap.size w w' := by
 have hl := ht.len;have hnd := ht.hn;refine yl Tryd.func88 rfl Tryd.ntmps88 rfl ?_;have HF : Per (No) w (fun _ => True) := Per.true_;have LW := erx (No) w;have XLW := grx (No) w;have E := erx (No) w;replace HF := HF.on E;replace LW := LW.step E XLW;replace E := erx (No) w;replace HF := HF.and (Per.blk hB (fun h => h.elim))
 refine srx (anx rfl (zf (srx (mvx rfl (za rfl (yt rfl rfl (mvx rfl (yo 7 rfl (fun h1 => ?_) (fun h1 => ?_)))))))))
 ·
  have h1 := of_decide_eq_true h1;have e : rup t p = false := by unfold rup; rw [if_pos (.inl h1)]
  refine za rfl (zc rfl (za rfl (zc rfl (za rfl (zc rfl (za rfl (zc rfl (za rfl (zc rfl (za rfl (zc rfl (za rfl (zw rfl rfl (rnx (yi rfl (srx (anx rfl (zr (zd (zp (rs := [.tmp 4]) (vs := [_]) rfl ⟨rfl, trivial⟩ ?_))))))))))))))))))));exact ⟨by rw [e]; rfl, (LW.step E XLW).toBelow⟩
 ·
  have h1 := of_decide_eq_false h1;refine onx rfl (zq rfl (onx rfl (zq rfl (onx rfl (zk rfl (onx rfl (zb Tryd.underlying125 rfl sz3 (by decide) rfl (onx rfl (zl Tryd.underlying3 rfl rfl (HF.on E).here.2 (xj hl t.nd rfl) (onx rfl (vr rfl rfl (za rfl (ya rfl rfl (rnx (zt rfl (fun h2 => ?_) (fun h2 => ?_))))))))))))))))
  ·
   have h2 := of_decide_eq_true h2;have e : rup t p = false := by unfold rup; rw [if_pos (.inr h2)]
   refine srx (anx rfl (zr (zd (zp (rs := [.tmp 4]) (vs := [_]) rfl ⟨rfl, trivial⟩ ?_))));exact ⟨by rw [e]; rfl, (LW.step E XLW).toBelow⟩
  ·
   have h2 := of_decide_eq_false h2;have hno : ¬ (p < 0 ∨ ((t.nd : Nat) : Int) ≤ p) := by omega
   have hg := ht.dig p.toNat (by omega)
   refine zj (ze (zf (srx (mvx rfl (mvx rfl (za rfl (zk rfl (za rfl (zb Tryd.underlying125 rfl xn (by decide) rfl (za rfl (qo (j := p.toNat) Tryd.underlying123 sz5 rfl rfl (by omega) (by omega) (za rfl (zl Tryd.underlying5 rfl rfl (HF.on E).here.2 (dAt hl (dg t.d (p.toNat)) (p.toNat) rfl (by omega)) (za rfl (ye rfl rfl (mvx rfl (yo 22 rfl (fun h3 => ?_) (fun h3 => ?_))))))))))))))))))
   ·
    have h3 : dg t.d p.toNat = 53 := by have h3 := eq_of_beq h3; omega
    refine onx rfl (zq rfl (onx rfl (yg rfl rfl (zo (by omega)) (onx rfl (zq rfl (onx rfl (zk rfl (onx rfl (zb Tryd.underlying125 rfl sz3 (by decide) rfl (onx rfl (zl Tryd.underlying3 rfl rfl (HF.on E).here.2 (xj hl t.nd rfl) (onx rfl (ye rfl rfl (za rfl (zw rfl rfl (rnx (zt rfl (fun h4 => ?_) (fun h4 => ?_))))))))))))))))))
    ·
     have h4 : p + 1 = ((t.nd : Nat) : Int) := eq_of_beq h4;have e0 : rup t p = (if t.tr then true else if 0 < p then decide ((dg t.d (p.toNat - 1) - 48) % 2 ≠ 0) else false) := by unfold rup; rw [if_neg hno, if_pos ⟨h3, h4⟩]
     refine zf (srx (mvx rfl (za rfl (zk rfl (za rfl (zb Tryd.underlying125 rfl sz4 (by decide) rfl (za rfl (zl Tryd.underlying4 rfl rfl (HF.on E).here.2 (trAt hl t.tr rfl) (rnx (zt rfl (fun h5 => ?_) (fun h5 => ?_)))))))))))
     ·
      have e : rup t p = true := by rw [e0, if_pos h5]
      refine srx (anx rfl (zr (zd (zd (zp (rs := [.tmp 4]) (vs := [_]) rfl ⟨rfl, trivial⟩ ?_)))));exact ⟨by rw [e]; rfl, (LW.step E XLW).toBelow⟩
     ·
      refine zj (ze (srx (mvx rfl (za rfl (qq rfl rfl (mvx rfl (yo 37 rfl (fun h6 => ?_) (fun h6 => ?_))))))))
      ·
       have h6 := of_decide_eq_true h6;have hg2 := ht.dig (p.toNat - 1) (by omega);have e : rup t p = decide ((dg t.d (p.toNat - 1) - 48) % 2 ≠ 0) := by rw [e0, if_neg (by rw [h5]; decide), if_pos h6]
       refine onx rfl (zq rfl (onx rfl (zq rfl (onx rfl (yw rfl rfl (zo (by omega)) (onx rfl (zk rfl (onx rfl (zb Tryd.underlying125 rfl xn (by decide) rfl (onx rfl (qo (j := p.toNat - 1) Tryd.underlying123 sz5 rfl rfl (by omega) (by omega) (onx rfl (zl Tryd.underlying5 rfl rfl (HF.on E).here.2 (dAt hl (dg t.d (p.toNat - 1)) (p.toNat - 1) rfl (by omega)) (onx rfl (yw rfl rfl (xx (by omega)) (yd 45 (.int .u8 ((dg t.d (p.toNat - 1) - 48 : Nat) : Int)) rfl ((by congr 1; omega : (.int .u8 (((dg t.d (p.toNat - 1) : Nat) : Int) - 48) : Value) = _)) (onx rfl (ow_rem rfl rfl (by decide) (Int.tmod_eq_emod_of_nonneg (by omega)) (onx rfl (qn rfl rfl (za rfl (zw rfl rfl (anx rfl (zr (zd (yr 4 (.bool (decide ((dg t.d (p.toNat - 1) - 48) % 2 ≠ 0))) rfl (par_ne _) (zp (rs := [.tmp 4]) (vs := [_]) rfl ⟨rfl, trivial⟩ ?_)))))))))))))))))))))))))))
       exact ⟨by rw [e]; rfl, (LW.step E XLW).toBelow⟩
      ·
       have h6 := of_decide_eq_false h6;have e : rup t p = false := by rw [e0, if_neg (by rw [h5]; decide), if_neg h6]
       refine za rfl (zc rfl (za rfl (zc rfl (za rfl (zc rfl (za rfl (zc rfl (za rfl (zc rfl (za rfl (zc rfl (za rfl (zc rfl (za rfl (zc rfl (za rfl (zc rfl (za rfl (zc rfl (za rfl (ya rfl rfl (anx rfl (zr (zd (zp (rs := [.tmp 4]) (vs := [_]) rfl ⟨rfl, trivial⟩ ?_)))))))))))))))))))))))))
       exact ⟨by rw [e]; rfl, (LW.step E XLW).toBelow⟩
    ·
     have h4 : ¬ p + 1 = ((t.nd : Nat) : Int) := fun e => absurd h4 (by rw [e]; simp);have e : rup t p = decide (53 ≤ dg t.d p.toNat) := by unfold rup; rw [if_neg hno, if_neg (fun h => h4 h.2)]
     refine zj (ze (srx (mvx rfl (mvx rfl (za rfl (zk rfl (za rfl (zb Tryd.underlying125 rfl xn (by decide) rfl (za rfl (qo (j := p.toNat) Tryd.underlying123 sz5 rfl rfl (by omega) (by omega) (za rfl (zl Tryd.underlying5 rfl rfl (HF.on E).here.2 (dAt hl (dg t.d (p.toNat)) (p.toNat) rfl (by omega)) (za rfl (vr rfl rfl (anx rfl (zr (yr 4 (.bool (decide (53 ≤ dg t.d p.toNat))) rfl (kb (by omega)) (zp (rs := [.tmp 4]) (vs := [_]) rfl ⟨rfl, trivial⟩ ?_))))))))))))))))))
     exact ⟨by rw [e]; rfl, (LW.step E XLW).toBelow⟩
   ·
    have h3 : ¬ dg t.d p.toNat = 53 := fun e => absurd h3 (by rw [e]; decide);have e : rup t p = decide (53 ≤ dg t.d p.toNat) := by unfold rup; rw [if_neg hno, if_neg (fun h => h3 h.1)]
    refine za rfl (zc rfl (za rfl (zc rfl (za rfl (zc rfl (za rfl (zc rfl (za rfl (zc rfl (za rfl (zc rfl (za rfl (zc rfl (za rfl (ya rfl rfl (rnx (zy rfl (zj (ze (srx (mvx rfl (mvx rfl (za rfl (zk rfl (za rfl (zb Tryd.underlying125 rfl xn (by decide) rfl (za rfl (qo (j := p.toNat) Tryd.underlying123 sz5 rfl rfl (by omega) (by omega) (za rfl (zl Tryd.underlying5 rfl rfl (HF.on E).here.2 (dAt hl (dg t.d (p.toNat)) (p.toNat) rfl (by omega)) (za rfl (vr rfl rfl (anx rfl (zr (yr 4 (.bool (decide (53 ≤ dg t.d p.toNat))) rfl (kb (by omega)) (zp (rs := [.tmp 4]) (vs := [_]) rfl ⟨rfl, trivial⟩ ?_))))))))))))))))))))))))))))))))))))
    exact ⟨by rw [e]; rfl, (LW.step E XLW).toBelow⟩
theorem rinteger_any (ga : Nat) (t : Dec) (ht : DecI t) (hp : -20000000 ≤ t.dp ∧ t.dp ≤ 20000000) (hB : Blk w ga 125 (yz t)) :
 Calls Tryd.prog 79 #[.pointer (some ⟨ga, 0, none⟩)] w fun e w' => e = .returned (.int .u64 ((kk t : Nat) : Int)) ∧ Below w.heap.size w w' := by
 have hl := ht.len;have hnd := ht.hn;refine yl Tryd.func79 rfl Tryd.ntmps79 rfl ?_;have HF : Per (No) w (fun _ => True) := Per.true_;have LW := erx (No) w;have XLW := grx (No) w;have E := erx (No) w;replace HF := HF.on E;replace LW := LW.step E XLW;replace E := erx (No) w;replace HF := HF.and (Per.blk hB (fun h => h.elim))
 refine srx (anx rfl (zf (srx (mvx rfl (za rfl (zk rfl (za rfl (zb Tryd.underlying125 rfl sz3 (by decide) rfl (za rfl (zl Tryd.underlying3 rfl rfl (HF.on E).here.2 (zlq hl t.dp rfl) (za rfl (qq rfl rfl (rnx (zt rfl (fun h1 => ?_) (fun h1 => ?_)))))))))))))))
 ·
  have h1 := of_decide_eq_true h1;have e : kk t = 18446744073709551615 := by unfold kk; rw [if_pos h1]
  refine srx (anx rfl (zr (zd (zp (rs := [.tmp 2]) (vs := [_]) rfl ⟨rfl, trivial⟩ ?_))));exact ⟨by rw [e]; rfl, (LW.step E XLW).toBelow⟩
 ·
  have h1 := of_decide_eq_false h1;have hp20 : t.dp ≤ 20 := by omega
  refine zj (ze (srx (anx rfl (srx (anx rfl (zf (srx (anx rfl ?_))))))));replace HF := HF.on E;replace LW := LW.step E XLW;replace E := erx (No) w;refine qd (ι := RsS) (fun s => [(0, .pointer (some ⟨ga, 0, none⟩)), (3, .int .i64 ((s.r : Nat) : Int)), (4, .int .u64 ((s.n : Nat) : Int))]) (fun s w' => Ext (No) w w' ∧ (s = riA t)) ?_ ?_
  ·
   have M1 := erx (No) w;have XM1 := grx (No) w;refine zx ?_;replace HF := HF.on E;replace M1 := M1.step E XM1;replace E := erx (No) w
   refine qk (ι := RsS) (fun s => [(0, .pointer (some ⟨ga, 0, none⟩)), (3, .int .i64 ((s.r : Nat) : Int)), (4, .int .u64 ((s.n : Nat) : Int))]) (fun s w' => Ext (No) w w' ∧ (RiI s ∧ qv (znq t) (zwx t) s = riA t)) (fun s => 20 - s.r) (⟨0, 0⟩) ⟨rfl, rfl, rfl, trivial⟩ ⟨Ext.refl _ _, ⟨Nat.zero_le _, by decide⟩, rfl⟩ ?_;rintro s w4 ⟨M3, ⟨hI, hu⟩⟩;have XM3 := grx (No) w
   replace E := E.trans M3;replace HF := HF.on E;replace M1 := M1.step E XM1;replace E := erx (No) w4;have hr := hI.hr;have hn := hI.hn
   refine zf (srx (mvx rfl (mvx rfl (za rfl (zk rfl (za rfl (zb Tryd.underlying125 rfl sz3 (by decide) rfl (za rfl (zl Tryd.underlying3 rfl rfl (HF.on E).here.2 (zlq hl t.dp rfl) (za rfl (yt rfl rfl (mvx rfl (yo 16 rfl (fun h2 => ?_) (fun h2 => ?_))))))))))))))
   ·
    have h2 := of_decide_eq_true h2;refine onx rfl (zq rfl (onx rfl (zq rfl (onx rfl (zk rfl (onx rfl (zb Tryd.underlying125 rfl sz3 (by decide) rfl (onx rfl (zl Tryd.underlying3 rfl rfl (HF.on E).here.2 (xj hl t.nd rfl) (onx rfl (yt rfl rfl (za rfl (zw rfl rfl (rnx (zt rfl (fun h3 => ?_) (fun h3 => ?_))))))))))))))))
    ·
     have h3 := of_decide_eq_true h3;have hdone : znq t s = false := decide_eq_false (fun h => h ⟨h2, by omega⟩);have hkeep := ycq hp20 hI hdone;have hst : zwx t s = ⟨s.r + 1, (s.n * 10 % 18446744073709551616 + (dg t.d s.r - 48)) % 18446744073709551616⟩ := rfl;have hg := ht.dig s.r (by omega);rw [vb hdone] at hu;rw [hst] at hu hkeep;have hk1 := hkeep.hr
     have hk1 : s.r + 1 ≤ 20 := hk1
     refine zj (ze (zf (zx (zi (mvx rfl (za rfl (gy rfl rfl (mul10w s.n) (mvx rfl (mvx rfl (za rfl (zk rfl (za rfl (zb Tryd.underlying125 rfl xn (by decide) rfl (za rfl (qo (j := s.r) Tryd.underlying123 sz5 rfl rfl (by omega) (by omega) (za rfl (zl Tryd.underlying5 rfl rfl (HF.on E).here.2 (dAt hl (dg t.d (s.r)) (s.r) rfl (by omega)) (za rfl (yw rfl rfl (xx (by omega)) (za rfl (ja Tryd.underlying30 Tryd.underlying5 rfl (wrap_u64 (by omega)) (yd 35 (.int .u64 ((dg t.d s.r - 48 : Nat) : Int)) rfl ((by congr 1; omega : (.int .u64 (((dg t.d (s.r) : Nat) : Int) - 48) : Value) = _)) (za rfl (yg rfl rfl (addw _ _) (avx rfl (yf (zm (ze (zi (mvx rfl (za rfl (yg rfl rfl (zo (by omega)) (avx rfl (yf ?_))))))))))))))))))))))))))))))))))
     exact ym (⟨s.r + 1, (s.n * 10 % 18446744073709551616 + (dg t.d s.r - 48)) % 18446744073709551616⟩) (by show 20 - (s.r + 1) < 20 - s.r; omega) ⟨rfl, rfl, rfl, trivial⟩ ⟨M3.step E XM3, hkeep, hu⟩
    ·
     have h3 := of_decide_eq_false h3;have hdone : znq t s = true := decide_eq_true (by omega);rw [qe hdone] at hu;refine yn (zg (zg (zv ?_)));exact yp s ⟨rfl, rfl, rfl, trivial⟩ ⟨M1.step E XM1, hu⟩
   ·
    have h2 := of_decide_eq_false h2;have hdone : znq t s = true := decide_eq_true (by omega);rw [qe hdone] at hu;refine za rfl (zc rfl (za rfl (zc rfl (za rfl (zc rfl (za rfl (zc rfl (za rfl (zc rfl (za rfl (zc rfl (za rfl (ya rfl rfl (rnx (zy rfl (yn (zg (zg (zv ?_)))))))))))))))))))
    exact yp s ⟨rfl, rfl, rfl, trivial⟩ ⟨M1.step E XM1, hu⟩
  ·
   rintro s w2 ⟨M1, hs⟩;replace E := E.trans M1;replace HF := HF.on E;replace LW := LW.step E XLW;replace E := erx (No) w2;have hA := riA_ends hp20;refine zf ?_;replace HF := HF.on E;replace LW := LW.step E XLW;replace E := erx (No) w2
   refine qd (ι := RsS) (fun x => [(0, .pointer (some ⟨ga, 0, none⟩)), (4, .int .u64 ((x.n : Nat) : Int))]) (fun x w' => Ext (No) w2 w' ∧ (x = riB t)) ?_ ?_
   ·
    have M5 := erx (No) w2;have XM5 := grx (No) w2;refine zx ?_;replace HF := HF.on E;replace M5 := M5.step E XM5;replace E := erx (No) w2
    refine qk (ι := RsS) (fun x => [(0, .pointer (some ⟨ga, 0, none⟩)), (3, .int .i64 ((x.r : Nat) : Int)), (4, .int .u64 ((x.n : Nat) : Int))]) (fun x w' => Ext (No) w2 w' ∧ (RiI x ∧ qv (zwz t) zvv x = riB t)) (fun x => 20 - x.r) s ⟨rfl, rfl, rfl, trivial⟩ ⟨Ext.refl _ _, by rw [hs]; exact hA, by rw [hs]; rfl⟩ ?_;rintro x w8 ⟨M7, ⟨hI, hu⟩⟩;have XM7 := grx (No) w2
    replace E := E.trans M7;replace HF := HF.on E;replace M5 := M5.step E XM5;replace E := erx (No) w8;have hr := hI.hr;have hn := hI.hn
    refine zf (srx (mvx rfl (mvx rfl (za rfl (zk rfl (za rfl (zb Tryd.underlying125 rfl sz3 (by decide) rfl (za rfl (zl Tryd.underlying3 rfl rfl (HF.on E).here.2 (zlq hl t.dp rfl) (za rfl (yt rfl rfl (rnx (zt rfl (fun h2 => ?_) (fun h2 => ?_))))))))))))))
    ·
     have h2 := of_decide_eq_true h2;have hdone : zwz t x = false := decide_eq_false (fun h => h h2);have hkeep := ycz hp20 hI hdone;have hst : zvv x = ⟨x.r + 1, x.n * 10 % 18446744073709551616⟩ := rfl;rw [vb hdone] at hu;rw [hst] at hu hkeep;have hk1 : x.r + 1 ≤ 20 := hkeep.hr
     refine zj (ze (zf (zx (zi (mvx rfl (za rfl (gy rfl rfl (mul10w x.n) (avx rfl (yf (zm (ze (zi (mvx rfl (za rfl (yg rfl rfl (zo (by omega)) (avx rfl (yf ?_)))))))))))))))))
     exact ym (⟨x.r + 1, x.n * 10 % 18446744073709551616⟩) (by show 20 - (x.r + 1) < 20 - x.r; omega) ⟨rfl, rfl, rfl, trivial⟩ ⟨M7.step E XM7, hkeep, hu⟩
    ·
     have h2 := of_decide_eq_false h2;have hdone : zwz t x = true := decide_eq_true h2;rw [qe hdone] at hu;refine yn (zg (zg (zv ?_)));exact yp x ⟨rfl, rfl, trivial⟩ ⟨M5.step E XM5, hu⟩
   ·
    rintro x w6 ⟨M5, hx⟩;replace E := E.trans M5;replace HF := HF.on E;replace LW := LW.step E XLW;replace E := erx (No) w6;have hB2 := (riB_ends hp20).hn
    refine zf (srx (mvx rfl (mvx rfl (za rfl (zk rfl (za rfl (zb Tryd.underlying125 rfl sz3 (by decide) rfl (za rfl (zl Tryd.underlying3 rfl rfl (HF.on E).here.2 (zlq hl t.dp rfl) (za rfl (zz en88 rfl ((rup_any _ ga t t.dp ht hp (HF.on E).here.2).mono ?_))))))))))));rintro e w9 ⟨rfl, hb⟩;refine ⟨_, rfl, ?_⟩;replace E := blx E hb
    refine rnx (zt rfl (fun h3 => ?_) (fun h3 => ?_))
    ·
     have e : kk t = ((riB t).n + 1) % 18446744073709551616 := by unfold kk; rw [if_neg h1, if_pos h3]
     refine zi (mvx rfl (za rfl (yg rfl rfl (addw x.n 1) (anx rfl (srx (mvx rfl (anx rfl (zr (zp (rs := [.tmp 2]) (vs := [_]) rfl ⟨rfl, trivial⟩ ?_)))))))));exact ⟨by rw [e, ← hx]; rfl, (LW.step E XLW).toBelow⟩
    ·
     have e : kk t = (riB t).n := by unfold kk; rw [if_neg h1, if_neg (by rw [h3]; decide)]
     refine zj (ze (srx (mvx rfl (anx rfl (zr (zp (rs := [.tmp 2]) (vs := [_]) rfl ⟨rfl, trivial⟩ ?_))))));exact ⟨by rw [e, ← hx]; rfl, (LW.step E XLW).toBelow⟩
end
end Go.Proofs.YtmjbnhjgebjhlaaDoor

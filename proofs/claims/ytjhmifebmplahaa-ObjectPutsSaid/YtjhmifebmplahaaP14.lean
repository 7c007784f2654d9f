/- Texts of this claim. -/
import Derived.Test.YtjhmifebmplahaaP13
import Derived.WalkKit
import Derived.Lib.Mul64
import Derived.Laws.Bits64b
import Derived.BigQuiet
import Derived.Deep.QuietTactic
import Derived.Lib.Hide
import Derived.Laws.Externs
import Derived.Deep.DeepCutAuto
import Derived.Deep.CutBlock
import Derived.Test.YtjhmifebmplahaaRows
namespace Go.Proofs.Ytjhmifebmplahaa
open Go.RowKit Go.Lib
namespace M64
end M64
set_option maxRecDepth 100000
set_option maxRecDepth 100000
end Go.Proofs.Ytjhmifebmplahaa
namespace Go.Proofs.Ytjhmifebmplahaa
open Go.RowKit
def ThreeB (w : World) (n1 n2 : Bool) (A B : Option Addr) (c d : Nat) (xs ys : List Nat) (b : World) : Prop :=
 Two w n1 n2 A B c d xs ys b ∧ (b.cell? ⟨w.heap.size + 1 + 1, 0, none⟩ = some (.bool false) ∧ b.cell? ⟨w.heap.size + 1 + 1, 1, none⟩ = some (.slice none 0 0) ∧ b.frozen? ⟨w.heap.size + 1 + 1, 0, none⟩ = false ∧ b.frozen? ⟨w.heap.size + 1 + 1, 1, none⟩ = false)
def threeB (w : World) (n1 n2 : Bool) (A B : Option Addr) (c d : Nat) (xs ys : List Nat) : World := (two w n1 n2 A B c d xs ys).alloc (.cells #[.bool false, .slice none 0 0] 26)
section
variable (n1 n2 : Bool) (A B : Option Addr) (c d : Nat) (xs ys : List Nat) (w : World)
set_option maxRecDepth 100000
end
section
variable {i j : Int} (A B : Option Addr) (c d : Nat) (w : World) (hi : i.natAbs < B18 ^ 30) (hj : j.natAbs < B18 ^ 30) (hx : Nums w A (limbs i)) (hy : Nums w B (limbs j))
include hi
include hx
include hj hy
end
set_option maxRecDepth 100000
structure PV where
 k : Int
 yes : Bool
 neg : Bool
 xs : List Nat
 bits : Nat
 s : ByteArray
 ni : Nat
structure PVp where
 a : Option Addr
 c : Nat
 b : Option Addr
 d : Nat
def PV.cells (v : PV) (p : PVp) : List Value := [.int .i64 v.k, .bool v.yes, .bool v.neg, .slice p.a v.xs.length p.c, .int .u64 ((v.bits : Nat) : Int), .string v.s, .slice p.b v.ni p.d]
def PV.val (v : PV) (p : PVp) : Value := .agg #[.int .i64 v.k, .bool v.yes, .bool v.neg, .slice p.a v.xs.length p.c, .int .u64 ((v.bits : Nat) : Int), .string v.s, .slice p.b v.ni p.d]
def PV.good (v : PV) : Bool :=
 decide (v.ni = 0) && (if v.k = 0 then !v.yes && (!v.neg && decide (v.xs.length = 0)) && decide (v.bits = 0) && (v.s.toList == (⟨#[]⟩ : ByteArray).toList)
  else if v.k = 1 then (!v.neg && decide (v.xs.length = 0)) && decide (v.bits = 0) && (v.s.toList == (⟨#[]⟩ : ByteArray).toList)
  else if v.k = 2 then vw v.neg v.xs && !v.yes && decide (v.bits = 0) && (v.s.toList == (⟨#[]⟩ : ByteArray).toList)
  else if v.k = 3 then (!v.neg && decide (v.xs.length = 0)) && !v.yes && (v.s.toList == (⟨#[]⟩ : ByteArray).toList)
  else if v.k = 4 then (!v.neg && decide (v.xs.length = 0)) && !v.yes && decide (v.bits = 0) && decide (v.s.size ≤ 20000)
  else false)
structure PVA (n : Nat) (w : World) (v : PV) (p : PVp) : Prop where
 k : I64 v.k
 bits : U64 v.bits
 limbs : WordsA n w p.a v.xs
end Go.Proofs.Ytjhmifebmplahaa
namespace Go.Proofs.Ytjhmifebmplahaa
open Go.RowKit
set_option maxRecDepth 100000
attribute [local irreducible] OW RS
theorem gr0 {n : Nat} (h : 0 < n) : n ≠ 0 := by omega
theorem gc {s : ByteArray} (h : s.toList = []) : s.size = 0 := by
 have h1 := congrArg List.length h;rw [ByteArray.toList_eq] at h1;exact h1
section
variable (w : World) (k : Int) (yes neg : Bool) (A B : Option Addr) (xs : List Nat) (c bits ni d : Nat) (s : ByteArray) (hx : Nums w A xs) (hl : xs.length ≤ 9223372036854775807)
include hx hl
set_option maxHeartbeats 2000000 in
theorem pgood_any : Calls Try.prog 30 #[.agg #[.int .i64 k, .bool yes, .bool neg, .slice A xs.length c, .int .u64 ((bits : Nat) : Int), .string s, .slice B ni d]] w fun e w' => e = .returned (.bool (PV.good ⟨k, yes, neg, xs, bits, s, ni⟩)) ∧ Below w.heap.size w w' := by
 refine yc Try.func30 rfl Try.ntmps30 rfl ?_;have HF : Per (No) w (fun _ => True) := Per.true_;have LW := erx (No) w;have XLW := grx (No) w;have E := erx (No) w;replace HF := HF.on E;replace LW := LW.step E XLW;replace E := erx (No) w;replace HF := HF.and (Per.nums0 hx);refine srx (za rfl (qh rfl ?_));intro gb1 w2 Bb1 Eb1 Gb1;have Gb1 : _ ≤ gb1 := Nat.le_trans E.size Gb1
 have GLb1 := Nat.le_trans LW.size Gb1;replace E := E.trans Eb1.no;replace HF := HF.cons (vn Gb1);replace E := E.cons (some gb1);replace XLW := Mut.grow XLW (fun k e => Or.inr (Nat.le_trans LW.size ((vn Gb1) k e)));replace HF := HF.on E;replace LW := LW.step E XLW;have SB : ∀ q9, No q9 → Mut [(some gb1)] q9 := (Mut.skip Mut.nil_);replace HF := HF.less SB
 replace XLW := fun k h => XLW k (SB k h);clear SB;replace E := erx (No) w2;replace HF := HF.and (Per.blkN Bb1 NotIn.nil)
 refine anx rfl (zm (srx (za rfl (zc Try.underlying30 rfl sz28 (by decide) rfl (za rfl (ze Try.underlying28 rfl rfl (HF.on E).here.2 rfl (za rfl (yq Try.underlying28 rfl (za rfl (yy rfl rfl (rnx (yl rfl (fun h1 => ?_) (fun h1 => ?_)))))))))))))
 ·
  refine ye 7 (.bool true) rfl (congrArg Value.bool h1) ?_;replace h1 := of_decide_eq_true h1;refine srx (anx rfl (zl (zf (zk (rs := [.tmp 2]) (vs := [_]) rfl ⟨rfl, trivial⟩ ?_))));exact ⟨by refine congrArg (fun z => Ending.returned (.bool z)) ?_; first | (simp_all [PV.good, gr0]; done) | (simp_all [PV.good, gr0]; omega), (LW.step E XLW).toBelow⟩
 ·
  refine ye 7 (.bool false) rfl (congrArg Value.bool h1) ?_;replace h1 := of_decide_eq_false h1
  refine zo (zi (srx (za rfl (zc Try.underlying30 rfl jn (by decide) rfl (za rfl (zc Try.underlying26 rfl sz4 (by decide) rfl (za rfl (ze Try.underlying4 rfl rfl (HF.on E).here.2 rfl (za rfl (qd rfl (mvx rfl (yt 12 rfl (fun h2 => ?_) (fun h2 => ?_)))))))))))))
  ·
   refine onx rfl (zc Try.underlying30 rfl jn (by decide) rfl (onx rfl (zc Try.underlying26 rfl qy (by decide) rfl (onx rfl (ze Try.underlying22 rfl rfl (HF.on E).here.2 rfl (onx rfl (yq Try.underlying22 rfl (onx rfl (yr rfl rfl (za rfl (zu rfl rfl (anx rfl (zm (srx (za rfl (zc Try.underlying30 rfl sz3 (by decide) rfl (za rfl (ze Try.underlying3 rfl rfl (HF.on E).here.2 rfl (rnx (yk (srx (za rfl (yr rfl rfl (anx rfl (yl rfl (fun h3 => ?_) (fun h3 => ?_))))))))))))))))))))))))))
   ·
    refine ye 21 (.bool true) rfl (congrArg Value.bool h3) ?_;replace h3 := eq_of_beq h3;subst h3;refine srx (za rfl (zc Try.underlying30 rfl sz4 (by decide) rfl (za rfl (ze Try.underlying4 rfl rfl (HF.on E).here.2 rfl (za rfl (qd rfl (mvx rfl (yt 26 rfl (fun h4 => ?_) (fun h4 => ?_)))))))))
    ·
     refine onx rfl (zj rfl (za rfl (zu rfl rfl (mvx rfl (yt 29 rfl (fun h5 => ?_) (fun h5 => ?_))))))
     ·
      replace h5 := eq_of_beq h5;refine onx rfl (zc Try.underlying30 rfl qk (by decide) rfl (onx rfl (ze Try.underlying27 rfl rfl (HF.on E).here.2 rfl (onx rfl (yr rfl rfl (za rfl (zu rfl rfl (mvx rfl (yt 34 rfl (fun h6 => ?_) (fun h6 => ?_))))))))))
      ·
       replace h6 := eq_of_beq h6;refine onx rfl (zc Try.underlying30 rfl sz9 (by decide) rfl (onx rfl (ze Try.underlying9 rfl rfl (HF.on E).here.2 rfl (onx rfl (zex rfl rfl (za rfl (zu rfl rfl (anx rfl (zl (zn (zf (zk (rs := [.tmp 2]) (vs := [_]) rfl ⟨rfl, trivial⟩ ?_))))))))))))
       exact ⟨by refine congrArg (fun z => Ending.returned (.bool z)) ?_; first | (simp_all [PV.good, gr0]; done) | (simp_all [PV.good, gr0]; omega), (LW.step E XLW).toBelow⟩
      ·
       replace h6 := beq_eq_false_iff_ne.1 h6;refine za rfl (zd rfl (za rfl (zd rfl (za rfl (zd rfl (za rfl (zh rfl rfl (anx rfl (zl (zn (zf (zk (rs := [.tmp 2]) (vs := [_]) rfl ⟨rfl, trivial⟩ ?_))))))))))))
       exact ⟨by refine congrArg (fun z => Ending.returned (.bool z)) ?_; first | (simp_all [PV.good, gr0]; done) | (simp_all [PV.good, gr0]; omega), (LW.step E XLW).toBelow⟩
     ·
      replace h5 := beq_eq_false_iff_ne.1 h5;refine za rfl (zd rfl (za rfl (zd rfl (za rfl (zd rfl (za rfl (zh rfl rfl (mvx rfl (za rfl (zd rfl (za rfl (zd rfl (za rfl (zd rfl (za rfl (zh rfl rfl (anx rfl (zl (zn (zf (zk (rs := [.tmp 2]) (vs := [_]) rfl ⟨rfl, trivial⟩ ?_)))))))))))))))))))))
      exact ⟨by refine congrArg (fun z => Ending.returned (.bool z)) ?_; first | (simp_all [PV.good, gr0]; done) | (simp_all [PV.good, gr0]; omega), (LW.step E XLW).toBelow⟩
    ·
     refine za rfl (zd rfl (za rfl (zh rfl rfl (mvx rfl (za rfl (zd rfl (za rfl (zd rfl (za rfl (zd rfl (za rfl (zh rfl rfl (mvx rfl (za rfl (zd rfl (za rfl (zd rfl (za rfl (zd rfl (za rfl (zh rfl rfl (anx rfl (zl (zn (zf (zk (rs := [.tmp 2]) (vs := [_]) rfl ⟨rfl, trivial⟩ ?_))))))))))))))))))))))))))
     exact ⟨by refine congrArg (fun z => Ending.returned (.bool z)) ?_; first | (simp_all [PV.good, gr0]; done) | (simp_all [PV.good, gr0]; omega), (LW.step E XLW).toBelow⟩
   ·
    refine ye 21 (.bool false) rfl (congrArg Value.bool h3) ?_;replace h3 := beq_eq_false_iff_ne.1 h3;refine srx (za rfl (yr rfl rfl (anx rfl (yl rfl (fun h7 => ?_) (fun h7 => ?_)))))
    ·
     refine ye 39 (.bool true) rfl (congrArg Value.bool h7) ?_;replace h7 := eq_of_beq h7;subst h7;refine srx (mvx rfl (mvx rfl (yt 42 rfl (fun h8 => ?_) (fun h8 => ?_))))
     ·
      replace h8 := eq_of_beq h8;refine onx rfl (zc Try.underlying30 rfl qk (by decide) rfl (onx rfl (ze Try.underlying27 rfl rfl (HF.on E).here.2 rfl (onx rfl (yr rfl rfl (za rfl (zu rfl rfl (mvx rfl (yt 47 rfl (fun h9 => ?_) (fun h9 => ?_))))))))))
      ·
       replace h9 := eq_of_beq h9;refine onx rfl (zc Try.underlying30 rfl sz9 (by decide) rfl (onx rfl (ze Try.underlying9 rfl rfl (HF.on E).here.2 rfl (onx rfl (zex rfl rfl (za rfl (zu rfl rfl (anx rfl (zl (zn (zf (zk (rs := [.tmp 2]) (vs := [_]) rfl ⟨rfl, trivial⟩ ?_))))))))))))
       exact ⟨by refine congrArg (fun z => Ending.returned (.bool z)) ?_; first | (simp_all [PV.good, gr0]; done) | (simp_all [PV.good, gr0]; omega), (LW.step E XLW).toBelow⟩
      ·
       replace h9 := beq_eq_false_iff_ne.1 h9;refine za rfl (zd rfl (za rfl (zd rfl (za rfl (zd rfl (za rfl (zh rfl rfl (anx rfl (zl (zn (zf (zk (rs := [.tmp 2]) (vs := [_]) rfl ⟨rfl, trivial⟩ ?_))))))))))))
       exact ⟨by refine congrArg (fun z => Ending.returned (.bool z)) ?_; first | (simp_all [PV.good, gr0]; done) | (simp_all [PV.good, gr0]; omega), (LW.step E XLW).toBelow⟩
     ·
      replace h8 := beq_eq_false_iff_ne.1 h8;refine za rfl (zd rfl (za rfl (zd rfl (za rfl (zd rfl (za rfl (zh rfl rfl (mvx rfl (za rfl (zd rfl (za rfl (zd rfl (za rfl (zd rfl (za rfl (zh rfl rfl (anx rfl (zl (zn (zf (zk (rs := [.tmp 2]) (vs := [_]) rfl ⟨rfl, trivial⟩ ?_)))))))))))))))))))))
      exact ⟨by refine congrArg (fun z => Ending.returned (.bool z)) ?_; first | (simp_all [PV.good, gr0]; done) | (simp_all [PV.good, gr0]; omega), (LW.step E XLW).toBelow⟩
    ·
     refine ye 39 (.bool false) rfl (congrArg Value.bool h7) ?_;replace h7 := beq_eq_false_iff_ne.1 h7;refine srx (za rfl (yr rfl rfl (anx rfl (yl rfl (fun h10 => ?_) (fun h10 => ?_)))))
     ·
      refine ye 52 (.bool true) rfl (congrArg Value.bool h10) ?_;replace h10 := eq_of_beq h10;subst h10;refine srx (za rfl (zc Try.underlying30 rfl jn (by decide) rfl (za rfl (xt Try.underlying26 rfl jn rfl (HF.on E).here.2 rfl rfl (za rfl (zp en51 rfl ((kd neg c _ A xs hl (HF.on E).here.1.2).mono ?_)))))));rintro e w3 ⟨rfl, hb⟩
      refine ⟨_, rfl, ?_⟩;replace E := blx E hb;refine mvx rfl (yt 57 rfl (fun h11 => ?_) (fun h11 => ?_))
      ·
       refine onx rfl (zc Try.underlying30 rfl sz4 (by decide) rfl (onx rfl (ze Try.underlying4 rfl rfl (HF.on E).here.2 rfl (onx rfl (qd rfl (za rfl (zu rfl rfl (mvx rfl (yt 62 rfl (fun h12 => ?_) (fun h12 => ?_))))))))))
       ·
        refine onx rfl (zc Try.underlying30 rfl qk (by decide) rfl (onx rfl (ze Try.underlying27 rfl rfl (HF.on E).here.2 rfl (onx rfl (yr rfl rfl (za rfl (zu rfl rfl (mvx rfl (yt 67 rfl (fun h13 => ?_) (fun h13 => ?_))))))))))
        ·
         replace h13 := eq_of_beq h13;refine onx rfl (zc Try.underlying30 rfl sz9 (by decide) rfl (onx rfl (ze Try.underlying9 rfl rfl (HF.on E).here.2 rfl (onx rfl (zex rfl rfl (za rfl (zu rfl rfl (anx rfl (zl (zn (zf (zk (rs := [.tmp 2]) (vs := [_]) rfl ⟨rfl, trivial⟩ ?_))))))))))))
         exact ⟨by refine congrArg (fun z => Ending.returned (.bool z)) ?_; first | (simp_all [PV.good, gr0]; done) | (simp_all [PV.good, gr0]; omega), (LW.step E XLW).toBelow⟩
        ·
         replace h13 := beq_eq_false_iff_ne.1 h13;refine za rfl (zd rfl (za rfl (zd rfl (za rfl (zd rfl (za rfl (zh rfl rfl (anx rfl (zl (zn (zf (zk (rs := [.tmp 2]) (vs := [_]) rfl ⟨rfl, trivial⟩ ?_))))))))))))
         exact ⟨by refine congrArg (fun z => Ending.returned (.bool z)) ?_; first | (simp_all [PV.good, gr0]; done) | (simp_all [PV.good, gr0]; omega), (LW.step E XLW).toBelow⟩
       ·
        refine za rfl (zd rfl (za rfl (zd rfl (za rfl (zd rfl (za rfl (zh rfl rfl (mvx rfl (za rfl (zd rfl (za rfl (zd rfl (za rfl (zd rfl (za rfl (zh rfl rfl (anx rfl (zl (zn (zf (zk (rs := [.tmp 2]) (vs := [_]) rfl ⟨rfl, trivial⟩ ?_)))))))))))))))))))))
        exact ⟨by refine congrArg (fun z => Ending.returned (.bool z)) ?_; first | (simp_all [PV.good, gr0]; done) | (simp_all [PV.good, gr0]; omega), (LW.step E XLW).toBelow⟩
      ·
       refine za rfl (zd rfl (za rfl (zd rfl (za rfl (zd rfl (za rfl (zh rfl rfl (mvx rfl (za rfl (zd rfl (za rfl (zd rfl (za rfl (zd rfl (za rfl (zh rfl rfl (mvx rfl (za rfl (zd rfl (za rfl (zd rfl (za rfl (zd rfl (za rfl (zh rfl rfl (anx rfl (zl (zn (zf (zk (rs := [.tmp 2]) (vs := [_]) rfl ⟨rfl, trivial⟩ ?_))))))))))))))))))))))))))))))
       exact ⟨by refine congrArg (fun z => Ending.returned (.bool z)) ?_; first | (simp_all [PV.good, gr0]; done) | (simp_all [PV.good, gr0]; omega), (LW.step E XLW).toBelow⟩
     ·
      refine ye 52 (.bool false) rfl (congrArg Value.bool h10) ?_;replace h10 := beq_eq_false_iff_ne.1 h10;refine srx (za rfl (yr rfl rfl (anx rfl (yl rfl (fun h14 => ?_) (fun h14 => ?_)))))
      ·
       refine ye 72 (.bool true) rfl (congrArg Value.bool h14) ?_;replace h14 := eq_of_beq h14;subst h14;refine srx (mvx rfl (mvx rfl (yt 75 rfl (fun h15 => ?_) (fun h15 => ?_))))
       ·
        replace h15 := eq_of_beq h15;refine onx rfl (zc Try.underlying30 rfl sz4 (by decide) rfl (onx rfl (ze Try.underlying4 rfl rfl (HF.on E).here.2 rfl (onx rfl (qd rfl (za rfl (zu rfl rfl (mvx rfl (yt 80 rfl (fun h16 => ?_) (fun h16 => ?_))))))))))
        ·
         refine onx rfl (zc Try.underlying30 rfl sz9 (by decide) rfl (onx rfl (ze Try.underlying9 rfl rfl (HF.on E).here.2 rfl (onx rfl (zex rfl rfl (za rfl (zu rfl rfl (anx rfl (zl (zn (zf (zk (rs := [.tmp 2]) (vs := [_]) rfl ⟨rfl, trivial⟩ ?_))))))))))))
         exact ⟨by refine congrArg (fun z => Ending.returned (.bool z)) ?_; first | (simp_all [PV.good, gr0]; done) | (simp_all [PV.good, gr0]; omega), (LW.step E XLW).toBelow⟩
        ·
         refine za rfl (zd rfl (za rfl (zd rfl (za rfl (zd rfl (za rfl (zh rfl rfl (anx rfl (zl (zn (zf (zk (rs := [.tmp 2]) (vs := [_]) rfl ⟨rfl, trivial⟩ ?_))))))))))))
         exact ⟨by refine congrArg (fun z => Ending.returned (.bool z)) ?_; first | (simp_all [PV.good, gr0]; done) | (simp_all [PV.good, gr0]; omega), (LW.step E XLW).toBelow⟩
       ·
        replace h15 := beq_eq_false_iff_ne.1 h15;refine za rfl (zd rfl (za rfl (zd rfl (za rfl (zd rfl (za rfl (zh rfl rfl (mvx rfl (za rfl (zd rfl (za rfl (zd rfl (za rfl (zd rfl (za rfl (zh rfl rfl (anx rfl (zl (zn (zf (zk (rs := [.tmp 2]) (vs := [_]) rfl ⟨rfl, trivial⟩ ?_)))))))))))))))))))))
        exact ⟨by refine congrArg (fun z => Ending.returned (.bool z)) ?_; first | (simp_all [PV.good, gr0]; done) | (simp_all [PV.good, gr0]; omega), (LW.step E XLW).toBelow⟩
      ·
       refine ye 72 (.bool false) rfl (congrArg Value.bool h14) ?_;replace h14 := beq_eq_false_iff_ne.1 h14;refine srx (za rfl (yr rfl rfl (anx rfl (yl rfl (fun h17 => ?_) (fun h17 => ?_)))))
       ·
        refine ye 85 (.bool true) rfl (congrArg Value.bool h17) ?_;replace h17 := eq_of_beq h17;subst h17;refine srx (mvx rfl (mvx rfl (yt 88 rfl (fun h18 => ?_) (fun h18 => ?_))))
        ·
         replace h18 := eq_of_beq h18;refine onx rfl (zc Try.underlying30 rfl sz4 (by decide) rfl (onx rfl (ze Try.underlying4 rfl rfl (HF.on E).here.2 rfl (onx rfl (qd rfl (za rfl (zu rfl rfl (mvx rfl (yt 93 rfl (fun h19 => ?_) (fun h19 => ?_))))))))))
         ·
          refine onx rfl (zc Try.underlying30 rfl qk (by decide) rfl (onx rfl (ze Try.underlying27 rfl rfl (HF.on E).here.2 rfl (onx rfl (yr rfl rfl (za rfl (zu rfl rfl (mvx rfl (yt 98 rfl (fun h20 => ?_) (fun h20 => ?_))))))))))
          ·
           replace h20 := eq_of_beq h20;refine onx rfl (zc Try.underlying30 rfl sz9 (by decide) rfl (onx rfl (ze Try.underlying9 rfl rfl (HF.on E).here.2 rfl (onx rfl (jh Try.underlying9 rfl (onx rfl (jk rfl rfl (za rfl (zu rfl rfl (anx rfl (zl (zn (zf (zk (rs := [.tmp 2]) (vs := [_]) rfl ⟨rfl, trivial⟩ ?_))))))))))))))
           exact ⟨by refine congrArg (fun z => Ending.returned (.bool z)) ?_; first | (simp_all [PV.good, gr0]; done) | (simp_all [PV.good, gr0]; omega), (LW.step E XLW).toBelow⟩
          ·
           replace h20 := beq_eq_false_iff_ne.1 h20;refine za rfl (zd rfl (za rfl (zd rfl (za rfl (zd rfl (za rfl (zd rfl (za rfl (zh rfl rfl (anx rfl (zl (zn (zf (zk (rs := [.tmp 2]) (vs := [_]) rfl ⟨rfl, trivial⟩ ?_))))))))))))))
           exact ⟨by refine congrArg (fun z => Ending.returned (.bool z)) ?_; first | (simp_all [PV.good, gr0]; done) | (simp_all [PV.good, gr0]; omega), (LW.step E XLW).toBelow⟩
         ·
          refine za rfl (zd rfl (za rfl (zd rfl (za rfl (zd rfl (za rfl (zh rfl rfl (mvx rfl (za rfl (zd rfl (za rfl (zd rfl (za rfl (zd rfl (za rfl (zd rfl (za rfl (zh rfl rfl (anx rfl (zl (zn (zf (zk (rs := [.tmp 2]) (vs := [_]) rfl ⟨rfl, trivial⟩ ?_)))))))))))))))))))))))
          exact ⟨by refine congrArg (fun z => Ending.returned (.bool z)) ?_; first | (simp_all [PV.good, gr0]; done) | (simp_all [PV.good, gr0]; omega), (LW.step E XLW).toBelow⟩
        ·
         replace h18 := beq_eq_false_iff_ne.1 h18
         refine za rfl (zd rfl (za rfl (zd rfl (za rfl (zd rfl (za rfl (zh rfl rfl (mvx rfl (za rfl (zd rfl (za rfl (zd rfl (za rfl (zd rfl (za rfl (zh rfl rfl (mvx rfl (za rfl (zd rfl (za rfl (zd rfl (za rfl (zd rfl (za rfl (zd rfl (za rfl (zh rfl rfl (anx rfl (zl (zn (zf (zk (rs := [.tmp 2]) (vs := [_]) rfl ⟨rfl, trivial⟩ ?_))))))))))))))))))))))))))))))))
         exact ⟨by refine congrArg (fun z => Ending.returned (.bool z)) ?_; first | (simp_all [PV.good, gr0]; done) | (simp_all [PV.good, gr0]; omega), (LW.step E XLW).toBelow⟩
       ·
        refine ye 85 (.bool false) rfl (congrArg Value.bool h17) ?_;replace h17 := beq_eq_false_iff_ne.1 h17;refine zo (zv (zi (srx (anx rfl (zl (zk (rs := [.tmp 2]) (vs := [_]) rfl ⟨rfl, trivial⟩ ?_))))))
        exact ⟨by refine congrArg (fun z => Ending.returned (.bool z)) ?_; first | (simp_all [PV.good, gr0]; done) | (simp_all [PV.good, gr0]; omega), (LW.step E XLW).toBelow⟩
  ·
   refine za rfl (zd rfl (za rfl (zd rfl (za rfl (zd rfl (za rfl (zd rfl (za rfl (zd rfl (za rfl (zh rfl rfl (anx rfl (zm (srx (za rfl (zc Try.underlying30 rfl sz3 (by decide) rfl (za rfl (ze Try.underlying3 rfl rfl (HF.on E).here.2 rfl (rnx (yk (srx (za rfl (yr rfl rfl (anx rfl (yl rfl (fun h21 => ?_) (fun h21 => ?_))))))))))))))))))))))))))
   ·
    refine ye 21 (.bool true) rfl (congrArg Value.bool h21) ?_;replace h21 := eq_of_beq h21;subst h21;refine srx (za rfl (zc Try.underlying30 rfl sz4 (by decide) rfl (za rfl (ze Try.underlying4 rfl rfl (HF.on E).here.2 rfl (za rfl (qd rfl (mvx rfl (yt 26 rfl (fun h22 => ?_) (fun h22 => ?_)))))))))
    ·
     refine onx rfl (zj rfl (za rfl (zu rfl rfl (mvx rfl (za rfl (zd rfl (za rfl (zd rfl (za rfl (zd rfl (za rfl (zh rfl rfl (mvx rfl (za rfl (zd rfl (za rfl (zd rfl (za rfl (zd rfl (za rfl (zh rfl rfl (anx rfl (zl (zn (zf (zk (rs := [.tmp 2]) (vs := [_]) rfl ⟨rfl, trivial⟩ ?_))))))))))))))))))))))))))
     exact ⟨by refine congrArg (fun z => Ending.returned (.bool z)) ?_; first | (simp_all [PV.good, gr0]; done) | (simp_all [PV.good, gr0]; omega), (LW.step E XLW).toBelow⟩
    ·
     refine za rfl (zd rfl (za rfl (zh rfl rfl (mvx rfl (za rfl (zd rfl (za rfl (zd rfl (za rfl (zd rfl (za rfl (zh rfl rfl (mvx rfl (za rfl (zd rfl (za rfl (zd rfl (za rfl (zd rfl (za rfl (zh rfl rfl (anx rfl (zl (zn (zf (zk (rs := [.tmp 2]) (vs := [_]) rfl ⟨rfl, trivial⟩ ?_))))))))))))))))))))))))))
     exact ⟨by refine congrArg (fun z => Ending.returned (.bool z)) ?_; first | (simp_all [PV.good, gr0]; done) | (simp_all [PV.good, gr0]; omega), (LW.step E XLW).toBelow⟩
   ·
    refine ye 21 (.bool false) rfl (congrArg Value.bool h21) ?_;replace h21 := beq_eq_false_iff_ne.1 h21;refine srx (za rfl (yr rfl rfl (anx rfl (yl rfl (fun h23 => ?_) (fun h23 => ?_)))))
    ·
     refine ye 39 (.bool true) rfl (congrArg Value.bool h23) ?_;replace h23 := eq_of_beq h23;subst h23
     refine srx (mvx rfl (mvx rfl (za rfl (zd rfl (za rfl (zd rfl (za rfl (zd rfl (za rfl (zh rfl rfl (mvx rfl (za rfl (zd rfl (za rfl (zd rfl (za rfl (zd rfl (za rfl (zh rfl rfl (anx rfl (zl (zn (zf (zk (rs := [.tmp 2]) (vs := [_]) rfl ⟨rfl, trivial⟩ ?_))))))))))))))))))))))))
     exact ⟨by refine congrArg (fun z => Ending.returned (.bool z)) ?_; first | (simp_all [PV.good, gr0]; done) | (simp_all [PV.good, gr0]; omega), (LW.step E XLW).toBelow⟩
    ·
     refine ye 39 (.bool false) rfl (congrArg Value.bool h23) ?_;replace h23 := beq_eq_false_iff_ne.1 h23;refine srx (za rfl (yr rfl rfl (anx rfl (yl rfl (fun h24 => ?_) (fun h24 => ?_)))))
     ·
      refine ye 52 (.bool true) rfl (congrArg Value.bool h24) ?_;replace h24 := eq_of_beq h24;subst h24;refine srx (za rfl (zc Try.underlying30 rfl jn (by decide) rfl (za rfl (xt Try.underlying26 rfl jn rfl (HF.on E).here.2 rfl rfl (za rfl (zp en51 rfl ((kd neg c _ A xs hl (HF.on E).here.1.2).mono ?_)))))));rintro e w4 ⟨rfl, hb⟩
      refine ⟨_, rfl, ?_⟩;replace E := blx E hb;refine mvx rfl (yt 57 rfl (fun h25 => ?_) (fun h25 => ?_))
      ·
       refine onx rfl (zc Try.underlying30 rfl sz4 (by decide) rfl (onx rfl (ze Try.underlying4 rfl rfl (HF.on E).here.2 rfl (onx rfl (qd rfl (za rfl (zu rfl rfl (mvx rfl (yt 62 rfl (fun h26 => ?_) (fun h26 => ?_))))))))))
       ·
        refine onx rfl (zc Try.underlying30 rfl qk (by decide) rfl (onx rfl (ze Try.underlying27 rfl rfl (HF.on E).here.2 rfl (onx rfl (yr rfl rfl (za rfl (zu rfl rfl (mvx rfl (yt 67 rfl (fun h27 => ?_) (fun h27 => ?_))))))))))
        ·
         replace h27 := eq_of_beq h27;refine onx rfl (zc Try.underlying30 rfl sz9 (by decide) rfl (onx rfl (ze Try.underlying9 rfl rfl (HF.on E).here.2 rfl (onx rfl (zex rfl rfl (za rfl (zu rfl rfl (anx rfl (zl (zn (zf (zk (rs := [.tmp 2]) (vs := [_]) rfl ⟨rfl, trivial⟩ ?_))))))))))))
         exact ⟨by refine congrArg (fun z => Ending.returned (.bool z)) ?_; first | (simp_all [PV.good, gr0]; done) | (simp_all [PV.good, gr0]; omega), (LW.step E XLW).toBelow⟩
        ·
         replace h27 := beq_eq_false_iff_ne.1 h27;refine za rfl (zd rfl (za rfl (zd rfl (za rfl (zd rfl (za rfl (zh rfl rfl (anx rfl (zl (zn (zf (zk (rs := [.tmp 2]) (vs := [_]) rfl ⟨rfl, trivial⟩ ?_))))))))))))
         exact ⟨by refine congrArg (fun z => Ending.returned (.bool z)) ?_; first | (simp_all [PV.good, gr0]; done) | (simp_all [PV.good, gr0]; omega), (LW.step E XLW).toBelow⟩
       ·
        refine za rfl (zd rfl (za rfl (zd rfl (za rfl (zd rfl (za rfl (zh rfl rfl (mvx rfl (za rfl (zd rfl (za rfl (zd rfl (za rfl (zd rfl (za rfl (zh rfl rfl (anx rfl (zl (zn (zf (zk (rs := [.tmp 2]) (vs := [_]) rfl ⟨rfl, trivial⟩ ?_)))))))))))))))))))))
        exact ⟨by refine congrArg (fun z => Ending.returned (.bool z)) ?_; first | (simp_all [PV.good, gr0]; done) | (simp_all [PV.good, gr0]; omega), (LW.step E XLW).toBelow⟩
      ·
       refine za rfl (zd rfl (za rfl (zd rfl (za rfl (zd rfl (za rfl (zh rfl rfl (mvx rfl (za rfl (zd rfl (za rfl (zd rfl (za rfl (zd rfl (za rfl (zh rfl rfl (mvx rfl (za rfl (zd rfl (za rfl (zd rfl (za rfl (zd rfl (za rfl (zh rfl rfl (anx rfl (zl (zn (zf (zk (rs := [.tmp 2]) (vs := [_]) rfl ⟨rfl, trivial⟩ ?_))))))))))))))))))))))))))))))
       exact ⟨by refine congrArg (fun z => Ending.returned (.bool z)) ?_; first | (simp_all [PV.good, gr0]; done) | (simp_all [PV.good, gr0]; omega), (LW.step E XLW).toBelow⟩
     ·
      refine ye 52 (.bool false) rfl (congrArg Value.bool h24) ?_;replace h24 := beq_eq_false_iff_ne.1 h24;refine srx (za rfl (yr rfl rfl (anx rfl (yl rfl (fun h28 => ?_) (fun h28 => ?_)))))
      ·
       refine ye 72 (.bool true) rfl (congrArg Value.bool h28) ?_;replace h28 := eq_of_beq h28;subst h28
       refine srx (mvx rfl (mvx rfl (za rfl (zd rfl (za rfl (zd rfl (za rfl (zd rfl (za rfl (zh rfl rfl (mvx rfl (za rfl (zd rfl (za rfl (zd rfl (za rfl (zd rfl (za rfl (zh rfl rfl (anx rfl (zl (zn (zf (zk (rs := [.tmp 2]) (vs := [_]) rfl ⟨rfl, trivial⟩ ?_))))))))))))))))))))))))
       exact ⟨by refine congrArg (fun z => Ending.returned (.bool z)) ?_; first | (simp_all [PV.good, gr0]; done) | (simp_all [PV.good, gr0]; omega), (LW.step E XLW).toBelow⟩
      ·
       refine ye 72 (.bool false) rfl (congrArg Value.bool h28) ?_;replace h28 := beq_eq_false_iff_ne.1 h28;refine srx (za rfl (yr rfl rfl (anx rfl (yl rfl (fun h29 => ?_) (fun h29 => ?_)))))
       ·
        refine ye 85 (.bool true) rfl (congrArg Value.bool h29) ?_;replace h29 := eq_of_beq h29;subst h29
        refine srx (mvx rfl (mvx rfl (za rfl (zd rfl (za rfl (zd rfl (za rfl (zd rfl (za rfl (zh rfl rfl (mvx rfl (za rfl (zd rfl (za rfl (zd rfl (za rfl (zd rfl (za rfl (zh rfl rfl (mvx rfl (za rfl (zd rfl (za rfl (zd rfl (za rfl (zd rfl (za rfl (zd rfl (za rfl (zh rfl rfl (anx rfl (zl (zn (zf (zk (rs := [.tmp 2]) (vs := [_]) rfl ⟨rfl, trivial⟩ ?_)))))))))))))))))))))))))))))))))))
        exact ⟨by refine congrArg (fun z => Ending.returned (.bool z)) ?_; first | (simp_all [PV.good, gr0]; done) | (simp_all [PV.good, gr0]; omega), (LW.step E XLW).toBelow⟩
       ·
        refine ye 85 (.bool false) rfl (congrArg Value.bool h29) ?_;replace h29 := beq_eq_false_iff_ne.1 h29;refine zo (zv (zi (srx (anx rfl (zl (zk (rs := [.tmp 2]) (vs := [_]) rfl ⟨rfl, trivial⟩ ?_))))))
        exact ⟨by refine congrArg (fun z => Ending.returned (.bool z)) ?_; first | (simp_all [PV.good, gr0]; done) | (simp_all [PV.good, gr0]; omega), (LW.step E XLW).toBelow⟩
theorem rg0 : Calls Try.prog 23 #[.agg #[.int .i64 0, .bool yes, .bool neg, .slice A xs.length c, .int .u64 ((bits : Nat) : Int), .string s, .slice B ni d]] w fun e w' => e = .returned (.bool (PV.good ⟨0, yes, neg, xs, bits, s, ni⟩)) ∧ Below w.heap.size w w' := by
 have _ := hx;have _ := hl;have hs0 : s.toList = [] → s.size = 0 := gc;refine yc Try.func23 rfl Try.ntmps23 rfl ?_;have HF : Per (No) w (fun _ => True) := Per.true_;have LW := erx (No) w;have XLW := grx (No) w;have E := erx (No) w;replace HF := HF.on E;replace LW := LW.step E XLW;replace E := erx (No) w;replace HF := HF.and (Per.nums0 hx);refine srx (za rfl (qh rfl ?_))
 intro gb1 w2 Bb1 Eb1 Gb1;have Gb1 : _ ≤ gb1 := Nat.le_trans E.size Gb1;have GLb1 := Nat.le_trans LW.size Gb1;replace E := E.trans Eb1.no;replace HF := HF.cons (vn Gb1);replace E := E.cons (some gb1);replace XLW := Mut.grow XLW (fun k e => Or.inr (Nat.le_trans LW.size ((vn Gb1) k e)));replace HF := HF.on E;replace LW := LW.step E XLW
 have SB : ∀ q9, No q9 → Mut [(some gb1)] q9 := (Mut.skip Mut.nil_);replace HF := HF.less SB;replace XLW := fun k h => XLW k (SB k h);clear SB;replace E := erx (No) w2;replace HF := HF.and (Per.blkN Bb1 NotIn.nil)
 refine anx rfl (zm (srx (za rfl (zc Try.underlying30 rfl sz3 (by decide) rfl (za rfl (ze Try.underlying3 rfl rfl (HF.on E).here.2 rfl (za rfl (yp rfl rfl (mvx rfl (onx rfl (zc Try.underlying30 rfl sz3 (by decide) rfl (onx rfl (ze Try.underlying3 rfl rfl (HF.on E).here.2 rfl (onx rfl (yy rfl rfl (za rfl (zh rfl rfl (mvx rfl (onx rfl (zc Try.underlying30 rfl sz28 (by decide) rfl (onx rfl (ze Try.underlying28 rfl rfl (HF.on E).here.2 rfl (onx rfl (yq Try.underlying28 rfl (onx rfl (yw rfl rfl (za rfl (zh rfl rfl (rnx (yl rfl (fun h1 => ?_) (fun h1 => ?_)))))))))))))))))))))))))))))))
 ·
  refine ye 16 (.bool true) rfl (congrArg Value.bool h1) (srx (anx rfl (zl (zf (zk (rs := [.tmp 2]) (vs := [_]) rfl ⟨rfl, trivial⟩ ?_)))));exact ⟨by refine congrArg (fun z => Ending.returned (.bool z)) ?_; first | (simp_all [PV.good, gr0]; done) | (simp_all [PV.good, gr0]; omega), (LW.step E XLW).toBelow⟩
 ·
  refine ye 16 (.bool false) rfl (congrArg Value.bool h1) (zo (zi (zm (srx (za rfl (zc Try.underlying30 rfl sz3 (by decide) rfl (za rfl (ze Try.underlying3 rfl rfl (HF.on E).here.2 rfl (za rfl (yw rfl rfl (mvx rfl (onx rfl (zc Try.underlying30 rfl sz4 (by decide) rfl (onx rfl (ze Try.underlying4 rfl rfl (HF.on E).here.2 rfl (za rfl (zu rfl rfl (mvx rfl (yt 24 rfl (fun h2 => ?_) (fun h2 => ?_))))))))))))))))))))
  ·
   refine za rfl (zd rfl (za rfl (zd rfl (za rfl (zd rfl (za rfl (zd rfl (za rfl (yz rfl rfl (za rfl (yz rfl rfl (za rfl (yz rfl rfl (za rfl (zd rfl (za rfl (zu rfl rfl (mvx rfl (za rfl (zd rfl (za rfl (zd rfl (za rfl (zd rfl (za rfl (zd rfl (za rfl (yz rfl rfl (za rfl (yz rfl rfl (za rfl (yz rfl rfl (za rfl (zd rfl (za rfl (zu rfl rfl (rnx (yd rfl (srx (anx rfl (zl (zf (zk (rs := [.tmp 2]) (vs := [_]) rfl ⟨rfl, trivial⟩ ?_)))))))))))))))))))))))))))))))))))))))))))
   exact ⟨by refine congrArg (fun z => Ending.returned (.bool z)) ?_; first | (simp_all [PV.good, gr0]; done) | (simp_all [PV.good, gr0]; omega), (LW.step E XLW).toBelow⟩
  ·
   refine onx rfl (zc Try.underlying30 rfl sz3 (by decide) rfl (onx rfl (ze Try.underlying3 rfl rfl (HF.on E).here.2 rfl (onx rfl (yw rfl rfl (onx rfl (zj rfl (onx rfl (zc Try.underlying30 rfl qk (by decide) rfl (onx rfl (ze Try.underlying27 rfl rfl (HF.on E).here.2 rfl (onx rfl (yw rfl rfl (onx rfl (zu rfl rfl (za rfl (zh rfl rfl (mvx rfl (yt 34 rfl (fun h3 => ?_) (fun h3 => ?_))))))))))))))))))))
   ·
    refine za rfl (zd rfl (za rfl (zd rfl (za rfl (zd rfl (za rfl (zd rfl (za rfl (yz rfl rfl (za rfl (yz rfl rfl (za rfl (yz rfl rfl (za rfl (zd rfl (za rfl (zu rfl rfl (rnx (yd rfl (srx (anx rfl (zl (zf (zk (rs := [.tmp 2]) (vs := [_]) rfl ⟨rfl, trivial⟩ ?_))))))))))))))))))))))))
    exact ⟨by refine congrArg (fun z => Ending.returned (.bool z)) ?_; first | (simp_all [PV.good, gr0]; done) | (simp_all [PV.good, gr0]; omega), (LW.step E XLW).toBelow⟩
   ·
    refine onx rfl (zc Try.underlying30 rfl sz3 (by decide) rfl (onx rfl (ze Try.underlying3 rfl rfl (HF.on E).here.2 rfl (onx rfl (yw rfl rfl (onx rfl (zj rfl (onx rfl (zc Try.underlying30 rfl sz9 (by decide) rfl (onx rfl (ze Try.underlying9 rfl rfl (HF.on E).here.2 rfl (onx rfl (zlz rfl rfl (onx rfl (zu rfl rfl (za rfl (zh rfl rfl (rnx (yl rfl (fun h4 => ?_) (fun h4 => ?_))))))))))))))))))))
    ·
     refine ye 43 (.bool true) rfl (congrArg Value.bool h4) (srx (anx rfl (zl (zf (zk (rs := [.tmp 2]) (vs := [_]) rfl ⟨rfl, trivial⟩ ?_)))));exact ⟨by refine congrArg (fun z => Ending.returned (.bool z)) ?_; first | (simp_all [PV.good, gr0]; done) | (simp_all [PV.good, gr0]; omega), (LW.step E XLW).toBelow⟩
    ·
     refine ye 43 (.bool false) rfl (congrArg Value.bool h4) (zo (zi (zm (srx (za rfl (zc Try.underlying30 rfl sz3 (by decide) rfl (za rfl (ze Try.underlying3 rfl rfl (HF.on E).here.2 rfl (za rfl (yw rfl rfl (rnx (yd rfl (srx (za rfl (zc Try.underlying30 rfl jn (by decide) rfl (za rfl (zc Try.underlying26 rfl sz4 (by decide) rfl (za rfl (ze Try.underlying4 rfl rfl (HF.on E).here.2 rfl (za rfl (qd rfl (mvx rfl (yt 51 rfl (fun h5 => ?_) (fun h5 => ?_))))))))))))))))))))))))
     ·
      refine onx rfl (zc Try.underlying30 rfl jn (by decide) rfl (onx rfl (zc Try.underlying26 rfl qy (by decide) rfl (onx rfl (ze Try.underlying22 rfl rfl (HF.on E).here.2 rfl (onx rfl (yq Try.underlying22 rfl (onx rfl (yr rfl rfl (za rfl (zu rfl rfl (mvx rfl (yt 58 rfl (fun h6 => ?_) (fun h6 => ?_))))))))))))))
      ·
       replace h6 := eq_of_beq h6;refine onx rfl (zc Try.underlying30 rfl sz9 (by decide) rfl (onx rfl (ze Try.underlying9 rfl rfl (HF.on E).here.2 rfl (onx rfl (jh Try.underlying9 rfl (onx rfl (jk rfl rfl (za rfl (zu rfl rfl (anx rfl (zl (zf (zk (rs := [.tmp 2]) (vs := [_]) rfl ⟨rfl, trivial⟩ ?_)))))))))))))
       exact ⟨by refine congrArg (fun z => Ending.returned (.bool z)) ?_; first | (simp_all [PV.good, gr0]; done) | (simp_all [PV.good, gr0]; omega), (LW.step E XLW).toBelow⟩
      ·
       replace h6 := beq_eq_false_iff_ne.1 h6;refine za rfl (zd rfl (za rfl (zd rfl (za rfl (zd rfl (za rfl (zd rfl (za rfl (zh rfl rfl (anx rfl (zl (zf (zk (rs := [.tmp 2]) (vs := [_]) rfl ⟨rfl, trivial⟩ ?_)))))))))))))
       exact ⟨by refine congrArg (fun z => Ending.returned (.bool z)) ?_; first | (simp_all [PV.good, gr0]; done) | (simp_all [PV.good, gr0]; omega), (LW.step E XLW).toBelow⟩
     ·
      refine za rfl (zd rfl (za rfl (zd rfl (za rfl (zd rfl (za rfl (zd rfl (za rfl (zd rfl (za rfl (zh rfl rfl (mvx rfl (za rfl (zd rfl (za rfl (zd rfl (za rfl (zd rfl (za rfl (zd rfl (za rfl (zh rfl rfl (anx rfl (zl (zf (zk (rs := [.tmp 2]) (vs := [_]) rfl ⟨rfl, trivial⟩ ?_))))))))))))))))))))))))))
      exact ⟨by refine congrArg (fun z => Ending.returned (.bool z)) ?_; first | (simp_all [PV.good, gr0]; done) | (simp_all [PV.good, gr0]; omega), (LW.step E XLW).toBelow⟩
theorem rg1 : Calls Try.prog 23 #[.agg #[.int .i64 1, .bool yes, .bool neg, .slice A xs.length c, .int .u64 ((bits : Nat) : Int), .string s, .slice B ni d]] w fun e w' => e = .returned (.bool (PV.good ⟨1, yes, neg, xs, bits, s, ni⟩)) ∧ Below w.heap.size w w' := by
 have _ := hx;have _ := hl;have hs0 : s.toList = [] → s.size = 0 := gc;refine yc Try.func23 rfl Try.ntmps23 rfl ?_;have HF : Per (No) w (fun _ => True) := Per.true_;have LW := erx (No) w;have XLW := grx (No) w;have E := erx (No) w;replace HF := HF.on E;replace LW := LW.step E XLW;replace E := erx (No) w;replace HF := HF.and (Per.nums0 hx);refine srx (za rfl (qh rfl ?_))
 intro gb1 w2 Bb1 Eb1 Gb1;have Gb1 : _ ≤ gb1 := Nat.le_trans E.size Gb1;have GLb1 := Nat.le_trans LW.size Gb1;replace E := E.trans Eb1.no;replace HF := HF.cons (vn Gb1);replace E := E.cons (some gb1);replace XLW := Mut.grow XLW (fun k e => Or.inr (Nat.le_trans LW.size ((vn Gb1) k e)));replace HF := HF.on E;replace LW := LW.step E XLW
 have SB : ∀ q9, No q9 → Mut [(some gb1)] q9 := (Mut.skip Mut.nil_);replace HF := HF.less SB;replace XLW := fun k h => XLW k (SB k h);clear SB;replace E := erx (No) w2;replace HF := HF.and (Per.blkN Bb1 NotIn.nil)
 refine anx rfl (zm (srx (za rfl (zc Try.underlying30 rfl sz3 (by decide) rfl (za rfl (ze Try.underlying3 rfl rfl (HF.on E).here.2 rfl (za rfl (yp rfl rfl (mvx rfl (onx rfl (zc Try.underlying30 rfl sz3 (by decide) rfl (onx rfl (ze Try.underlying3 rfl rfl (HF.on E).here.2 rfl (onx rfl (yy rfl rfl (za rfl (zh rfl rfl (mvx rfl (onx rfl (zc Try.underlying30 rfl sz28 (by decide) rfl (onx rfl (ze Try.underlying28 rfl rfl (HF.on E).here.2 rfl (onx rfl (yq Try.underlying28 rfl (onx rfl (yw rfl rfl (za rfl (zh rfl rfl (rnx (yl rfl (fun h1 => ?_) (fun h1 => ?_)))))))))))))))))))))))))))))))
 ·
  refine ye 16 (.bool true) rfl (congrArg Value.bool h1) (srx (anx rfl (zl (zf (zk (rs := [.tmp 2]) (vs := [_]) rfl ⟨rfl, trivial⟩ ?_)))));exact ⟨by refine congrArg (fun z => Ending.returned (.bool z)) ?_; first | (simp_all [PV.good, gr0]; done) | (simp_all [PV.good, gr0]; omega), (LW.step E XLW).toBelow⟩
 ·
  refine ye 16 (.bool false) rfl (congrArg Value.bool h1) (zo (zi (zm (srx (za rfl (zc Try.underlying30 rfl sz3 (by decide) rfl (za rfl (ze Try.underlying3 rfl rfl (HF.on E).here.2 rfl (za rfl (yw rfl rfl (mvx rfl (za rfl (zd rfl (za rfl (zd rfl (za rfl (zh rfl rfl (mvx rfl (onx rfl (zc Try.underlying30 rfl sz3 (by decide) rfl (onx rfl (ze Try.underlying3 rfl rfl (HF.on E).here.2 rfl (onx rfl (yw rfl rfl (onx rfl (zj rfl (onx rfl (zc Try.underlying30 rfl qk (by decide) rfl (onx rfl (ze Try.underlying27 rfl rfl (HF.on E).here.2 rfl (onx rfl (yw rfl rfl (onx rfl (zu rfl rfl (za rfl (zh rfl rfl (mvx rfl (yt 34 rfl (fun h2 => ?_) (fun h2 => ?_)))))))))))))))))))))))))))))))))))))))
  ·
   refine za rfl (zd rfl (za rfl (zd rfl (za rfl (zd rfl (za rfl (zd rfl (za rfl (yz rfl rfl (za rfl (yz rfl rfl (za rfl (yz rfl rfl (za rfl (zd rfl (za rfl (zu rfl rfl (rnx (yd rfl (srx (anx rfl (zl (zf (zk (rs := [.tmp 2]) (vs := [_]) rfl ⟨rfl, trivial⟩ ?_))))))))))))))))))))))))
   exact ⟨by refine congrArg (fun z => Ending.returned (.bool z)) ?_; first | (simp_all [PV.good, gr0]; done) | (simp_all [PV.good, gr0]; omega), (LW.step E XLW).toBelow⟩
  ·
   refine onx rfl (zc Try.underlying30 rfl sz3 (by decide) rfl (onx rfl (ze Try.underlying3 rfl rfl (HF.on E).here.2 rfl (onx rfl (yw rfl rfl (onx rfl (zj rfl (onx rfl (zc Try.underlying30 rfl sz9 (by decide) rfl (onx rfl (ze Try.underlying9 rfl rfl (HF.on E).here.2 rfl (onx rfl (zlz rfl rfl (onx rfl (zu rfl rfl (za rfl (zh rfl rfl (rnx (yl rfl (fun h3 => ?_) (fun h3 => ?_))))))))))))))))))))
   ·
    refine ye 43 (.bool true) rfl (congrArg Value.bool h3) (srx (anx rfl (zl (zf (zk (rs := [.tmp 2]) (vs := [_]) rfl ⟨rfl, trivial⟩ ?_)))));exact ⟨by refine congrArg (fun z => Ending.returned (.bool z)) ?_; first | (simp_all [PV.good, gr0]; done) | (simp_all [PV.good, gr0]; omega), (LW.step E XLW).toBelow⟩
   ·
    refine ye 43 (.bool false) rfl (congrArg Value.bool h3) (zo (zi (zm (srx (za rfl (zc Try.underlying30 rfl sz3 (by decide) rfl (za rfl (ze Try.underlying3 rfl rfl (HF.on E).here.2 rfl (za rfl (yw rfl rfl (rnx (yd rfl (srx (za rfl (zc Try.underlying30 rfl jn (by decide) rfl (za rfl (zc Try.underlying26 rfl sz4 (by decide) rfl (za rfl (ze Try.underlying4 rfl rfl (HF.on E).here.2 rfl (za rfl (qd rfl (mvx rfl (yt 51 rfl (fun h4 => ?_) (fun h4 => ?_))))))))))))))))))))))))
    ·
     refine onx rfl (zc Try.underlying30 rfl jn (by decide) rfl (onx rfl (zc Try.underlying26 rfl qy (by decide) rfl (onx rfl (ze Try.underlying22 rfl rfl (HF.on E).here.2 rfl (onx rfl (yq Try.underlying22 rfl (onx rfl (yr rfl rfl (za rfl (zu rfl rfl (mvx rfl (yt 58 rfl (fun h5 => ?_) (fun h5 => ?_))))))))))))))
     ·
      replace h5 := eq_of_beq h5;refine onx rfl (zc Try.underlying30 rfl sz9 (by decide) rfl (onx rfl (ze Try.underlying9 rfl rfl (HF.on E).here.2 rfl (onx rfl (jh Try.underlying9 rfl (onx rfl (jk rfl rfl (za rfl (zu rfl rfl (anx rfl (zl (zf (zk (rs := [.tmp 2]) (vs := [_]) rfl ⟨rfl, trivial⟩ ?_)))))))))))))
      exact ⟨by refine congrArg (fun z => Ending.returned (.bool z)) ?_; first | (simp_all [PV.good, gr0]; done) | (simp_all [PV.good, gr0]; omega), (LW.step E XLW).toBelow⟩
     ·
      replace h5 := beq_eq_false_iff_ne.1 h5;refine za rfl (zd rfl (za rfl (zd rfl (za rfl (zd rfl (za rfl (zd rfl (za rfl (zh rfl rfl (anx rfl (zl (zf (zk (rs := [.tmp 2]) (vs := [_]) rfl ⟨rfl, trivial⟩ ?_)))))))))))))
      exact ⟨by refine congrArg (fun z => Ending.returned (.bool z)) ?_; first | (simp_all [PV.good, gr0]; done) | (simp_all [PV.good, gr0]; omega), (LW.step E XLW).toBelow⟩
    ·
     refine za rfl (zd rfl (za rfl (zd rfl (za rfl (zd rfl (za rfl (zd rfl (za rfl (zd rfl (za rfl (zh rfl rfl (mvx rfl (za rfl (zd rfl (za rfl (zd rfl (za rfl (zd rfl (za rfl (zd rfl (za rfl (zh rfl rfl (anx rfl (zl (zf (zk (rs := [.tmp 2]) (vs := [_]) rfl ⟨rfl, trivial⟩ ?_))))))))))))))))))))))))))
     exact ⟨by refine congrArg (fun z => Ending.returned (.bool z)) ?_; first | (simp_all [PV.good, gr0]; done) | (simp_all [PV.good, gr0]; omega), (LW.step E XLW).toBelow⟩
theorem rg2 : Calls Try.prog 23 #[.agg #[.int .i64 2, .bool yes, .bool neg, .slice A xs.length c, .int .u64 ((bits : Nat) : Int), .string s, .slice B ni d]] w fun e w' => e = .returned (.bool (PV.good ⟨2, yes, neg, xs, bits, s, ni⟩)) ∧ Below w.heap.size w w' := by
 have _ := hx;have _ := hl;have hs0 : s.toList = [] → s.size = 0 := gc;refine yc Try.func23 rfl Try.ntmps23 rfl ?_;have HF : Per (No) w (fun _ => True) := Per.true_;have LW := erx (No) w;have XLW := grx (No) w;have E := erx (No) w;replace HF := HF.on E;replace LW := LW.step E XLW;replace E := erx (No) w;replace HF := HF.and (Per.nums0 hx);refine srx (za rfl (qh rfl ?_))
 intro gb1 w2 Bb1 Eb1 Gb1;have Gb1 : _ ≤ gb1 := Nat.le_trans E.size Gb1;have GLb1 := Nat.le_trans LW.size Gb1;replace E := E.trans Eb1.no;replace HF := HF.cons (vn Gb1);replace E := E.cons (some gb1);replace XLW := Mut.grow XLW (fun k e => Or.inr (Nat.le_trans LW.size ((vn Gb1) k e)));replace HF := HF.on E;replace LW := LW.step E XLW
 have SB : ∀ q9, No q9 → Mut [(some gb1)] q9 := (Mut.skip Mut.nil_);replace HF := HF.less SB;replace XLW := fun k h => XLW k (SB k h);clear SB;replace E := erx (No) w2;replace HF := HF.and (Per.blkN Bb1 NotIn.nil)
 refine anx rfl (zm (srx (za rfl (zc Try.underlying30 rfl sz3 (by decide) rfl (za rfl (ze Try.underlying3 rfl rfl (HF.on E).here.2 rfl (za rfl (yp rfl rfl (mvx rfl (onx rfl (zc Try.underlying30 rfl sz3 (by decide) rfl (onx rfl (ze Try.underlying3 rfl rfl (HF.on E).here.2 rfl (onx rfl (yy rfl rfl (za rfl (zh rfl rfl (mvx rfl (onx rfl (zc Try.underlying30 rfl sz28 (by decide) rfl (onx rfl (ze Try.underlying28 rfl rfl (HF.on E).here.2 rfl (onx rfl (yq Try.underlying28 rfl (onx rfl (yw rfl rfl (za rfl (zh rfl rfl (rnx (yl rfl (fun h1 => ?_) (fun h1 => ?_)))))))))))))))))))))))))))))))
 ·
  refine ye 16 (.bool true) rfl (congrArg Value.bool h1) (srx (anx rfl (zl (zf (zk (rs := [.tmp 2]) (vs := [_]) rfl ⟨rfl, trivial⟩ ?_)))));exact ⟨by refine congrArg (fun z => Ending.returned (.bool z)) ?_; first | (simp_all [PV.good, gr0]; done) | (simp_all [PV.good, gr0]; omega), (LW.step E XLW).toBelow⟩
 ·
  refine ye 16 (.bool false) rfl (congrArg Value.bool h1) (zo (zi (zm (srx (za rfl (zc Try.underlying30 rfl sz3 (by decide) rfl (za rfl (ze Try.underlying3 rfl rfl (HF.on E).here.2 rfl (za rfl (yw rfl rfl (mvx rfl (onx rfl (zc Try.underlying30 rfl sz4 (by decide) rfl (onx rfl (ze Try.underlying4 rfl rfl (HF.on E).here.2 rfl (za rfl (zu rfl rfl (mvx rfl (yt 24 rfl (fun h2 => ?_) (fun h2 => ?_))))))))))))))))))))
  ·
   refine za rfl (zd rfl (za rfl (zd rfl (za rfl (zd rfl (za rfl (zd rfl (za rfl (yz rfl rfl (za rfl (yz rfl rfl (za rfl (yz rfl rfl (za rfl (zd rfl (za rfl (zu rfl rfl (mvx rfl (za rfl (zd rfl (za rfl (zd rfl (za rfl (zd rfl (za rfl (zd rfl (za rfl (yz rfl rfl (za rfl (yz rfl rfl (za rfl (yz rfl rfl (za rfl (zd rfl (za rfl (zu rfl rfl (rnx (yd rfl (srx (anx rfl (zl (zf (zk (rs := [.tmp 2]) (vs := [_]) rfl ⟨rfl, trivial⟩ ?_)))))))))))))))))))))))))))))))))))))))))))
   exact ⟨by refine congrArg (fun z => Ending.returned (.bool z)) ?_; first | (simp_all [PV.good, gr0]; done) | (simp_all [PV.good, gr0]; omega), (LW.step E XLW).toBelow⟩
  ·
   refine onx rfl (zc Try.underlying30 rfl sz3 (by decide) rfl (onx rfl (ze Try.underlying3 rfl rfl (HF.on E).here.2 rfl (onx rfl (yw rfl rfl (onx rfl (zj rfl (onx rfl (zc Try.underlying30 rfl qk (by decide) rfl (onx rfl (ze Try.underlying27 rfl rfl (HF.on E).here.2 rfl (onx rfl (yw rfl rfl (onx rfl (zu rfl rfl (za rfl (zh rfl rfl (mvx rfl (yt 34 rfl (fun h3 => ?_) (fun h3 => ?_))))))))))))))))))))
   ·
    refine za rfl (zd rfl (za rfl (zd rfl (za rfl (zd rfl (za rfl (zd rfl (za rfl (yz rfl rfl (za rfl (yz rfl rfl (za rfl (yz rfl rfl (za rfl (zd rfl (za rfl (zu rfl rfl (rnx (yd rfl (srx (anx rfl (zl (zf (zk (rs := [.tmp 2]) (vs := [_]) rfl ⟨rfl, trivial⟩ ?_))))))))))))))))))))))))
    exact ⟨by refine congrArg (fun z => Ending.returned (.bool z)) ?_; first | (simp_all [PV.good, gr0]; done) | (simp_all [PV.good, gr0]; omega), (LW.step E XLW).toBelow⟩
   ·
    refine onx rfl (zc Try.underlying30 rfl sz3 (by decide) rfl (onx rfl (ze Try.underlying3 rfl rfl (HF.on E).here.2 rfl (onx rfl (yw rfl rfl (onx rfl (zj rfl (onx rfl (zc Try.underlying30 rfl sz9 (by decide) rfl (onx rfl (ze Try.underlying9 rfl rfl (HF.on E).here.2 rfl (onx rfl (zlz rfl rfl (onx rfl (zu rfl rfl (za rfl (zh rfl rfl (rnx (yl rfl (fun h4 => ?_) (fun h4 => ?_))))))))))))))))))))
    ·
     refine ye 43 (.bool true) rfl (congrArg Value.bool h4) (srx (anx rfl (zl (zf (zk (rs := [.tmp 2]) (vs := [_]) rfl ⟨rfl, trivial⟩ ?_)))));exact ⟨by refine congrArg (fun z => Ending.returned (.bool z)) ?_; first | (simp_all [PV.good, gr0]; done) | (simp_all [PV.good, gr0]; omega), (LW.step E XLW).toBelow⟩
    ·
     refine ye 43 (.bool false) rfl (congrArg Value.bool h4) (zo (zi (zm (srx (za rfl (zc Try.underlying30 rfl sz3 (by decide) rfl (za rfl (ze Try.underlying3 rfl rfl (HF.on E).here.2 rfl (za rfl (yw rfl rfl (rnx (zw rfl (zo (zi (srx (za rfl (zc Try.underlying30 rfl jn (by decide) rfl (za rfl (xt Try.underlying26 rfl jn rfl (HF.on E).here.2 rfl rfl (za rfl (zp en47 rfl ((rgood_any neg c _ A xs hl (HF.on E).here.1.2).mono ?_))))))))))))))))))))))
     rintro e w3 ⟨rfl, hb⟩;refine ⟨_, rfl, ?_⟩;replace E := blx E hb;refine anx rfl (zl (zk (rs := [.tmp 2]) (vs := [_]) rfl ⟨rfl, trivial⟩ ?_));exact ⟨by refine congrArg (fun z => Ending.returned (.bool z)) ?_; first | (simp_all [PV.good, gr0]; done) | (simp_all [PV.good, gr0]; omega), (LW.step E XLW).toBelow⟩
theorem rg3 : Calls Try.prog 23 #[.agg #[.int .i64 3, .bool yes, .bool neg, .slice A xs.length c, .int .u64 ((bits : Nat) : Int), .string s, .slice B ni d]] w fun e w' => e = .returned (.bool (PV.good ⟨3, yes, neg, xs, bits, s, ni⟩)) ∧ Below w.heap.size w w' := by
 have _ := hx;have _ := hl;have hs0 : s.toList = [] → s.size = 0 := gc;refine yc Try.func23 rfl Try.ntmps23 rfl ?_;have HF : Per (No) w (fun _ => True) := Per.true_;have LW := erx (No) w;have XLW := grx (No) w;have E := erx (No) w;replace HF := HF.on E;replace LW := LW.step E XLW;replace E := erx (No) w;replace HF := HF.and (Per.nums0 hx);refine srx (za rfl (qh rfl ?_))
 intro gb1 w2 Bb1 Eb1 Gb1;have Gb1 : _ ≤ gb1 := Nat.le_trans E.size Gb1;have GLb1 := Nat.le_trans LW.size Gb1;replace E := E.trans Eb1.no;replace HF := HF.cons (vn Gb1);replace E := E.cons (some gb1);replace XLW := Mut.grow XLW (fun k e => Or.inr (Nat.le_trans LW.size ((vn Gb1) k e)));replace HF := HF.on E;replace LW := LW.step E XLW
 have SB : ∀ q9, No q9 → Mut [(some gb1)] q9 := (Mut.skip Mut.nil_);replace HF := HF.less SB;replace XLW := fun k h => XLW k (SB k h);clear SB;replace E := erx (No) w2;replace HF := HF.and (Per.blkN Bb1 NotIn.nil)
 refine anx rfl (zm (srx (za rfl (zc Try.underlying30 rfl sz3 (by decide) rfl (za rfl (ze Try.underlying3 rfl rfl (HF.on E).here.2 rfl (za rfl (yp rfl rfl (mvx rfl (onx rfl (zc Try.underlying30 rfl sz3 (by decide) rfl (onx rfl (ze Try.underlying3 rfl rfl (HF.on E).here.2 rfl (onx rfl (yy rfl rfl (za rfl (zh rfl rfl (mvx rfl (onx rfl (zc Try.underlying30 rfl sz28 (by decide) rfl (onx rfl (ze Try.underlying28 rfl rfl (HF.on E).here.2 rfl (onx rfl (yq Try.underlying28 rfl (onx rfl (yw rfl rfl (za rfl (zh rfl rfl (rnx (yl rfl (fun h1 => ?_) (fun h1 => ?_)))))))))))))))))))))))))))))))
 ·
  refine ye 16 (.bool true) rfl (congrArg Value.bool h1) (srx (anx rfl (zl (zf (zk (rs := [.tmp 2]) (vs := [_]) rfl ⟨rfl, trivial⟩ ?_)))));exact ⟨by refine congrArg (fun z => Ending.returned (.bool z)) ?_; first | (simp_all [PV.good, gr0]; done) | (simp_all [PV.good, gr0]; omega), (LW.step E XLW).toBelow⟩
 ·
  refine ye 16 (.bool false) rfl (congrArg Value.bool h1) (zo (zi (zm (srx (za rfl (zc Try.underlying30 rfl sz3 (by decide) rfl (za rfl (ze Try.underlying3 rfl rfl (HF.on E).here.2 rfl (za rfl (yw rfl rfl (mvx rfl (onx rfl (zc Try.underlying30 rfl sz4 (by decide) rfl (onx rfl (ze Try.underlying4 rfl rfl (HF.on E).here.2 rfl (za rfl (zu rfl rfl (mvx rfl (yt 24 rfl (fun h2 => ?_) (fun h2 => ?_))))))))))))))))))))
  ·
   refine za rfl (zd rfl (za rfl (zd rfl (za rfl (zd rfl (za rfl (zd rfl (za rfl (yz rfl rfl (za rfl (yz rfl rfl (za rfl (yz rfl rfl (za rfl (zd rfl (za rfl (zu rfl rfl (mvx rfl (za rfl (zd rfl (za rfl (zd rfl (za rfl (zd rfl (za rfl (zd rfl (za rfl (yz rfl rfl (za rfl (yz rfl rfl (za rfl (yz rfl rfl (za rfl (zd rfl (za rfl (zu rfl rfl (rnx (yd rfl (srx (anx rfl (zl (zf (zk (rs := [.tmp 2]) (vs := [_]) rfl ⟨rfl, trivial⟩ ?_)))))))))))))))))))))))))))))))))))))))))))
   exact ⟨by refine congrArg (fun z => Ending.returned (.bool z)) ?_; first | (simp_all [PV.good, gr0]; done) | (simp_all [PV.good, gr0]; omega), (LW.step E XLW).toBelow⟩
  ·
   refine onx rfl (zc Try.underlying30 rfl sz3 (by decide) rfl (onx rfl (ze Try.underlying3 rfl rfl (HF.on E).here.2 rfl (onx rfl (yw rfl rfl (onx rfl (zj rfl (za rfl (zd rfl (za rfl (zd rfl (za rfl (zd rfl (onx rfl (zh rfl rfl (za rfl (zh rfl rfl (mvx rfl (onx rfl (zc Try.underlying30 rfl sz3 (by decide) rfl (onx rfl (ze Try.underlying3 rfl rfl (HF.on E).here.2 rfl (onx rfl (yw rfl rfl (onx rfl (zj rfl (onx rfl (zc Try.underlying30 rfl sz9 (by decide) rfl (onx rfl (ze Try.underlying9 rfl rfl (HF.on E).here.2 rfl (onx rfl (zlz rfl rfl (onx rfl (zu rfl rfl (za rfl (zh rfl rfl (rnx (yl rfl (fun h3 => ?_) (fun h3 => ?_)))))))))))))))))))))))))))))))))))))))
   ·
    refine ye 43 (.bool true) rfl (congrArg Value.bool h3) (srx (anx rfl (zl (zf (zk (rs := [.tmp 2]) (vs := [_]) rfl ⟨rfl, trivial⟩ ?_)))));exact ⟨by refine congrArg (fun z => Ending.returned (.bool z)) ?_; first | (simp_all [PV.good, gr0]; done) | (simp_all [PV.good, gr0]; omega), (LW.step E XLW).toBelow⟩
   ·
    refine ye 43 (.bool false) rfl (congrArg Value.bool h3) (zo (zi (zm (srx (za rfl (zc Try.underlying30 rfl sz3 (by decide) rfl (za rfl (ze Try.underlying3 rfl rfl (HF.on E).here.2 rfl (za rfl (yw rfl rfl (rnx (yd rfl (srx (za rfl (zc Try.underlying30 rfl jn (by decide) rfl (za rfl (zc Try.underlying26 rfl sz4 (by decide) rfl (za rfl (ze Try.underlying4 rfl rfl (HF.on E).here.2 rfl (za rfl (qd rfl (mvx rfl (yt 51 rfl (fun h4 => ?_) (fun h4 => ?_))))))))))))))))))))))))
    ·
     refine onx rfl (zc Try.underlying30 rfl jn (by decide) rfl (onx rfl (zc Try.underlying26 rfl qy (by decide) rfl (onx rfl (ze Try.underlying22 rfl rfl (HF.on E).here.2 rfl (onx rfl (yq Try.underlying22 rfl (onx rfl (yr rfl rfl (za rfl (zu rfl rfl (mvx rfl (yt 58 rfl (fun h5 => ?_) (fun h5 => ?_))))))))))))))
     ·
      replace h5 := eq_of_beq h5;refine onx rfl (zc Try.underlying30 rfl sz9 (by decide) rfl (onx rfl (ze Try.underlying9 rfl rfl (HF.on E).here.2 rfl (onx rfl (jh Try.underlying9 rfl (onx rfl (jk rfl rfl (za rfl (zu rfl rfl (anx rfl (zl (zf (zk (rs := [.tmp 2]) (vs := [_]) rfl ⟨rfl, trivial⟩ ?_)))))))))))))
      exact ⟨by refine congrArg (fun z => Ending.returned (.bool z)) ?_; first | (simp_all [PV.good, gr0]; done) | (simp_all [PV.good, gr0]; omega), (LW.step E XLW).toBelow⟩
     ·
      replace h5 := beq_eq_false_iff_ne.1 h5;refine za rfl (zd rfl (za rfl (zd rfl (za rfl (zd rfl (za rfl (zd rfl (za rfl (zh rfl rfl (anx rfl (zl (zf (zk (rs := [.tmp 2]) (vs := [_]) rfl ⟨rfl, trivial⟩ ?_)))))))))))))
      exact ⟨by refine congrArg (fun z => Ending.returned (.bool z)) ?_; first | (simp_all [PV.good, gr0]; done) | (simp_all [PV.good, gr0]; omega), (LW.step E XLW).toBelow⟩
    ·
     refine za rfl (zd rfl (za rfl (zd rfl (za rfl (zd rfl (za rfl (zd rfl (za rfl (zd rfl (za rfl (zh rfl rfl (mvx rfl (za rfl (zd rfl (za rfl (zd rfl (za rfl (zd rfl (za rfl (zd rfl (za rfl (zh rfl rfl (anx rfl (zl (zf (zk (rs := [.tmp 2]) (vs := [_]) rfl ⟨rfl, trivial⟩ ?_))))))))))))))))))))))))))
     exact ⟨by refine congrArg (fun z => Ending.returned (.bool z)) ?_; first | (simp_all [PV.good, gr0]; done) | (simp_all [PV.good, gr0]; omega), (LW.step E XLW).toBelow⟩
theorem rg4 : Calls Try.prog 23 #[.agg #[.int .i64 4, .bool yes, .bool neg, .slice A xs.length c, .int .u64 ((bits : Nat) : Int), .string s, .slice B ni d]] w fun e w' => e = .returned (.bool (PV.good ⟨4, yes, neg, xs, bits, s, ni⟩)) ∧ Below w.heap.size w w' := by
 have _ := hx;have _ := hl;have hs0 : s.toList = [] → s.size = 0 := gc;refine yc Try.func23 rfl Try.ntmps23 rfl ?_;have HF : Per (No) w (fun _ => True) := Per.true_;have LW := erx (No) w;have XLW := grx (No) w;have E := erx (No) w;replace HF := HF.on E;replace LW := LW.step E XLW;replace E := erx (No) w;replace HF := HF.and (Per.nums0 hx);refine srx (za rfl (qh rfl ?_))
 intro gb1 w2 Bb1 Eb1 Gb1;have Gb1 : _ ≤ gb1 := Nat.le_trans E.size Gb1;have GLb1 := Nat.le_trans LW.size Gb1;replace E := E.trans Eb1.no;replace HF := HF.cons (vn Gb1);replace E := E.cons (some gb1);replace XLW := Mut.grow XLW (fun k e => Or.inr (Nat.le_trans LW.size ((vn Gb1) k e)));replace HF := HF.on E;replace LW := LW.step E XLW
 have SB : ∀ q9, No q9 → Mut [(some gb1)] q9 := (Mut.skip Mut.nil_);replace HF := HF.less SB;replace XLW := fun k h => XLW k (SB k h);clear SB;replace E := erx (No) w2;replace HF := HF.and (Per.blkN Bb1 NotIn.nil)
 refine anx rfl (zm (srx (za rfl (zc Try.underlying30 rfl sz3 (by decide) rfl (za rfl (ze Try.underlying3 rfl rfl (HF.on E).here.2 rfl (za rfl (yp rfl rfl (mvx rfl (onx rfl (zc Try.underlying30 rfl sz3 (by decide) rfl (onx rfl (ze Try.underlying3 rfl rfl (HF.on E).here.2 rfl (onx rfl (yy rfl rfl (za rfl (zh rfl rfl (mvx rfl (onx rfl (zc Try.underlying30 rfl sz28 (by decide) rfl (onx rfl (ze Try.underlying28 rfl rfl (HF.on E).here.2 rfl (onx rfl (yq Try.underlying28 rfl (onx rfl (yw rfl rfl (za rfl (zh rfl rfl (rnx (yl rfl (fun h1 => ?_) (fun h1 => ?_)))))))))))))))))))))))))))))))
 ·
  refine ye 16 (.bool true) rfl (congrArg Value.bool h1) (srx (anx rfl (zl (zf (zk (rs := [.tmp 2]) (vs := [_]) rfl ⟨rfl, trivial⟩ ?_)))));exact ⟨by refine congrArg (fun z => Ending.returned (.bool z)) ?_; first | (simp_all [PV.good, gr0]; done) | (simp_all [PV.good, gr0]; omega), (LW.step E XLW).toBelow⟩
 ·
  refine ye 16 (.bool false) rfl (congrArg Value.bool h1) (zo (zi (zm (srx (za rfl (zc Try.underlying30 rfl sz3 (by decide) rfl (za rfl (ze Try.underlying3 rfl rfl (HF.on E).here.2 rfl (za rfl (yw rfl rfl (mvx rfl (onx rfl (zc Try.underlying30 rfl sz4 (by decide) rfl (onx rfl (ze Try.underlying4 rfl rfl (HF.on E).here.2 rfl (za rfl (zu rfl rfl (mvx rfl (yt 24 rfl (fun h2 => ?_) (fun h2 => ?_))))))))))))))))))))
  ·
   refine za rfl (zd rfl (za rfl (zd rfl (za rfl (zd rfl (za rfl (zd rfl (za rfl (yz rfl rfl (za rfl (yz rfl rfl (za rfl (yz rfl rfl (za rfl (zd rfl (za rfl (zu rfl rfl (mvx rfl (za rfl (zd rfl (za rfl (zd rfl (za rfl (zd rfl (za rfl (zd rfl (za rfl (yz rfl rfl (za rfl (yz rfl rfl (za rfl (yz rfl rfl (za rfl (zd rfl (za rfl (zu rfl rfl (rnx (yd rfl (srx (anx rfl (zl (zf (zk (rs := [.tmp 2]) (vs := [_]) rfl ⟨rfl, trivial⟩ ?_)))))))))))))))))))))))))))))))))))))))))))
   exact ⟨by refine congrArg (fun z => Ending.returned (.bool z)) ?_; first | (simp_all [PV.good, gr0]; done) | (simp_all [PV.good, gr0]; omega), (LW.step E XLW).toBelow⟩
  ·
   refine onx rfl (zc Try.underlying30 rfl sz3 (by decide) rfl (onx rfl (ze Try.underlying3 rfl rfl (HF.on E).here.2 rfl (onx rfl (yw rfl rfl (onx rfl (zj rfl (onx rfl (zc Try.underlying30 rfl qk (by decide) rfl (onx rfl (ze Try.underlying27 rfl rfl (HF.on E).here.2 rfl (onx rfl (yw rfl rfl (onx rfl (zu rfl rfl (za rfl (zh rfl rfl (mvx rfl (yt 34 rfl (fun h3 => ?_) (fun h3 => ?_))))))))))))))))))))
   ·
    refine za rfl (zd rfl (za rfl (zd rfl (za rfl (zd rfl (za rfl (zd rfl (za rfl (yz rfl rfl (za rfl (yz rfl rfl (za rfl (yz rfl rfl (za rfl (zd rfl (za rfl (zu rfl rfl (rnx (yd rfl (srx (anx rfl (zl (zf (zk (rs := [.tmp 2]) (vs := [_]) rfl ⟨rfl, trivial⟩ ?_))))))))))))))))))))))))
    exact ⟨by refine congrArg (fun z => Ending.returned (.bool z)) ?_; first | (simp_all [PV.good, gr0]; done) | (simp_all [PV.good, gr0]; omega), (LW.step E XLW).toBelow⟩
   ·
    refine onx rfl (zc Try.underlying30 rfl sz3 (by decide) rfl (onx rfl (ze Try.underlying3 rfl rfl (HF.on E).here.2 rfl (onx rfl (yw rfl rfl (onx rfl (zj rfl (za rfl (zd rfl (za rfl (zd rfl (za rfl (zd rfl (onx rfl (zh rfl rfl (za rfl (zh rfl rfl (rnx (zw rfl (zo (zi (zm (srx (za rfl (zc Try.underlying30 rfl sz3 (by decide) rfl (za rfl (ze Try.underlying3 rfl rfl (HF.on E).here.2 rfl (za rfl (yw rfl rfl (rnx (yd rfl (srx (za rfl (zc Try.underlying30 rfl jn (by decide) rfl (za rfl (zc Try.underlying26 rfl sz4 (by decide) rfl (za rfl (ze Try.underlying4 rfl rfl (HF.on E).here.2 rfl (za rfl (qd rfl (mvx rfl (yt 51 rfl (fun h4 => ?_) (fun h4 => ?_)))))))))))))))))))))))))))))))))))))))))))
    ·
     refine onx rfl (zc Try.underlying30 rfl jn (by decide) rfl (onx rfl (zc Try.underlying26 rfl qy (by decide) rfl (onx rfl (ze Try.underlying22 rfl rfl (HF.on E).here.2 rfl (onx rfl (yq Try.underlying22 rfl (onx rfl (yr rfl rfl (za rfl (zu rfl rfl (mvx rfl (yt 58 rfl (fun h5 => ?_) (fun h5 => ?_))))))))))))))
     ·
      replace h5 := eq_of_beq h5;refine onx rfl (zc Try.underlying30 rfl sz9 (by decide) rfl (onx rfl (ze Try.underlying9 rfl rfl (HF.on E).here.2 rfl (onx rfl (jh Try.underlying9 rfl (onx rfl (jk rfl rfl (za rfl (zu rfl rfl (anx rfl (zl (zf (zk (rs := [.tmp 2]) (vs := [_]) rfl ⟨rfl, trivial⟩ ?_)))))))))))))
      exact ⟨by refine congrArg (fun z => Ending.returned (.bool z)) ?_; first | (simp_all [PV.good, gr0]; done) | (simp_all [PV.good, gr0]; omega), (LW.step E XLW).toBelow⟩
     ·
      replace h5 := beq_eq_false_iff_ne.1 h5;refine za rfl (zd rfl (za rfl (zd rfl (za rfl (zd rfl (za rfl (zd rfl (za rfl (zh rfl rfl (anx rfl (zl (zf (zk (rs := [.tmp 2]) (vs := [_]) rfl ⟨rfl, trivial⟩ ?_)))))))))))))
      exact ⟨by refine congrArg (fun z => Ending.returned (.bool z)) ?_; first | (simp_all [PV.good, gr0]; done) | (simp_all [PV.good, gr0]; omega), (LW.step E XLW).toBelow⟩
    ·
     refine za rfl (zd rfl (za rfl (zd rfl (za rfl (zd rfl (za rfl (zd rfl (za rfl (zd rfl (za rfl (zh rfl rfl (mvx rfl (za rfl (zd rfl (za rfl (zd rfl (za rfl (zd rfl (za rfl (zd rfl (za rfl (zh rfl rfl (anx rfl (zl (zf (zk (rs := [.tmp 2]) (vs := [_]) rfl ⟨rfl, trivial⟩ ?_))))))))))))))))))))))))))
     exact ⟨by refine congrArg (fun z => Ending.returned (.bool z)) ?_; first | (simp_all [PV.good, gr0]; done) | (simp_all [PV.good, gr0]; omega), (LW.step E XLW).toBelow⟩
theorem rgx (hk : k < 0 ∨ 4 < k) : Calls Try.prog 23 #[.agg #[.int .i64 k, .bool yes, .bool neg, .slice A xs.length c, .int .u64 ((bits : Nat) : Int), .string s, .slice B ni d]] w fun e w' => e = .returned (.bool (PV.good ⟨k, yes, neg, xs, bits, s, ni⟩)) ∧ Below w.heap.size w w' := by
 have _ := hx;have _ := hl;have e : PV.good ⟨k, yes, neg, xs, bits, s, ni⟩ = false := by unfold PV.good; simp only []; rw [if_neg (by omega), if_neg (by omega), if_neg (by omega), if_neg (by omega), if_neg (by omega), Bool.and_false]
 rw [e];refine yc Try.func23 rfl Try.ntmps23 rfl ?_;have HF : Per (No) w (fun _ => True) := Per.true_;have LW := erx (No) w;have XLW := grx (No) w;have E := erx (No) w;refine srx (za rfl (qh rfl ?_));intro gb1 w2 Bb1 Eb1 Gb1;have Gb1 : _ ≤ gb1 := Nat.le_trans E.size Gb1;have GLb1 := Nat.le_trans LW.size Gb1;replace E := E.trans Eb1.no;replace HF := HF.cons (vn Gb1)
 replace E := E.cons (some gb1);replace XLW := Mut.grow XLW (fun k e => Or.inr (Nat.le_trans LW.size ((vn Gb1) k e)));replace HF := HF.on E;replace LW := LW.step E XLW;have SB : ∀ q9, No q9 → Mut [(some gb1)] q9 := (Mut.skip Mut.nil_);replace HF := HF.less SB;replace XLW := fun k h => XLW k (SB k h);clear SB;replace E := erx (No) w2;replace HF := HF.and (Per.blkN Bb1 NotIn.nil)
 refine anx rfl (zm (srx (za rfl (zc Try.underlying30 rfl sz3 (by decide) rfl (za rfl (ze Try.underlying3 rfl rfl (HF.on E).here.2 rfl (za rfl (yp rfl rfl (mvx rfl ?_)))))))));by_cases q0 : k < 0
 ·
  refine zq 6 (.bool true) rfl ((by rw [decide_eq_true q0] : (.bool (decide (k < 0)) : Value) = _)) (za rfl (zd rfl (za rfl (zd rfl (za rfl (zd rfl (za rfl (zu rfl rfl (mvx rfl (za rfl (zd rfl (za rfl (zd rfl (za rfl (zd rfl (za rfl (zd rfl (za rfl (zu rfl rfl (rnx (yd rfl (srx (anx rfl (zl (zf (zk (rs := [.tmp 2]) (vs := [_]) rfl ⟨rfl, trivial⟩ ?_))))))))))))))))))))))))))
  exact ⟨rfl, (LW.step E XLW).toBelow⟩
 ·
  refine zq 6 (.bool false) rfl ((by rw [decide_eq_false q0] : (.bool (decide (k < 0)) : Value) = _)) (onx rfl (zc Try.underlying30 rfl sz3 (by decide) rfl (onx rfl (ze Try.underlying3 rfl rfl (HF.on E).here.2 rfl (onx rfl (yy rfl rfl (za rfl (zh rfl rfl (mvx rfl (zq 11 (.bool true) rfl ((by rw [decide_eq_true (by omega)] : (.bool (decide (4 < k)) : Value) = _)) (za rfl (zd rfl (za rfl (zd rfl (za rfl (zd rfl (za rfl (zd rfl (za rfl (zu rfl rfl (rnx (yd rfl (srx (anx rfl (zl (zf (zk (rs := [.tmp 2]) (vs := [_]) rfl ⟨rfl, trivial⟩ ?_)))))))))))))))))))))))))))
  exact ⟨rfl, (LW.step E XLW).toBelow⟩
theorem rpgood_any : Calls Try.prog 23 #[.agg #[.int .i64 k, .bool yes, .bool neg, .slice A xs.length c, .int .u64 ((bits : Nat) : Int), .string s, .slice B ni d]] w fun e w' => e = .returned (.bool (PV.good ⟨k, yes, neg, xs, bits, s, ni⟩)) ∧ Below w.heap.size w w' := by
 by_cases hk : k < 0 ∨ 4 < k
 · exact rgx w k yes neg A B xs c bits ni d s hx hl hk
 · obtain rfl | rfl | rfl | rfl | rfl : k = 0 ∨ k = 1 ∨ k = 2 ∨ k = 3 ∨ k = 4 := by omega
   · exact rg0 w yes neg A B xs c bits ni d s hx hl
   · exact rg1 w yes neg A B xs c bits ni d s hx hl
   · exact rg2 w yes neg A B xs c bits ni d s hx hl
   · exact rg3 w yes neg A B xs c bits ni d s hx hl
   · exact rg4 w yes neg A B xs c bits ni d s hx hl
end
end Go.Proofs.Ytjhmifebmplahaa
namespace Go.Proofs.Ytjhmifebmplahaa
open Go.RowKit
set_option maxRecDepth 100000
attribute [local irreducible] OW RS
def gj (n : Int) : Nat := if 0 ≤ n then 4 * n.natAbs + 1 else 18446744073709551617 - 4 * n.natAbs
theorem kf {x z k : Int} (hz : 0 ≤ z ∧ z < 18446744073709551616) (h : x = z + k * 18446744073709551616) : IntKind.u64.wrap x = z := by
 unfold IntKind.wrap;simp only [IntKind.bits, IntKind.signed, Bool.false_and, Bool.false_eq_true, if_false]
 omega
section
variable (w : World) (n : Int) (h1 : -999999999999999999 ≤ n) (h2 : n ≤ 999999999999999999)
include h1 h2
theorem wsmall_any : Calls Try.prog 36 #[.int .i64 n] w fun e w' => e = .returned (.tuple #[.int .u64 ((gj n : Nat) : Int), .int .i64 0]) ∧ Below w.heap.size w w' := by
 obtain ⟨x, hx⟩ : ∃ x : Nat, x = if 0 ≤ n then 4 * n.natAbs else 18446744073709551616 - 4 * n.natAbs := ⟨_, rfl⟩
 have hx4 : x % 4 = 0 := by rw [hx]; split <;> omega
 have hxl : x < 18446744073709551616 := by rw [hx]; split <;> omega
 have hxs : x + 1 = gj n := by rw [hx]; unfold gj; split <;> omega
 obtain ⟨u, hu⟩ : ∃ u : Nat, u = if 0 ≤ n then n.natAbs else 18446744073709551616 - n.natAbs := ⟨_, rfl⟩
 have hcv : IntKind.u64.wrap n = ((u : Nat) : Int) := by
  rw [hu];split
  · exact kf (k := 0) (by omega) (by omega)
  · exact kf (k := -1) (by omega) (by omega)
 have hsh : IntKind.u64.wrap (((u : Nat) : Int) * 4) = ((x : Nat) : Int) := by
  rw [hu, hx];split
  · exact kf (k := 0) (by omega) (by omega)
  · exact kf (k := 3) (by omega) (by omega)
 refine yc Try.func36 rfl Try.ntmps36 rfl (srx (avx rfl (anx rfl (zm (srx (mvx rfl (za rfl (yp rfl rfl (zq 5 (.bool false) rfl ((by rw [decide_eq_false]; omega : (.bool (decide (n < -999999999999999999)) : Value) = _)) (mvx rfl (onx rfl (zj rfl (onx rfl (yy rfl rfl (zq 8 (.bool false) rfl ((by rw [decide_eq_false]; omega : (.bool (decide ((999999999999999999 : Int) < n)) : Value) = _)) (za rfl (zh rfl rfl (rnx (zw rfl (zo (zi (srx (mvx rfl (za rfl (qc Try.underlying27 Try.underlying3 rfl hcv (za rfl (xf rfl rfl (by decide) hsh (za rfl (zjz rfl rfl (or_maskO (x := x) (y := 1) (k := 2) hxl (by decide) (by decide) hx4) (zq 13 (.int .u64 ((gj n : Nat) : Int)) rfl ((by rw [hxs] : (.int .u64 ((x + 1 : Nat) : Int) : Value) = _)) (avx rfl (anx rfl (zl (zk (rs := [.tmp 2, .tmp 3]) (vs := [_, _]) rfl ⟨rfl, rfl, trivial⟩ ?_))))))))))))))))))))))))))))))))))
 exact ⟨rfl, Below.refl _ _⟩
theorem rwsmall_any : Calls Try.prog 28 #[.int .i64 n] w fun e w' => e = .returned (.tuple #[.int .u64 ((gj n : Nat) : Int), .int .i64 0]) ∧ Below w.heap.size w w' := by
 refine yc Try.func28 rfl Try.ntmps28 rfl (srx (avx rfl (anx rfl (zm (srx (mvx rfl (za rfl (yy rfl rfl (zq 5 (.bool false) rfl ((by rw [decide_eq_false]; omega : (.bool (decide ((999999999999999999 : Int) < n)) : Value) = _)) (mvx rfl (onx rfl (zj rfl (onx rfl (yp rfl rfl (zq 8 (.bool false) rfl ((by rw [decide_eq_false]; omega : (.bool (decide (n < -999999999999999999)) : Value) = _)) (za rfl (zh rfl rfl (rnx (zw rfl (zo (zi (zm (srx (mvx rfl (za rfl (yp rfl rfl (rnx ?_)))))))))))))))))))))))))))
 by_cases h0 : n < 0
 ·
  refine ye 11 (.bool true) rfl ((by rw [decide_eq_true h0] : (.bool (decide (n < 0)) : Value) = _)) (yd rfl (srx (mvx rfl (za rfl (ow_neg rfl (show IntKind.i64.wrap (0 - n) = ((n.natAbs : Nat) : Int) from by rw [zt (by omega)]; omega) (za rfl (qc Try.underlying27 Try.underlying3 rfl (show IntKind.u64.wrap ((n.natAbs : Nat) : Int) = _ from yi (by omega)) (za rfl (ju rfl rfl (show IntKind.u64.wrap (4 * ((n.natAbs : Nat) : Int)) = ((4 * n.natAbs : Nat) : Int) from by rw [yi (by omega)]; omega) (za rfl (vu rfl rfl (show IntKind.u64.wrap (0 - ((4 * n.natAbs : Nat) : Int)) = ((18446744073709551616 - 4 * n.natAbs : Nat) : Int) from kf (k := -1) (by omega) (by omega)) (za rfl (yg rfl rfl (show IntKind.u64.wrap (((18446744073709551616 - 4 * n.natAbs : Nat) : Int) + 1) = ((gj n : Nat) : Int) from by unfold gj; rw [if_neg (by omega)]; exact kf (k := 0) (by omega) (by omega)) (avx rfl (anx rfl (zl (zf (zk (rs := [.tmp 2, .tmp 3]) (vs := [_, _]) rfl ⟨rfl, rfl, trivial⟩ ?_))))))))))))))))))
  exact ⟨rfl, Below.refl _ _⟩
 ·
  refine ye 11 (.bool false) rfl ((by rw [decide_eq_false h0] : (.bool (decide (n < 0)) : Value) = _)) (zw rfl (zo (zi (srx (mvx rfl (za rfl (qc Try.underlying27 Try.underlying3 rfl (show IntKind.u64.wrap n = ((n.natAbs : Nat) : Int) from kf (k := 0) (by omega) (by omega)) (za rfl (ju rfl rfl (show IntKind.u64.wrap (4 * ((n.natAbs : Nat) : Int)) = ((4 * n.natAbs : Nat) : Int) from by rw [yi (by omega)]; omega) (za rfl (yg rfl rfl (show IntKind.u64.wrap (((4 * n.natAbs : Nat) : Int) + 1) = ((gj n : Nat) : Int) from by unfold gj; rw [if_pos (by omega)]; exact kf (k := 0) (by omega) (by omega)) (avx rfl (anx rfl (zl (zk (rs := [.tmp 2, .tmp 3]) (vs := [_, _]) rfl ⟨rfl, rfl, trivial⟩ ?_)))))))))))))))
  exact ⟨rfl, Below.refl _ _⟩
end
theorem neg_twice {b : Nat} (hb : b < 18446744073709551616) : vq (va (vq (va b))) = vq b := by
 have e1 : isN (va b) = isN b := zcx hb;have hb2 := (zeq hb).2.2;by_cases h : isN b = true
 · have e2 : isN (va 9221120237041090560) = true := by rw [zcx (by decide)]; decide
   unfold vq;rw [if_pos (e1.trans h), if_pos e2, if_pos h]
 · have h2 : ¬ isN (va b) = true := by rw [e1]; exact h
   have h3 : ¬ isN (va (va b)) = true := by rw [zcx hb2]; exact h2
   unfold vq;rw [if_neg h2, if_neg h3, if_neg h];unfold va;rw [Nat.xor_assoc, Nat.xor_self, Nat.xor_zero]
theorem rfloat_any (w : World) (b : Nat) (hb : b < 18446744073709551616) : Calls Try.prog 24 #[.int .u64 ((b : Nat) : Int)] w fun e w' => e = .returned (.agg #[.int .i64 3, .bool false, .bool false, .slice none 0 0, .int .u64 ((vq b : Nat) : Int), .string ⟨#[]⟩, .slice none 0 0]) ∧ Below w.heap.size w w' := by
 refine yc Try.func24 rfl Try.ntmps24 rfl (srx (za rfl (yo zr30 ?_)));rintro g2 wB B2 E2 G2;refine rnx (zm (srx (mvx rfl (za rfl (zp en48 rfl ((isnan_any _ b hb).mono ?_))))));rintro e w1 ⟨rfl, hb⟩;refine ⟨_, rfl, ?_⟩;have E3 := E2.trans (Ext.of_below hb No);have B3 := B2.ext (Ext.of_below hb No) (fun h => h.elim);by_cases hn : isN b = true
 ·
  refine zq 4 (.bool true) rfl ((by rw [hn] : (.bool (isN b) : Value) = _)) (rnx (yd rfl (yh (anx rfl (srx (mvx rfl (za rfl (vv (cs := #[.int .i64 3, .bool false, .bool false, .slice none 0 0, .int .u64 9221120237041090560, .string ⟨#[]⟩, .slice none 0 0]) pl30 zr30 rfl rfl (ym (ya sz30 rfl rfl B3 rfl rfl rfl ?_))))))))));rintro wC B2e E4
  refine rnx (zl (zk (rs := [.cell 2 30]) (vs := [_]) rfl ⟨⟨_, rfl, qm Try.underlying30 rfl sz30 B2e rfl⟩, trivial⟩ ?_));exact ⟨by unfold vq; rw [if_pos hn]; rfl, ((E3.noL w.heap.size).step E4 (fun q hq => Or.inl (show w.heap.size ≤ q by have := yx hq; omega))).below (fun _ h => h)⟩
 ·
  have hn' : isN b = false := by cases h9 : isN b <;> simp_all
  refine zq 4 (.bool false) rfl ((by rw [hn'] : (.bool (isN b) : Value) = _)) (rnx (zw rfl (zo (zi (srx (mvx rfl (za rfl (vv (cs := #[.int .i64 3, .bool false, .bool false, .slice none 0 0, .int .u64 ((b : Nat) : Int), .string ⟨#[]⟩, .slice none 0 0]) pl30 zr30 rfl rfl (ym (ya sz30 rfl rfl B3 rfl rfl rfl ?_))))))))));rintro wC B2e E4
  refine rnx (zl (zk (rs := [.cell 2 30]) (vs := [_]) rfl ⟨⟨_, rfl, qm Try.underlying30 rfl sz30 B2e rfl⟩, trivial⟩ ?_));exact ⟨by unfold vq; rw [if_neg hn]; rfl, ((E3.noL w.heap.size).step E4 (fun q hq => Or.inl (show w.heap.size ≤ q by have := yx hq; omega))).below (fun _ h => h)⟩
end Go.Proofs.Ytjhmifebmplahaa
namespace Go.Proofs.Ytjhmifebmplahaa
open Go.RowKit
set_option maxRecDepth 100000
attribute [local irreducible] OW RS
theorem NewM.rest {W V : List Nat} {top h i j : Nat} (hN : NewM W V top h i) (hz : ∀ i, top ≤ i → wat W i = 0) (hj : top + 2 + i ≤ j) (hl : j < W.length) : V.set j 0 = V := by
 refine set_zero (by rw [hN.1]; exact hl) ?_;rw [hN.2 j hl, if_neg (by omega), if_neg (by omega)];exact hz j (by omega)
theorem OwnM.same {lo gm gW cap top : Nat} {w w' : World} {W : List Nat} (h : OwnM lo w gm gW cap W top) (ho : w'.ownsRow lo 27 1 (.slice (some ⟨gW, 0, none⟩) W.length cap) W.length (yf W)) (k : Ext (Mut [some gW]) w w') : OwnM lo w' gm gW cap W top :=
 ⟨kx h.mb h.row (by decide) k, ho, h.in_, h.one, h.len, h.most⟩
section
variable (w : World) (A : Option Addr) (W : List Nat) (c n top k t r : Nat) (hM : MemA n w A W top) (hk : 1 ≤ k ∧ k < 256) (ht : t ≤ 1048576) (hr : r ≤ 1048576)
include hM hk ht hr
theorem ralloc_full (hf : W.length < top + (2 + t + r)) : Calls Try.prog 50 #[ks A W c top, .int .i64 ((k : Nat) : Int), .int .i64 ((t : Nat) : Int), .int .i64 ((r : Nat) : Int)] w fun e w' => e = .returned (.tuple #[ks A W c top, .int .i64 0, .int .i64 5]) ∧ Below w.heap.size w w' := by
 have h1 := hM.one;have h3 := hM.len;have h4 := hM.most;have hnw := hM.size;refine yc Try.func50 rfl Try.ntmps50 rfl (srx (za rfl (qh rfl ?_)));rintro g4 wA B4 E1 G4;refine za rfl (yo gu ?_);rintro g8 wB B8 E2 G8;have hs1 := E1.size;have hs2 := E2.size;have h4l := B4.lt;have h8l := B8.lt;have E12 := E1.trans E2
 have B4b : Blk wB g4 24 #[.slice A W.length c, .int .i64 ((top : Nat) : Int)] := B4.ext E2 (fun h => h.elim)
 refine avx rfl (anx rfl (zm (srx (za rfl (zc Try.underlying24 rfl sz3 (by decide) rfl (za rfl (ze Try.underlying3 rfl rfl B4b rfl (za rfl (yp rfl rfl (zq 17 (.bool false) rfl ((by rw [decide_eq_false]; omega : (.bool (decide (((top : Nat) : Int) < 1)) : Value) = _)) (mvx rfl (onx rfl (zc Try.underlying24 rfl sz3 (by decide) rfl (onx rfl (ze Try.underlying3 rfl rfl B4b rfl (onx rfl (zc Try.underlying24 rfl qy (by decide) rfl (onx rfl (ze Try.underlying22 rfl rfl B4b rfl (onx rfl (yq Try.underlying22 rfl (onx rfl (yy rfl rfl (zq 24 (.bool false) rfl ((by rw [decide_eq_false]; omega : (.bool (decide (((W.length : Nat) : Int) < ((top : Nat) : Int))) : Value) = _)) (za rfl (zh rfl rfl (mvx rfl (onx rfl (zj rfl (onx rfl (yp rfl rfl (zq 28 (.bool false) rfl ((by rw [decide_eq_false]; omega : (.bool (decide (((k : Nat) : Int) < 1)) : Value) = _)) (za rfl (zh rfl rfl (mvx rfl (onx rfl (zj rfl (onx rfl (yy rfl rfl (zq 32 (.bool false) rfl ((by rw [decide_eq_false]; omega : (.bool (decide ((255 : Int) < ((k : Nat) : Int))) : Value) = _)) (za rfl (zh rfl rfl (mvx rfl (onx rfl (zj rfl (onx rfl (yp rfl rfl (zq 36 (.bool false) rfl ((by rw [decide_eq_false]; omega : (.bool (decide (((t : Nat) : Int) < 0)) : Value) = _)) (za rfl (zh rfl rfl (mvx rfl (onx rfl (zj rfl (onx rfl (yy rfl rfl (zq 40 (.bool false) rfl ((by rw [decide_eq_false]; omega : (.bool (decide ((1048576 : Int) < ((t : Nat) : Int))) : Value) = _)) (za rfl (zh rfl rfl ?_))))))))))))))))))))))))))))))))))))))))))))))))))))))))))
 refine mvx rfl (onx rfl (zj rfl (onx rfl (yp rfl rfl (zq 44 (.bool false) rfl ((by rw [decide_eq_false]; omega : (.bool (decide (((r : Nat) : Int) < 0)) : Value) = _)) (za rfl (zh rfl rfl (mvx rfl (onx rfl (zj rfl (onx rfl (yy rfl rfl (zq 48 (.bool false) rfl ((by rw [decide_eq_false]; omega : (.bool (decide ((1048576 : Int) < ((r : Nat) : Int))) : Value) = _)) (za rfl (zh rfl rfl (rnx (zw rfl (zo (zi (srx (mvx rfl (mvx rfl (za rfl (yg rfl rfl (zt (by omega)) (za rfl (yg rfl rfl (zt (by omega)) (anx rfl (zm (srx (mvx rfl (zq 11 (.int .i64 ((2 + t + r : Nat) : Int)) rfl ((by first | rfl | (congr 1; omega) : (.int .i64 ((((t : Nat) : Int) + ((r : Nat) : Int)) + 2) : Value) = _)) (zq 55 (.int .i64 ((2 + t + r : Nat) : Int)) rfl ((by first | rfl | (congr 1; omega) : (.int .i64 ((((t : Nat) : Int) + ((r : Nat) : Int)) + 2) : Value) = _)) (za rfl (jb rfl rfl (zq 56 (.bool false) rfl ((by rw [decide_eq_false]; omega : (.bool (decide ((16777216 : Int) ≤ ((2 + t + r : Nat) : Int))) : Value) = _)) (mvx rfl (onx rfl (zc Try.underlying24 rfl sz3 (by decide) rfl (onx rfl (ze Try.underlying3 rfl rfl B4b rfl (onx rfl (zj rfl (onx rfl (yg rfl rfl (zt (by omega)) (onx rfl (zc Try.underlying24 rfl qy (by decide) rfl (onx rfl (ze Try.underlying22 rfl rfl B4b rfl (onx rfl (yq Try.underlying22 rfl ?_))))))))))))))))))))))))))))))))))))))))))))))))))
 refine onx rfl (yy rfl rfl (zq 65 (.bool true) rfl ((by rw [decide_eq_true]; omega : (.bool (decide (((W.length : Nat) : Int) < ((top : Nat) : Int) + ((2 + t + r : Nat) : Int))) : Value) = _)) (za rfl (zh rfl rfl (rnx (yd rfl (srx (za rfl (yb Try.underlying24 rfl qb rfl B4b rfl (ym (ya qb rfl rfl B8 rfl rfl rfl ?_)))))))))));rintro wC B8c E3
 refine avx rfl (anx rfl (zl (zf (zk (rs := [.cell 8 24, .tmp 9, .tmp 10]) (vs := [_, _, _]) rfl ⟨⟨_, rfl, qm Try.underlying24 rfl qb B8c rfl⟩, rfl, rfl, trivial⟩ ?_))));exact ⟨rfl, ((E12.noL w.heap.size).step E3 (fun q hq => Or.inl (show w.heap.size ≤ q by have := yx hq; omega))).below (fun _ h => h)⟩
set_option maxHeartbeats 1000000 in
theorem ralloc_ok (hz : ∀ i, top ≤ i → wat W i = 0) (hf : top + (2 + t + r) ≤ W.length) : Calls Try.prog 50 #[ks A W c top, .int .i64 ((k : Nat) : Int), .int .i64 ((t : Nat) : Int), .int .i64 ((r : Nat) : Int)] w fun e w' => (∃ gW cap, e = .returned (.tuple #[.agg #[.slice (some ⟨gW, 0, none⟩) W.length cap, .int .i64 ((top + (2 + t + r) : Nat) : Int)], .int .i64 ((top : Nat) : Int), .int .i64 0]) ∧ w'.ownsRow w.heap.size 27 1 (.slice (some ⟨gW, 0, none⟩) W.length cap) W.length (yf (laid W top k (List.replicate t 2) (List.replicate r 0)))) ∧ Below w.heap.size w w' := by
 have h1 := hM.one;have h3 := hM.len;have h4 := hM.most;have hnw := hM.size;refine yc Try.func50 rfl Try.ntmps50 rfl (srx (za rfl (qh rfl ?_)));rintro g4 wA B4 E1 G4;refine za rfl (yo gu ?_);rintro g8 wB B8 E2 G8;have hs1 := E1.size;have hs2 := E2.size;have h4l := B4.lt;have h8l := B8.lt;have E12 := E1.trans E2
 have B4b : Blk wB g4 24 #[.slice A W.length c, .int .i64 ((top : Nat) : Int)] := B4.ext E2 (fun h => h.elim)
 refine avx rfl (anx rfl (zm (srx (za rfl (zc Try.underlying24 rfl sz3 (by decide) rfl (za rfl (ze Try.underlying3 rfl rfl B4b rfl (za rfl (yp rfl rfl (zq 17 (.bool false) rfl ((by rw [decide_eq_false]; omega : (.bool (decide (((top : Nat) : Int) < 1)) : Value) = _)) (mvx rfl (onx rfl (zc Try.underlying24 rfl sz3 (by decide) rfl (onx rfl (ze Try.underlying3 rfl rfl B4b rfl (onx rfl (zc Try.underlying24 rfl qy (by decide) rfl (onx rfl (ze Try.underlying22 rfl rfl B4b rfl (onx rfl (yq Try.underlying22 rfl (onx rfl (yy rfl rfl (zq 24 (.bool false) rfl ((by rw [decide_eq_false]; omega : (.bool (decide (((W.length : Nat) : Int) < ((top : Nat) : Int))) : Value) = _)) (za rfl (zh rfl rfl (mvx rfl (onx rfl (zj rfl (onx rfl (yp rfl rfl (zq 28 (.bool false) rfl ((by rw [decide_eq_false]; omega : (.bool (decide (((k : Nat) : Int) < 1)) : Value) = _)) (za rfl (zh rfl rfl (mvx rfl (onx rfl (zj rfl (onx rfl (yy rfl rfl (zq 32 (.bool false) rfl ((by rw [decide_eq_false]; omega : (.bool (decide ((255 : Int) < ((k : Nat) : Int))) : Value) = _)) (za rfl (zh rfl rfl (mvx rfl (onx rfl (zj rfl (onx rfl (yp rfl rfl (zq 36 (.bool false) rfl ((by rw [decide_eq_false]; omega : (.bool (decide (((t : Nat) : Int) < 0)) : Value) = _)) (za rfl (zh rfl rfl (mvx rfl (onx rfl (zj rfl (onx rfl (yy rfl rfl (zq 40 (.bool false) rfl ((by rw [decide_eq_false]; omega : (.bool (decide ((1048576 : Int) < ((t : Nat) : Int))) : Value) = _)) (za rfl (zh rfl rfl ?_))))))))))))))))))))))))))))))))))))))))))))))))))))))))))
 refine mvx rfl (onx rfl (zj rfl (onx rfl (yp rfl rfl (zq 44 (.bool false) rfl ((by rw [decide_eq_false]; omega : (.bool (decide (((r : Nat) : Int) < 0)) : Value) = _)) (za rfl (zh rfl rfl (mvx rfl (onx rfl (zj rfl (onx rfl (yy rfl rfl (zq 48 (.bool false) rfl ((by rw [decide_eq_false]; omega : (.bool (decide ((1048576 : Int) < ((r : Nat) : Int))) : Value) = _)) (za rfl (zh rfl rfl (rnx (zw rfl (zo (zi (srx (mvx rfl (mvx rfl (za rfl (yg rfl rfl (zt (by omega)) (za rfl (yg rfl rfl (zt (by omega)) (anx rfl (zm (srx (mvx rfl (zq 11 (.int .i64 ((2 + t + r : Nat) : Int)) rfl ((by first | rfl | (congr 1; omega) : (.int .i64 ((((t : Nat) : Int) + ((r : Nat) : Int)) + 2) : Value) = _)) (zq 55 (.int .i64 ((2 + t + r : Nat) : Int)) rfl ((by first | rfl | (congr 1; omega) : (.int .i64 ((((t : Nat) : Int) + ((r : Nat) : Int)) + 2) : Value) = _)) (za rfl (jb rfl rfl (zq 56 (.bool false) rfl ((by rw [decide_eq_false]; omega : (.bool (decide ((16777216 : Int) ≤ ((2 + t + r : Nat) : Int))) : Value) = _)) (mvx rfl (onx rfl (zc Try.underlying24 rfl sz3 (by decide) rfl (onx rfl (ze Try.underlying3 rfl rfl B4b rfl (onx rfl (zj rfl (onx rfl (yg rfl rfl (zt (by omega)) (onx rfl (zc Try.underlying24 rfl qy (by decide) rfl (onx rfl (ze Try.underlying22 rfl rfl B4b rfl (onx rfl (yq Try.underlying22 rfl ?_))))))))))))))))))))))))))))))))))))))))))))))))))
 refine onx rfl (yy rfl rfl (zq 65 (.bool false) rfl ((by rw [decide_eq_false]; omega : (.bool (decide (((W.length : Nat) : Int) < ((top : Nat) : Int) + ((2 + t + r : Nat) : Int))) : Value) = _)) (za rfl (zh rfl rfl (rnx (zw rfl (zo (zi (srx (za rfl (yb Try.underlying24 rfl qb rfl B4b rfl (za rfl (zp en8 rfl ((mcopy_any _ A W c n ((top : Nat) : Int) (hM.no E12).words).mono ?_))))))))))))))
 rintro e w1 ⟨⟨A5, cap, rfl, O5⟩, hb⟩;refine ⟨_, rfl, ?_⟩;have Ecp := Ext.of_below hb No;have hscp := Ecp.size;obtain ⟨gW, cur, hA5, _, _, hloW, _⟩ := oo O5 (by omega);subst hA5;have hlW := xe O5 gW rfl;refine za rfl (yo gu ?_);rintro gm wC Bm E6 Gm;refine ym (ya qb rfl rfl Bm rfl rfl rfl ?_);rintro wD BmD E7;have hmW : gm ≠ gW := by omega
 have hml := BmD.lt;have O7 := oq (qg (qg O5 E6 (fun _ _ h => h.elim)) E7 (fun q hq h => by have h1 := yx h; have h2 : gW = q := Option.some.inj hq; omega)) (show w.heap.size ≤ _ from E12.size);have hM0 : OwnM w.heap.size wD gm gW cap W top := ⟨BmD, O7, hM.words.in_, h1, h3, h4⟩
 have hED : Ext (fun q => wB.heap.size ≤ q) wB wD := ((Ecp.trans E6).noL wB.heap.size).step E7 (fun q hq => Or.inl (show wB.heap.size ≤ q by have := yx hq; omega));have hXm : ∀ q, Mut [some gm] q → Mut [some gm, some gW] q := fun q hq => Or.inl (by rw [yx hq]);have hXw : ∀ q, Mut [some gW] q → Mut [some gm, some gW] q := fun q hq => Or.inr (Or.inl (by rw [yx hq]))
 have hX : ∀ q, Mut [some gm, some gW] q → wB.heap.size ≤ q := fun q hq => by rcases hq with h | h | h <;> first | exact h.elim | (have := Option.some.inj h; omega)
 have B4D := B4b.ext hED (fun h => by have h : wB.heap.size ≤ g4 := h; have := B4b.lt; omega);have B8D := B8.ext hED (fun h => by have h : wB.heap.size ≤ g8 := h; omega)
 refine rnx (srx (za rfl (zc Try.underlying24 rfl qy (by decide) rfl (za rfl (ze Try.underlying22 rfl rfl hM0.mb rfl (za rfl (zc Try.underlying24 rfl sz3 (by decide) rfl (za rfl (ze Try.underlying3 rfl rfl B4D rfl (mvx rfl (za rfl (qc Try.underlying27 Try.underlying3 rfl (show IntKind.u64.wrap ((k : Nat) : Int) = _ from yi (by omega)) (mvx rfl (za rfl (qc Try.underlying27 Try.underlying3 rfl (show IntKind.u64.wrap ((t : Nat) : Int) = _ from yi (by omega)) (za rfl (ju rfl rfl (show IntKind.u64.wrap (256 * ((t : Nat) : Int)) = ((256 * t : Nat) : Int) from by rw [yi (by omega)]; omega) (za rfl (yg rfl rfl (show IntKind.u64.wrap (((k : Nat) : Int) + ((256 * t : Nat) : Int)) = ((k + 256 * t : Nat) : Int) from by rw [yi (by omega)]; omega) (mvx rfl (za rfl (qc Try.underlying27 Try.underlying3 rfl (show IntKind.u64.wrap ((2 + t + r : Nat) : Int) = _ from yi (by omega)) (za rfl (ju rfl rfl (show IntKind.u64.wrap (4294967296 * ((2 + t + r : Nat) : Int)) = ((4294967296 * (2 + t + r) : Nat) : Int) from by rw [yi (by omega)]; omega) (za rfl (yg rfl rfl (show IntKind.u64.wrap (((k + 256 * t : Nat) : Int) + ((4294967296 * (2 + t + r) : Nat) : Int)) = ((qx k t (2 + t + r) : Nat) : Int) from by rw [yi (by omega)]; unfold qx; omega) (za rfl (zx (j := top) Try.underlying22 qk rfl rfl rfl (by omega) (ym (vh (o := 0 + top) (xs' := yf (W.set top (qx k t (2 + t + r)))) qk rfl rfl hM0.row (by omega) rfl rfl (by rw [Nat.zero_add, qv]) ?_))))))))))))))))))))))))))))))
 rintro wS OS ES;have hh : U64 (qx k t (2 + t + r)) := by unfold U64 qx; omega
 have hM6 := hM0.put hh OS ES;have hES := hED.step ES (fun q hq => Or.inl (hX q (hXw q hq)));have hN0 : NewM W (W.set top (qx k t (2 + t + r))) top (qx k t (2 + t + r)) 0 := .zero (by omega)
 have hset1 : (W.set top (qx k t (2 + t + r))).set (top + 1) 0 = W.set top (qx k t (2 + t + r)) := set_zero (by rw [List.length_set]; omega) (by rw [hN0.2 _ (by omega), if_neg (by omega), if_neg (by omega)]; exact hz _ (by omega));have B4S := B4D.ext ES (fun h => by have := yx h; omega);have hVl0 := hN0.1
 refine rnx (srx (za rfl (zc Try.underlying24 rfl qy (by decide) rfl (za rfl (ze Try.underlying22 rfl rfl hM6.mb rfl (za rfl (zc Try.underlying24 rfl sz3 (by decide) rfl (za rfl (ze Try.underlying3 rfl rfl B4S rfl (za rfl (yg rfl rfl (zt (by omega)) (za rfl (zx (j := top + 1) Try.underlying22 qk rfl rfl (by omega) (by omega) (ym (vh (o := 0 + (top + 1)) (xs' := yf (W.set top (qx k t (2 + t + r)))) qk rfl rfl hM6.row (by omega) rfl rfl (by rw [Nat.zero_add]; exact (qv (x := 0)).trans (by rw [hset1])) ?_)))))))))))))))
 rintro wT OT ET;have hM7 := hM6.same OT ET;have hET := hES.step ET (fun q hq => Or.inl (hX q (hXw q hq)))
 refine rnx (zm (srx (anx rfl (yk (vd (ι := Nat × List Nat) (fun (j, V) => [(1, .int .i64 ((k : Nat) : Int)), (2, .int .i64 ((t : Nat) : Int)), (3, .int .i64 ((r : Nat) : Int)), (4, .pointer (some ⟨g4, 0, none⟩)), (8, .pointer (some ⟨g8, 0, none⟩)), (11, .int .i64 ((2 + t + r : Nat) : Int)), (12, .pointer (some ⟨gm, 0, none⟩)), (13, .int .i64 ((j : Nat) : Int))]) (fun (j, V) w' => j ≤ t ∧ NewM W V top (qx k t (2 + t + r)) j ∧ OwnM w.heap.size w' gm gW cap V top ∧ Ext (fun q => wB.heap.size ≤ q) wB w') (fun (j, _) => t - j) (0, W.set top (qx k t (2 + t + r))) ⟨rfl, rfl, rfl, rfl, rfl, rfl, rfl, rfl, trivial⟩ (⟨Nat.zero_le _, hN0, hM7, hET⟩) ?_)))))
 rintro ⟨j, V⟩ w3 ⟨hjt, hNj, hMj, hEj⟩;have hVl := hNj.1;have B4j := B4b.ext hEj (fun h => by have h : wB.heap.size ≤ g4 := h; have := B4b.lt; omega);refine zm (srx (mvx rfl (mvx rfl (za rfl (yp rfl rfl (rnx (yl rfl (fun hc2 => ?_) (fun hc2 => ?_))))))))
 ·
  have hc2 := of_decide_eq_true hc2;have hjlt : j < t := by omega
  refine zo (zi (zm (yk (yh (za rfl (zc Try.underlying24 rfl qy (by decide) rfl (za rfl (ze Try.underlying22 rfl rfl hMj.mb rfl (za rfl (zc Try.underlying24 rfl sz3 (by decide) rfl (za rfl (ze Try.underlying3 rfl rfl B4j rfl (za rfl (yg rfl rfl (zt (by omega)) (mvx rfl (za rfl (yg rfl rfl (zt (by omega)) (za rfl (zx (j := top + 2 + j) Try.underlying22 qk rfl rfl (by omega) (by omega) (ym (vh (o := 0 + (top + 2 + j)) (xs' := yf (V.set (top + 2 + j) 2)) qk rfl rfl hMj.row (by omega) rfl rfl (by rw [Nat.zero_add]; exact qv (x := 2)) ?_)))))))))))))))))))))
  rintro wU OU EU;refine qi (zv (zi (yh (mvx rfl (za rfl (yg rfl rfl (zt (by omega)) (avx rfl (qi ?_))))))))
  exact qr (j + 1, V.set (top + 2 + j) 2) (by show t - (j + 1) < t - j; omega) ⟨rfl, rfl, rfl, rfl, rfl, rfl, rfl, rfl, trivial⟩ (⟨hjlt, hNj.next (by omega), hMj.put (show U64 2 from by unfold U64; omega) OU EU, hEj.step EU (fun q hq => Or.inl (hX q (hXw q hq)))⟩)
 ·
  have hc2 := of_decide_eq_false hc2;have hjt2 : j = t := by omega
  refine ve (zy (zy (yu (zi (zm (srx (anx rfl (yk (vd (ι := Nat) (fun i => [(1, .int .i64 ((k : Nat) : Int)), (2, .int .i64 ((t : Nat) : Int)), (3, .int .i64 ((r : Nat) : Int)), (4, .pointer (some ⟨g4, 0, none⟩)), (8, .pointer (some ⟨g8, 0, none⟩)), (11, .int .i64 ((2 + t + r : Nat) : Int)), (12, .pointer (some ⟨gm, 0, none⟩)), (14, .int .i64 ((i : Nat) : Int))]) (fun i w' => i ≤ r ∧ OwnM w.heap.size w' gm gW cap V top ∧ Ext (fun q => wB.heap.size ≤ q) wB w') (fun i => r - i) 0 ⟨rfl, rfl, rfl, rfl, rfl, rfl, rfl, rfl, trivial⟩ (⟨Nat.zero_le _, hMj, hEj⟩) ?_)))))))))
  rintro i w5 ⟨hir, hMi, hEi⟩;have B4i := B4b.ext hEi (fun h => by have h : wB.heap.size ≤ g4 := h; have := B4b.lt; omega);refine zm (srx (mvx rfl (mvx rfl (za rfl (yp rfl rfl (rnx (yl rfl (fun hc3 => ?_) (fun hc3 => ?_))))))))
  ·
   have hc3 := of_decide_eq_true hc3;have hilt : i < r := by omega
   refine zo (zi (zm (yk (yh (za rfl (zc Try.underlying24 rfl qy (by decide) rfl (za rfl (ze Try.underlying22 rfl rfl hMi.mb rfl (za rfl (zc Try.underlying24 rfl sz3 (by decide) rfl (za rfl (ze Try.underlying3 rfl rfl B4i rfl (za rfl (yg rfl rfl (zt (by omega)) (mvx rfl (za rfl (yg rfl rfl (zt (by omega)) (mvx rfl (za rfl (yg rfl rfl (zt (by omega)) (za rfl (zx (j := top + 2 + t + i) Try.underlying22 qk rfl rfl (by omega) (by omega) (ym (vh (o := 0 + (top + 2 + t + i)) (xs' := yf V) qk rfl rfl hMi.row (by omega) rfl rfl (by rw [Nat.zero_add]; exact (qv (x := 0)).trans (by rw [hNj.rest hz (by omega) (by omega)])) ?_))))))))))))))))))))))))
   rintro wU OU EU;refine qi (zv (zi (yh (mvx rfl (za rfl (yg rfl rfl (zt (by omega)) (avx rfl (qi ?_))))))));exact qr (i + 1) (by show r - (i + 1) < r - i; omega) ⟨rfl, rfl, rfl, rfl, rfl, rfl, rfl, rfl, trivial⟩ (⟨hilt, hMi.same OU EU, hEi.step EU (fun q hq => Or.inl (hX q (hXw q hq)))⟩)
  ·
   have hV : V = laid W top k (List.replicate t 2) (List.replicate r 0) := NewM.isLaid (hjt2 ▸ hNj) hz hf;have hiw : Ext (fun q => w.heap.size ≤ q) w w5 := (E12.noL w.heap.size).step hEi (fun q hq => Or.inl (show w.heap.size ≤ q by have hq : wB.heap.size ≤ q := hq; omega));have B8i := B8.ext hEi (fun h => by have h : wB.heap.size ≤ g8 := h; omega)
   refine ve (zy (zy (yu (zi (srx (za rfl (zc Try.underlying24 rfl sz3 (by decide) rfl (za rfl (ze Try.underlying3 rfl rfl B4i rfl (mvx rfl (za rfl (yg rfl rfl (zt (by omega)) (za rfl (zc Try.underlying24 rfl sz3 (by decide) rfl (zq 122 (.int .i64 ((top + (2 + t + r) : Nat) : Int)) rfl ((by first | rfl | (congr 1; omega) : (.int .i64 (((top : Nat) : Int) + ((2 + t + r : Nat) : Int)) : Value) = _)) (ym (vy (cs' := #[.slice (some ⟨gW, 0, none⟩) V.length cap, .int .i64 ((top + (2 + t + r) : Nat) : Int)]) sz3 rfl rfl hMi.mb rfl rfl (Nat.le_of_ble_eq_true rfl) rfl ?_)))))))))))))))))
   rintro wV Bv Ev;have B4v := B4i.ext Ev (fun h => by have := yx h; omega);have B8v := B8i.ext Ev (fun h => by have := yx h; omega);have Ov := qj hMi.row hMi.mb (by decide) Ev;have hiv := hiw.step Ev (fun q hq => Or.inl (show w.heap.size ≤ q by have := yx hq; omega));have h8m : ¬ Mut [some g8] gm := fun h => by have := yx h; omega
   have h84 : ¬ Mut [some g8] g4 := fun h => by have := yx h; omega
   refine rnx (zm (ki vo (kj 6 rfl ?_)));refine ziz 3 (Mut [some g8]) (fun k hk => (by have := yx hk; have := B8v.lt; omega : k < wV.heap.size)) (jx [Fx.of (.agg #[.slice (some ⟨gW, 0, none⟩) V.length cap, .int .i64 ((top + (2 + t + r) : Nat) : Int)]),
    Fx.of (.pointer (some ⟨g4, 1, none⟩)),
    Fx.of (.int .i64 ((top : Nat) : Int)),
    ⟨World, fun w9 => undef, fun w9 b => (Blk b g8 24 #[.slice (some ⟨gW, 0, none⟩) V.length cap, .int .i64 ((top + (2 + t + r) : Nat) : Int)])⟩,
    Fx.of (.int .i64 ((top : Nat) : Int)),
    Fx.of (.int .i64 0)]) rfl ?_ ?_
   · refine ⟨?_, ?_, ?_, ?_, ?_, ?_, trivial⟩
     · intro vs X wq K KQ;have LE := K.1;exact yb Try.underlying24 rfl qb rfl (vp LE h8m Bv) rfl ⟨Below.refl _ _, Left.of rfl⟩
     · intro vs X wq K KQ;exact zc Try.underlying24 rfl sz3 (by decide) rfl ⟨Below.refl _ _, Left.of rfl⟩
     · intro vs X wq K KQ;have LE := K.1;obtain ⟨_, e1, k1⟩ := K.dep 1 rfl rfl rfl;refine zb 125 (.pointer (some ⟨g4, 1, none⟩)) rfl e1 ?_;exact ze Try.underlying3 rfl rfl (vp LE h84 B4v) rfl ⟨Below.refl _ _, Left.of rfl⟩
     · intro vs X wq K KQ;have LQ := KQ rfl;obtain ⟨_, e0, k0⟩ := K.dep 0 rfl rfl rfl;refine zb 124 (.agg #[.slice (some ⟨gW, 0, none⟩) V.length cap, .int .i64 ((top + (2 + t + r) : Nat) : Int)]) rfl e0 (ya qb rfl rfl (qe LQ B8v) rfl rfl rfl ?_);intro w9 B9 hb;exact ⟨hb, ⟨w9, rfl, (fun z hz => B9.ext hz (fun h => h.elim))⟩⟩
     · intro vs X wq K KQ;obtain ⟨_, e2, k2⟩ := K.dep 2 rfl rfl rfl;refine zb 126 (.int .i64 ((top : Nat) : Int)) rfl e2 ?_;exact qu rfl ⟨Below.refl _ _, Left.of rfl⟩
     · intro vs X wq K KQ;exact qu rfl ⟨Below.refl _ _, Left.of rfl⟩
   intro vs w6 LE AO AL AF AA;have hxd : Ext (Mut [some g8]) (wV) w6 := ((Ext.refl _ (wV)).drew).trans LE;obtain ⟨w9, e3, k3⟩ := AL.2.2.2.1;obtain ⟨_, e4, k4⟩ := AL.2.2.2.2.1;obtain ⟨_, e5, k5⟩ := AL.2.2.2.2.2.1;have Wc3 := k3.here;refine vb (τ := [(8, _), (9, .int .i64 ((top : Nat) : Int)), (10, .int .i64 0)]) ⟨rfl, congrArg some e4, congrArg some e5, trivial⟩ ?_;clear AL AF AA AO
   refine zak (jf (by kernel_rfl) (fun _ _ d_ _ _ h => by cases d_ <;> exact h) ?_);have B8x := Wc3;have Ox := qj Ov B8v (by decide) hxd;refine rnx (zl (zk (rs := [.cell 8 24, .tmp 9, .tmp 10]) (vs := [_, _, _]) rfl ⟨⟨_, rfl, qm Try.underlying24 rfl qb B8x rfl⟩, rfl, rfl, trivial⟩ ?_))
   exact ⟨⟨gW, cap, by rw [hVl]; rfl, by rw [hVl, hV] at Ox; exact Ox⟩, (hiv.step hxd (fun q hq => Or.inl (show w.heap.size ≤ q by have := yx hq; omega))).below (fun _ h => h)⟩
end
end Go.Proofs.Ytjhmifebmplahaa
namespace Go.Proofs.Ytjhmifebmplahaa
open Go.RowKit
set_option maxRecDepth 100000
attribute [local irreducible] OW RS
section
variable (w : World) (A B C : Option Addr) (W T R : List Nat) (c cb cc n top k : Nat) (hM : MemA n w A W top) (hT : WordsA n w B T) (hR : WordsA n w C R) (hk : 1 ≤ k ∧ k < 256) (ht : T.length ≤ 1048576) (hr : R.length ≤ 1048576)
include hM hT hR hk ht hr
theorem oh (hf : W.length < top + (2 + T.length + R.length)) : Calls Try.prog 29 #[ks A W c top, .int .i64 ((k : Nat) : Int), .slice B T.length cb, .slice C R.length cc] w fun e w' => e = .returned (.tuple #[ks A W c top, .int .u64 0, .bool false]) ∧ Below w.heap.size w w' := by
 have _ := hT;have _ := hR;have h1 := hM.one;have h3 := hM.len;have h4 := hM.most;have hnw := hM.size;refine yc Try.func29 rfl Try.ntmps29 rfl (srx (za rfl (qh rfl ?_)));rintro g4 wA B4 E1 G4;refine za rfl (yo gu ?_);rintro g8 wB B8 E2 G8;have hs1 := E1.size;have hs2 := E2.size;have h4l := B4.lt;have h8l := B8.lt;have E12 := E1.trans E2
 have B4b : Blk wB g4 24 #[.slice A W.length c, .int .i64 ((top : Nat) : Int)] := B4.ext E2 (fun h => h.elim)
 refine avx rfl (anx rfl (srx (za rfl (yb Try.underlying24 rfl qb rfl B4b rfl (mvx rfl (mvx rfl (za rfl (yq Try.underlying22 rfl (mvx rfl (za rfl (yq Try.underlying22 rfl (za rfl (zp en50 rfl ((ralloc_full _ A W c n top k T.length R.length (hM.no E12) hk ht hr hf).mono ?_))))))))))))));rintro e w1 ⟨rfl, hb⟩;refine ⟨_, rfl, ?_⟩;have Eal := Ext.of_below hb No
 have hsal := Eal.size;refine mvx rfl (za rfl (zg rfl rfl (za rfl (zg rfl rfl (za rfl (zg rfl rfl (za rfl (yo gu ?_))))))));rintro gm wC Bm E6 Gm;refine ym (ya qb rfl rfl Bm rfl rfl rfl ?_);rintro wD BmD E7
 have hED : Ext (fun q => wB.heap.size ≤ q) wB wD := ((Eal.trans E6).noL wB.heap.size).step E7 (fun q hq => Or.inl (show wB.heap.size ≤ q by have := yx hq; omega));have B4D := B4b.ext hED (fun h => by have h : wB.heap.size ≤ g4 := h; have := B4b.lt; omega);have B8D := B8.ext hED (fun h => by have h : wB.heap.size ≤ g8 := h; omega)
 refine avx rfl (anx rfl (zm (srx (mvx rfl (za rfl (yw rfl rfl (rnx (yd rfl (srx (za rfl (yb Try.underlying24 rfl qb rfl B4D rfl (ym (ya qb rfl rfl B8D rfl rfl rfl ?_)))))))))))));rintro wE B8e E8
 refine avx rfl (anx rfl (zl (zf (zk (rs := [.cell 8 24, .tmp 9, .tmp 10]) (vs := [_, _, _]) rfl ⟨⟨_, rfl, qm Try.underlying24 rfl qb B8e rfl⟩, rfl, rfl, trivial⟩ ?_))))
 exact ⟨rfl, (((E12.noL w.heap.size).step hED (fun q hq => Or.inl (show w.heap.size ≤ q by have hq : wB.heap.size ≤ q := hq; omega))).step E8 (fun q hq => Or.inl (show w.heap.size ≤ q by have := yx hq; omega))).below (fun _ h => h)⟩
set_option maxHeartbeats 1000000 in
theorem zkv (hz : ∀ i, top ≤ i → wat W i = 0) (hf : top + (2 + T.length + R.length) ≤ W.length) : Calls Try.prog 29 #[ks A W c top, .int .i64 ((k : Nat) : Int), .slice B T.length cb, .slice C R.length cc] w fun e w' => (∃ gW cap, e = .returned (.tuple #[.agg #[.slice (some ⟨gW, 0, none⟩) W.length cap, .int .i64 ((top + (2 + T.length + R.length) : Nat) : Int)], .int .u64 ((4 * top : Nat) : Int), .bool true]) ∧ w'.ownsRow w.heap.size 27 1 (.slice (some ⟨gW, 0, none⟩) W.length cap) W.length (yf (laid W top k T R))) ∧ Below w.heap.size w w' := by
 have hlT : ∀ i, i ≤ T.length → top + (2 + (qa T 2 i).length + (List.replicate R.length 0).length) ≤ W.length := fun i hi => by rw [jc hi, List.length_replicate]; exact hf
 have hlR : ∀ i, i ≤ R.length → top + (2 + T.length + (qa R 0 i).length) ≤ W.length := fun i hi => by rw [jc hi]; exact hf
 have hTu := hT.in_;have hRu := hR.in_;have h1 := hM.one;have h3 := hM.len;have h4 := hM.most;have hnw := hM.size;refine yc Try.func29 rfl Try.ntmps29 rfl (srx (za rfl (qh rfl ?_)));rintro g4 wA B4 E1 G4;refine za rfl (yo gu ?_);rintro g8 wB B8 E2 G8;have hs1 := E1.size;have hs2 := E2.size;have h4l := B4.lt;have h8l := B8.lt;have E12 := E1.trans E2
 have B4b : Blk wB g4 24 #[.slice A W.length c, .int .i64 ((top : Nat) : Int)] := B4.ext E2 (fun h => h.elim)
 refine avx rfl (anx rfl (srx (za rfl (yb Try.underlying24 rfl qb rfl B4b rfl (mvx rfl (mvx rfl (za rfl (yq Try.underlying22 rfl (mvx rfl (za rfl (yq Try.underlying22 rfl (za rfl (zp en50 rfl ((ralloc_ok _ A W c n top k T.length R.length (hM.no E12) hk ht hr hz hf).mono ?_))))))))))))));rintro e w1 ⟨⟨gW, cap, rfl, O5⟩, hb⟩;refine ⟨_, rfl, ?_⟩
 have Eal := Ext.of_below hb No;have hsal := Eal.size;have hlW := xe O5 gW rfl;have hgW := owns_ge O5 gW rfl;refine mvx rfl (za rfl (zg rfl rfl (za rfl (zg rfl rfl (za rfl (zg rfl rfl (za rfl (yo gu ?_))))))));rintro gm wC Bm E6 Gm;refine ym (ya qb rfl rfl Bm rfl rfl rfl ?_);rintro wD BmD E7;have hmW : gm ≠ gW := by omega
 have hml := BmD.lt;have O7 := oq (qg (qg O5 E6 (fun _ _ h => h.elim)) E7 (fun q hq h => by have h1 := yx h; have h2 : gW = q := Option.some.inj hq; omega)) (show w.heap.size ≤ _ from E12.size);have hL0 := hlT 0 (Nat.zero_le _);rw [zbq] at hL0;have hll := vi (k := k) hL0
 have hu0 : ∀ x ∈ laid W top k (List.replicate T.length 2) (List.replicate R.length 0), U64 x := xx hM.words.in_ (fun x hx => by rw [(List.mem_replicate.1 hx).2]; decide) (fun x hx => by rw [(List.mem_replicate.1 hx).2]; decide) hk.2 (by rw [List.length_replicate, List.length_replicate]; omega)
 have hM0 : OwnM w.heap.size wD gm gW cap (laid W top k (qa T 2 0) (List.replicate R.length 0)) (top + (2 + T.length + R.length)) := by
  rw [zbq];exact ⟨by rw [hll]; exact BmD, by rw [hll]; exact O7, hu0, by omega, by rw [hll]; exact hf, by rw [hll]; exact h4⟩
 have hED : Ext (fun q => wB.heap.size ≤ q) wB wD := ((Eal.trans E6).noL wB.heap.size).step E7 (fun q hq => Or.inl (show wB.heap.size ≤ q by have := yx hq; omega));have hX : ∀ q, Mut [some gW] q → wB.heap.size ≤ q := fun q hq => by have := yx hq; omega
 refine avx rfl (anx rfl (zm (srx (mvx rfl (za rfl (yw rfl rfl (rnx (zw rfl (zo (zi (zm (srx (anx rfl (yk (vd (ι := Nat) (fun i => [(2, .slice B T.length cb), (3, .slice C R.length cc), (4, .pointer (some ⟨g4, 0, none⟩)), (8, .pointer (some ⟨g8, 0, none⟩)), (11, .pointer (some ⟨gm, 0, none⟩)), (12, .int .i64 ((top : Nat) : Int)), (14, .int .i64 ((i : Nat) : Int))]) (fun i w' => i ≤ T.length ∧ OwnM w.heap.size w' gm gW cap (laid W top k (qa T 2 i) (List.replicate R.length 0)) (top + (2 + T.length + R.length)) ∧ Ext (fun q => wB.heap.size ≤ q) wB w') (fun i => T.length - i) 0 ⟨rfl, rfl, rfl, rfl, rfl, rfl, rfl, trivial⟩ (⟨Nat.zero_le _, hM0, hED⟩) ?_)))))))))))))))
 rintro i w3 ⟨hi0, hMi, hEi⟩;refine zm (srx (mvx rfl (mvx rfl (za rfl (yq Try.underlying22 rfl (za rfl (yp rfl rfl (rnx (yl rfl (fun hc => ?_) (fun hc => ?_))))))))))
 ·
  have hc := of_decide_eq_true hc;have hlt : i < T.length := by omega
  obtain ⟨x, hx⟩ : ∃ x, T[i]? = some x := ⟨_, List.getElem?_eq_getElem hlt⟩;have hxu := hTu x (List.mem_of_getElem? hx);obtain ⟨g, o, hB, hgb, hcx⟩ := ((hT.no E12).low ⟨hEi, fun q hq => by have hq : wB.heap.size ≤ q := hq; omega⟩).cell hx;have hLi := hlT i hi0;have hpl := jc (v := 2) hi0;have hlli := vi (k := k) hLi;obtain ⟨wi, hwi⟩ : ∃ wi, wi = w3 := ⟨_, rfl⟩;subst hwi
  refine zo (zi (zm (yk (ki vo (kj 11 rfl ?_)))));refine zgz (No) Mut.none_ [] [] (jx [Fx.of (.pointer (some ⟨gm, 0, none⟩)),
   Fx.of (.slice (some ⟨gW, 0, none⟩) (laid W top k (qa T 2 i) (List.replicate R.length 0)).length cap),
   Fx.of (.int .i64 ((top : Nat) : Int)),
   Fx.of (.int .i64 (((top : Nat) : Int) + 2)),
   Fx.of (.int .i64 ((i : Nat) : Int)),
   Fx.of (.int .i64 ((((top : Nat) : Int) + 2) + ((i : Nat) : Int))),
   Fx.of (.slice B T.length cb),
   Fx.of (.int .i64 ((i : Nat) : Int)),
   Fx.of (.pointer (some ⟨g, o + i, none⟩)),
   Fx.of (.int .u64 ((x : Nat) : Int)),
   Fx.of (.pointer (some ⟨gW, 0 + (top + 2 + i), none⟩))]) rfl trivial (fun _ h => by cases h) ?_ ?_
  · refine ⟨?_, ?_, ?_, ?_, ?_, ?_, ?_, ?_, ?_, ?_, ?_, trivial⟩
    · intro vs X wq K;exact zc Try.underlying24 rfl qy (by decide) rfl ⟨Below.refl _ _, Left.of rfl⟩
    · intro vs X wq K;have LE := K.1;obtain ⟨_, e0, k0⟩ := K.dep 0 rfl rfl rfl;refine zb 36 (.pointer (some ⟨gm, 0, none⟩)) rfl e0 ?_;exact ze Try.underlying22 rfl rfl (qe LE hMi.mb) rfl ⟨Below.refl _ _, Left.of rfl⟩
    · intro vs X wq K;exact zj rfl ⟨Below.refl _ _, Left.of rfl⟩
    · intro vs X wq K;obtain ⟨_, e2, k2⟩ := K.dep 2 rfl rfl rfl;refine zb 38 (.int .i64 ((top : Nat) : Int)) rfl e2 ?_;exact yg rfl rfl (zt (by omega)) ⟨Below.refl _ _, Left.of rfl⟩
    · intro vs X wq K;exact zj rfl ⟨Below.refl _ _, Left.of rfl⟩
    · intro vs X wq K;obtain ⟨_, e3, k3⟩ := K.dep 3 rfl rfl rfl;refine zb 39 (.int .i64 (((top : Nat) : Int) + 2)) rfl e3 ?_;obtain ⟨_, e4, k4⟩ := K.dep 4 rfl rfl rfl;refine zb 40 (.int .i64 ((i : Nat) : Int)) rfl e4 ?_;exact yg rfl rfl (zt (by omega)) ⟨Below.refl _ _, Left.of rfl⟩
    · intro vs X wq K;exact zj rfl ⟨Below.refl _ _, Left.of rfl⟩
    · intro vs X wq K;exact zj rfl ⟨Below.refl _ _, Left.of rfl⟩
    · intro vs X wq K;obtain ⟨_, e6, k6⟩ := K.dep 6 rfl rfl rfl;refine zb 42 (.slice B T.length cb) rfl e6 ?_;obtain ⟨_, e7, k7⟩ := K.dep 7 rfl rfl rfl;refine zb 43 (.int .i64 ((i : Nat) : Int)) rfl e7 ?_;exact zx (j := i) Try.underlying22 qk (congrArg (fun z ↦ some (Value.slice z T.length cb)) hB) rfl rfl hlt ⟨Below.refl _ _, Left.of rfl⟩
    · intro vs X wq K;have LE := K.1;obtain ⟨_, e8, k8⟩ := K.dep 8 rfl rfl rfl;refine zb 44 (.pointer (some ⟨g, o + i, none⟩)) rfl e8 ?_;exact qo Try.underlying27 rfl rfl (ji LE hcx) ⟨Below.refl _ _, Left.of rfl⟩
    · intro vs X wq K;obtain ⟨_, e1, k1⟩ := K.dep 1 rfl rfl rfl;refine zb 37 (.slice (some ⟨gW, 0, none⟩) (laid W top k (qa T 2 i) (List.replicate R.length 0)).length cap) rfl e1 ?_;obtain ⟨_, e5, k5⟩ := K.dep 5 rfl rfl rfl;refine zb 41 (.int .i64 ((((top : Nat) : Int) + 2) + ((i : Nat) : Int))) rfl e5 ?_
      exact zx (j := top + 2 + i) Try.underlying22 qk rfl rfl (by omega) (by omega) ⟨Below.refl _ _, Left.of rfl⟩
  intro vs w4 LE AO AL AF AA;have hbd : Below (wi).heap.size (wi) w4 := (((Ext.refl No (wi)).drew).trans LE).toBelow;obtain ⟨_, e9, k9⟩ := AL.2.2.2.2.2.2.2.2.2.1;obtain ⟨_, e10, k10⟩ := AL.2.2.2.2.2.2.2.2.2.2.1
  refine vb (τ := [(2, _), (3, _), (4, _), (8, _), (11, _), (12, _), (14, _), (45, .int .u64 ((x : Nat) : Int)), (46, .pointer (some ⟨gW, 0 + (top + 2 + i), none⟩))]) ⟨rfl, rfl, rfl, rfl, rfl, rfl, rfl, congrArg some e9, congrArg some e10, trivial⟩ ?_;clear AL AF AA AO;refine zak (jf (by kernel_rfl) (fun _ _ d_ _ _ h => by cases d_ <;> exact h) ?_);have hEd := Ext.of_below hbd No
  have hMd := hMi.ext hEd (fun h => h) (fun h => h);refine ym (vh (o := 0 + (top + 2 + i)) (xs' := yf ((laid W top k (qa T 2 i) (List.replicate R.length 0)).set (top + 2 + i) x)) qk rfl rfl hMd.row (by omega) rfl rfl (by rw [Nat.zero_add]; exact qv) ?_);rintro wU OU EU;have hMU := hMd.put hxu OU EU
  refine qi (zv (zi (yh (mvx rfl (za rfl (yg rfl rfl (zt (by omega)) (avx rfl (qi ?_))))))))
  exact qr (i + 1) (by show T.length - (i + 1) < T.length - i; omega) ⟨rfl, rfl, rfl, rfl, rfl, rfl, rfl, trivial⟩ (⟨hlt, by rw [laid_set hLi (by rw [hpl]; exact hlt), km hx] at hMU; exact hMU, (hEi.step hEd (fun _ h => h.elim)).step EU (fun q hq => Or.inl (hX q hq))⟩)
 ·
  have hc := of_decide_eq_false hc;have hie : i = T.length := by omega
  rw [hie, ko, ← zbq R 0] at hMi
  refine ve (zy (zy (yu (zi (zm (srx (anx rfl (yk (vd (ι := Nat) (fun j => [(2, .slice B T.length cb), (3, .slice C R.length cc), (4, .pointer (some ⟨g4, 0, none⟩)), (8, .pointer (some ⟨g8, 0, none⟩)), (11, .pointer (some ⟨gm, 0, none⟩)), (12, .int .i64 ((top : Nat) : Int)), (15, .int .i64 ((j : Nat) : Int))]) (fun j w' => j ≤ R.length ∧ OwnM w.heap.size w' gm gW cap (laid W top k T (qa R 0 j)) (top + (2 + T.length + R.length)) ∧ Ext (fun q => wB.heap.size ≤ q) wB w') (fun j => R.length - j) 0 ⟨rfl, rfl, rfl, rfl, rfl, rfl, rfl, trivial⟩ (⟨Nat.zero_le _, hMi, hEi⟩) ?_)))))))))
  rintro j w6 ⟨hj0, hMj, hEj⟩;refine zm (srx (mvx rfl (mvx rfl (za rfl (yq Try.underlying22 rfl (za rfl (yp rfl rfl (rnx (yl rfl (fun hc2 => ?_) (fun hc2 => ?_))))))))))
  ·
   have hc2 := of_decide_eq_true hc2;have hlt : j < R.length := by omega
   obtain ⟨x, hx⟩ : ∃ x, R[j]? = some x := ⟨_, List.getElem?_eq_getElem hlt⟩;have hxu := hRu x (List.mem_of_getElem? hx);obtain ⟨g, o, hB, hgb, hcx⟩ := ((hR.no E12).low ⟨hEj, fun q hq => by have hq : wB.heap.size ≤ q := hq; omega⟩).cell hx;have hLj := hlR j hj0;have hpl := jc (v := 0) hj0;have hllj := vi (k := k) hLj;obtain ⟨wj, hwj⟩ : ∃ wj, wj = w6 := ⟨_, rfl⟩;subst hwj
   refine zo (zi (zm (yk (ki vo (kj 14 rfl ?_)))));refine zgz (No) Mut.none_ [] [] (jx [Fx.of (.pointer (some ⟨gm, 0, none⟩)),
    Fx.of (.slice (some ⟨gW, 0, none⟩) (laid W top k T (qa R 0 j)).length cap),
    Fx.of (.int .i64 ((top : Nat) : Int)),
    Fx.of (.int .i64 (((top : Nat) : Int) + 2)),
    Fx.of (.slice B T.length cb),
    Fx.of (.int .i64 (((T.length : Nat)) : Int)),
    Fx.of (.int .i64 ((((top : Nat) : Int) + 2) + (((T.length : Nat)) : Int))),
    Fx.of (.int .i64 ((j : Nat) : Int)),
    Fx.of (.int .i64 (((((top : Nat) : Int) + 2) + (((T.length : Nat)) : Int)) + ((j : Nat) : Int))),
    Fx.of (.slice C R.length cc),
    Fx.of (.int .i64 ((j : Nat) : Int)),
    Fx.of (.pointer (some ⟨g, o + j, none⟩)),
    Fx.of (.int .u64 ((x : Nat) : Int)),
    Fx.of (.pointer (some ⟨gW, 0 + (top + 2 + (T.length + j)), none⟩))]) rfl trivial (fun _ h => by cases h) ?_ ?_
   · refine ⟨?_, ?_, ?_, ?_, ?_, ?_, ?_, ?_, ?_, ?_, ?_, ?_, ?_, ?_, trivial⟩
     · intro vs X wq K;exact zc Try.underlying24 rfl qy (by decide) rfl ⟨Below.refl _ _, Left.of rfl⟩
     · intro vs X wq K;have LE := K.1;obtain ⟨_, e0, k0⟩ := K.dep 0 rfl rfl rfl;refine zb 53 (.pointer (some ⟨gm, 0, none⟩)) rfl e0 ?_;exact ze Try.underlying22 rfl rfl (qe LE hMj.mb) rfl ⟨Below.refl _ _, Left.of rfl⟩
     · intro vs X wq K;exact zj rfl ⟨Below.refl _ _, Left.of rfl⟩
     · intro vs X wq K;obtain ⟨_, e2, k2⟩ := K.dep 2 rfl rfl rfl;refine zb 55 (.int .i64 ((top : Nat) : Int)) rfl e2 ?_;exact yg rfl rfl (zt (by omega)) ⟨Below.refl _ _, Left.of rfl⟩
     · intro vs X wq K;exact zj rfl ⟨Below.refl _ _, Left.of rfl⟩
     · intro vs X wq K;obtain ⟨_, e4, k4⟩ := K.dep 4 rfl rfl rfl;refine zb 57 (.slice B T.length cb) rfl e4 ?_;exact yq Try.underlying22 rfl ⟨Below.refl _ _, Left.of rfl⟩
     · intro vs X wq K;obtain ⟨_, e3, k3⟩ := K.dep 3 rfl rfl rfl;refine zb 56 (.int .i64 (((top : Nat) : Int) + 2)) rfl e3 ?_;obtain ⟨_, e5, k5⟩ := K.dep 5 rfl rfl rfl;refine zb 58 (.int .i64 (((T.length : Nat)) : Int)) rfl e5 ?_;exact yg rfl rfl (zt (by omega)) ⟨Below.refl _ _, Left.of rfl⟩
     · intro vs X wq K;exact zj rfl ⟨Below.refl _ _, Left.of rfl⟩
     · intro vs X wq K;obtain ⟨_, e6, k6⟩ := K.dep 6 rfl rfl rfl;refine zb 59 (.int .i64 ((((top : Nat) : Int) + 2) + (((T.length : Nat)) : Int))) rfl e6 ?_;obtain ⟨_, e7, k7⟩ := K.dep 7 rfl rfl rfl;refine zb 60 (.int .i64 ((j : Nat) : Int)) rfl e7 ?_;exact yg rfl rfl (zt (by omega)) ⟨Below.refl _ _, Left.of rfl⟩
     · intro vs X wq K;exact zj rfl ⟨Below.refl _ _, Left.of rfl⟩
     · intro vs X wq K;exact zj rfl ⟨Below.refl _ _, Left.of rfl⟩
     · intro vs X wq K;obtain ⟨_, e9, k9⟩ := K.dep 9 rfl rfl rfl;refine zb 62 (.slice C R.length cc) rfl e9 ?_;obtain ⟨_, e10, k10⟩ := K.dep 10 rfl rfl rfl;refine zb 63 (.int .i64 ((j : Nat) : Int)) rfl e10 ?_;exact zx (j := j) Try.underlying22 qk (congrArg (fun z ↦ some (Value.slice z R.length cc)) hB) rfl rfl hlt ⟨Below.refl _ _, Left.of rfl⟩
     · intro vs X wq K;have LE := K.1;obtain ⟨_, e11, k11⟩ := K.dep 11 rfl rfl rfl;refine zb 64 (.pointer (some ⟨g, o + j, none⟩)) rfl e11 ?_;exact qo Try.underlying27 rfl rfl (ji LE hcx) ⟨Below.refl _ _, Left.of rfl⟩
     · intro vs X wq K;obtain ⟨_, e1, k1⟩ := K.dep 1 rfl rfl rfl;refine zb 54 (.slice (some ⟨gW, 0, none⟩) (laid W top k T (qa R 0 j)).length cap) rfl e1 ?_;obtain ⟨_, e8, k8⟩ := K.dep 8 rfl rfl rfl;refine zb 61 (.int .i64 (((((top : Nat) : Int) + 2) + (((T.length : Nat)) : Int)) + ((j : Nat) : Int))) rfl e8 ?_
       exact zx (j := top + 2 + (T.length + j)) Try.underlying22 qk rfl rfl (by omega) (by omega) ⟨Below.refl _ _, Left.of rfl⟩
   intro vs w7 LE AO AL AF AA;have hbd : Below (wj).heap.size (wj) w7 := (((Ext.refl No (wj)).drew).trans LE).toBelow;obtain ⟨_, e12, k12⟩ := AL.2.2.2.2.2.2.2.2.2.2.2.2.1;obtain ⟨_, e13, k13⟩ := AL.2.2.2.2.2.2.2.2.2.2.2.2.2.1
   refine vb (τ := [(2, _), (3, _), (4, _), (8, _), (11, _), (12, _), (15, _), (65, .int .u64 ((x : Nat) : Int)), (66, .pointer (some ⟨gW, 0 + (top + 2 + (T.length + j)), none⟩))]) ⟨rfl, rfl, rfl, rfl, rfl, rfl, rfl, congrArg some e12, congrArg some e13, trivial⟩ ?_;clear AL AF AA AO;refine zak (jf (by kernel_rfl) (fun _ _ d_ _ _ h => by cases d_ <;> exact h) ?_)
   have hEd := Ext.of_below hbd No;have hMd := hMj.ext hEd (fun h => h) (fun h => h);refine ym (vh (o := 0 + (top + 2 + (T.length + j))) (xs' := yf ((laid W top k T (qa R 0 j)).set (top + 2 + (T.length + j)) x)) qk rfl rfl hMd.row (by omega) rfl rfl (by rw [Nat.zero_add]; exact qv) ?_);rintro wU OU EU;have hMU := hMd.put hxu OU EU
   refine qi (zv (zi (yh (mvx rfl (za rfl (yg rfl rfl (zt (by omega)) (avx rfl (qi ?_))))))))
   exact qr (j + 1) (by show R.length - (j + 1) < R.length - j; omega) ⟨rfl, rfl, rfl, rfl, rfl, rfl, rfl, trivial⟩ (⟨hlt, by rw [laid_setR hLj (by rw [hpl]; exact hlt), km hx] at hMU; exact hMU, (hEj.step hEd (fun _ h => h.elim)).step EU (fun q hq => Or.inl (hX q hq))⟩)
  ·
   have hc2 := of_decide_eq_false hc2;have hje : j = R.length := by omega
   rw [hje, ko] at hMj;have hlll : (laid W top k T R).length = W.length := vi hf;have B8j := B8.ext hEj (fun h => by have h : wB.heap.size ≤ g8 := h; omega);have hjw : Ext (fun q => w.heap.size ≤ q) w w6 := (E12.noL w.heap.size).step hEj (fun q hq => Or.inl (show w.heap.size ≤ q by have hq : wB.heap.size ≤ q := hq; omega))
   refine ve (zy (zy (yu (zi (srx (za rfl (yb Try.underlying24 rfl qb rfl hMj.mb rfl (mvx rfl (za rfl (qc Try.underlying27 Try.underlying3 rfl (show IntKind.u64.wrap ((top : Nat) : Int) = _ from yi (by omega)) (za rfl (ju rfl rfl (show IntKind.u64.wrap (4 * ((top : Nat) : Int)) = ((4 * top : Nat) : Int) from by rw [yi (by omega)]; omega) (ym (ya qb rfl rfl B8j rfl rfl rfl ?_))))))))))))))
   rintro wX B8x Ex;have Ox := qj hMj.row B8j (by decide) Ex;refine avx rfl (anx rfl (zl (zk (rs := [.cell 8 24, .tmp 9, .tmp 10]) (vs := [_, _, _]) rfl ⟨⟨_, rfl, qm Try.underlying24 rfl qb B8x rfl⟩, rfl, rfl, trivial⟩ ?_)))
   exact ⟨⟨gW, cap, by rw [hlll]; rfl, by rw [hlll] at Ox; exact Ox⟩, (hjw.step Ex (fun q hq => Or.inl (show w.heap.size ≤ q by have := yx hq; omega))).below (fun _ h => h)⟩
end
theorem rsame_any13 (w : World) (A B : Option Addr) (W : List Nat) (c d n m top : Nat) (hA : WordsA n w A W) (hB : WordsA m w B W) : Calls Try.prog 10 #[.agg #[.slice A W.length c, .int .i64 ((top : Nat) : Int)], .agg #[.slice B W.length d, .int .i64 ((top : Nat) : Int)]] w fun e w' => e = .returned (.bool true) ∧ Below w.heap.size w w' := by
 have hWl := hA.len;refine yc Try.func10 rfl Try.ntmps10 rfl (srx (za rfl (qh rfl ?_)));rintro g2 wA B2 E1 G2;refine za rfl (qh rfl ?_);rintro g3 wB B3 E2 G3;have B2b := B2.ext E2 (fun h => h.elim);have hE := E1.trans E2
 refine anx rfl (zm (srx (za rfl (zc Try.underlying24 rfl sz3 (by decide) rfl (za rfl (ze Try.underlying3 rfl rfl B2b rfl (za rfl (zc Try.underlying24 rfl sz3 (by decide) rfl (za rfl (ze Try.underlying3 rfl rfl B3 rfl (za rfl (yw rfl rfl (mvx rfl (zq 11 (.bool false) rfl ((by rw [bne_self_eq_false] : (.bool (((top : Nat) : Int) != ((top : Nat) : Int)) : Value) = _)) (onx rfl (zc Try.underlying24 rfl qy (by decide) rfl (onx rfl (ze Try.underlying22 rfl rfl B2b rfl (onx rfl (yq Try.underlying22 rfl (onx rfl (zc Try.underlying24 rfl qy (by decide) rfl (onx rfl (ze Try.underlying22 rfl rfl B3 rfl (onx rfl (yq Try.underlying22 rfl (onx rfl (yw rfl rfl (za rfl (zh rfl rfl (rnx (ye 19 (.bool false) rfl ((by rw [bne_self_eq_false] : (.bool ((((W.length : Nat)) : Int) != (((W.length : Nat)) : Int)) : Value) = _)) (zw rfl (zo (zi (zm (srx (anx rfl (yk (vd (ι := Nat) (fun i => [(2, .pointer (some ⟨g2, 0, none⟩)), (3, .pointer (some ⟨g3, 0, none⟩)), (5, .int .i64 ((i : Nat) : Int))]) (fun i w' => i ≤ W.length ∧ Ext No wB w') (fun i => W.length - i) 0 ⟨rfl, rfl, rfl, trivial⟩ (⟨Nat.zero_le _, Ext.refl _ _⟩) ?_))))))))))))))))))))))))))))))))))))))))
 rintro i w2 ⟨hi0, hEi⟩;have B2i := B2b.ext hEi (fun h => h.elim);have B3i := B3.ext hEi (fun h => h.elim);refine zm (srx (mvx rfl (za rfl (zc Try.underlying24 rfl qy (by decide) rfl (za rfl (ze Try.underlying22 rfl rfl B2i rfl (za rfl (yq Try.underlying22 rfl (za rfl (yp rfl rfl (rnx (yl rfl (fun hc => ?_) (fun hc => ?_)))))))))))))
 ·
  have hc := of_decide_eq_true hc;have hlt : i < W.length := by omega
  obtain ⟨ga, oa, hA2, _, hca⟩ := ((hA.no hE).no hEi).at hlt;obtain ⟨gb, ob, hB2, _, hcb⟩ := ((hB.no hE).no hEi).at hlt;refine zo (zi (zm (yk (zm ?_))));refine vg (No) Mut.none_ [] [] (jx [Fx.of (.pointer (some ⟨g2, 0, none⟩)),
   Fx.of (.slice A W.length c),
   Fx.of (.int .i64 ((i : Nat) : Int)),
   Fx.of (.pointer (some ⟨ga, oa + i, none⟩)),
   Fx.of (.int .u64 ((wat W i : Nat) : Int)),
   Fx.of (.pointer (some ⟨g3, 0, none⟩)),
   Fx.of (.slice B W.length d),
   Fx.of (.int .i64 ((i : Nat) : Int)),
   Fx.of (.pointer (some ⟨gb, ob + i, none⟩)),
   Fx.of (.int .u64 ((wat W i : Nat) : Int)),
   Fx.of (.bool false)]) vo rfl trivial (fun _ h => by cases h) ?_ ?_
  · refine ⟨?_, ?_, ?_, ?_, ?_, ?_, ?_, ?_, ?_, ?_, ?_, trivial⟩
    · intro vs X wq K;exact zc Try.underlying24 rfl qy (by decide) rfl ⟨Below.refl _ _, Left.of rfl⟩
    · intro vs X wq K;have LE := K.1;obtain ⟨_, e0, k0⟩ := K.dep 0 rfl rfl rfl;refine zb 27 (.pointer (some ⟨g2, 0, none⟩)) rfl e0 ?_;exact ze Try.underlying22 rfl rfl (qe LE B2i) rfl ⟨Below.refl _ _, Left.of rfl⟩
    · intro vs X wq K;exact zj rfl ⟨Below.refl _ _, Left.of rfl⟩
    · intro vs X wq K;obtain ⟨_, e1, k1⟩ := K.dep 1 rfl rfl rfl;refine zb 28 (.slice A W.length c) rfl e1 ?_;obtain ⟨_, e2, k2⟩ := K.dep 2 rfl rfl rfl;refine zb 29 (.int .i64 ((i : Nat) : Int)) rfl e2 ?_;exact zx (j := i) Try.underlying22 qk (congrArg (fun z ↦ some (Value.slice z W.length c)) hA2) rfl rfl hlt ⟨Below.refl _ _, Left.of rfl⟩
    · intro vs X wq K;have LE := K.1;obtain ⟨_, e3, k3⟩ := K.dep 3 rfl rfl rfl;refine zb 30 (.pointer (some ⟨ga, oa + i, none⟩)) rfl e3 ?_;exact qo Try.underlying27 rfl rfl (ji LE hca) ⟨Below.refl _ _, Left.of rfl⟩
    · intro vs X wq K;exact zc Try.underlying24 rfl qy (by decide) rfl ⟨Below.refl _ _, Left.of rfl⟩
    · intro vs X wq K;have LE := K.1;obtain ⟨_, e5, k5⟩ := K.dep 5 rfl rfl rfl;refine zb 32 (.pointer (some ⟨g3, 0, none⟩)) rfl e5 ?_;exact ze Try.underlying22 rfl rfl (qe LE B3i) rfl ⟨Below.refl _ _, Left.of rfl⟩
    · intro vs X wq K;exact zj rfl ⟨Below.refl _ _, Left.of rfl⟩
    · intro vs X wq K;obtain ⟨_, e6, k6⟩ := K.dep 6 rfl rfl rfl;refine zb 33 (.slice B W.length d) rfl e6 ?_;obtain ⟨_, e7, k7⟩ := K.dep 7 rfl rfl rfl;refine zb 34 (.int .i64 ((i : Nat) : Int)) rfl e7 ?_;exact zx (j := i) Try.underlying22 qk (congrArg (fun z ↦ some (Value.slice z W.length d)) hB2) rfl rfl hlt ⟨Below.refl _ _, Left.of rfl⟩
    · intro vs X wq K;have LE := K.1;obtain ⟨_, e8, k8⟩ := K.dep 8 rfl rfl rfl;refine zb 35 (.pointer (some ⟨gb, ob + i, none⟩)) rfl e8 ?_;exact qo Try.underlying27 rfl rfl (ji LE hcb) ⟨Below.refl _ _, Left.of rfl⟩
    · intro vs X wq K;obtain ⟨_, e4, k4⟩ := K.dep 4 rfl rfl rfl;refine zb 31 (.int .u64 ((wat W i : Nat) : Int)) rfl e4 ?_;obtain ⟨_, e9, k9⟩ := K.dep 9 rfl rfl rfl;refine zb 36 (.int .u64 ((wat W i : Nat) : Int)) rfl e9 ?_;exact yw rfl rfl ⟨Below.refl _ _, Left.of ((by rw [bne_self_eq_false] : (.bool (((wat W i : Nat) : Int) != ((wat W i : Nat) : Int)) : Value) = _))⟩
  intro vs w3 LE AO AL AF AA;have hbd : Below (w2).heap.size (w2) w3 := (((Ext.refl No (w2)).drew).trans LE).toBelow;obtain ⟨_, e10, k10⟩ := AL.2.2.2.2.2.2.2.2.2.2.1;refine vb (τ := [(2, _), (3, _), (5, _), (37, .bool false)]) ⟨rfl, rfl, rfl, congrArg some e10, trivial⟩ ?_;clear AL AF AA AO
  refine zi (zw rfl (zo (zv (zi (yh (mvx rfl (za rfl (yg rfl rfl (zt (by omega)) (avx rfl (qi ?_))))))))));exact qr (i + 1) (by show W.length - (i + 1) < W.length - i; omega) ⟨rfl, rfl, rfl, trivial⟩ (⟨hlt, hEi.trans (Ext.of_below hbd No)⟩)
 ·
  refine ve (zy (zy (yu (zi (srx (anx rfl (zl (zk (rs := [.tmp 4]) (vs := [_]) rfl ⟨rfl, trivial⟩ ?_))))))));exact ⟨rfl, (hE.trans hEi).toBelow⟩
end Go.Proofs.Ytjhmifebmplahaa
namespace Go.Proofs.Ytjhmifebmplahaa
open Go.RowKit
set_option maxRecDepth 100000
attribute [local irreducible] OW RS
theorem byteN_out {s : ByteArray} {i : Nat} (h : s.size ≤ i) : vk s i = 0 := by
 have h' : s.data.size ≤ i := h;unfold vk;rw [Array.getElem?_eq_none h']; rfl
def hwN (s : ByteArray) (m : Nat) : Nat → Nat
 | 0 => 0
 | r + 1 => hwN s m r * 256 + vk s (8 * m + 7 - r)
theorem hwN_lt (s : ByteArray) (m : Nat) : ∀ r, hwN s m r < 256 ^ r
 | 0 => by show 0 < 256 ^ 0; decide
 | r + 1 => by
  have ih := hwN_lt s m r;have hb := zfv s (8 * m + 7 - r);rw [hwN, Nat.pow_succ];omega
theorem gf (s : ByteArray) (m r : Nat) (h : r < 8) : pkN s (8 * m + r + 1) m = pkN s (8 * m + r) m + vk s (8 * m + r) * 2 ^ (8 * r) := by
 rw [pkN, if_pos (by omega), show (8 * m + r) % 8 = r by omega]
theorem pkN_end (s : ByteArray) (m : Nat) : pkN s s.size m = pkN s (8 * m + 8) m := by
 have k1 : ∀ d, pkN s (s.size + d) m = pkN s s.size m := fun d => by
  induction d with
  | zero => rfl
  | succ d ih =>
   rw [← Nat.add_assoc, pkN, ih, byteN_out (Nat.le_add_right _ _)];split <;> simp
 have k2 : ∀ d, pkN s (8 * m + 8 + d) m = pkN s (8 * m + 8) m := fun d => by
  induction d with
  | zero => rfl
  | succ d ih => rw [← Nat.add_assoc, pkN, ih, if_neg (by omega), Nat.add_zero]
 have h1 := k1 (8 * m + 8);have h2 := k2 s.size;rw [Nat.add_comm] at h1;rw [← h1, h2]
theorem hwN_all (s : ByteArray) (m : Nat) : hwN s m 8 = pkN s s.size m := by
 rw [pkN_end];have e0 : pkN s (8 * m) m = 0 := pkN_low s (Nat.le_refl _);have e1 : pkN s (8 * m + 1) m = pkN s (8 * m) m + vk s (8 * m) * 2 ^ (8 * 0) := gf s m 0 (by omega);have e2 := gf s m 1 (by omega);have e3 := gf s m 2 (by omega);have e4 := gf s m 3 (by omega);have e5 := gf s m 4 (by omega);have e6 := gf s m 5 (by omega)
 have e7 := gf s m 6 (by omega);have e8 := gf s m 7 (by omega);rw [e0] at e1;simp only [hwN, Nat.reduceMul, Nat.reducePow, Nat.reduceAdd, Nat.add_assoc, Nat.add_zero, Nat.sub_zero, Nat.zero_mul, Nat.zero_add] at *
 rw [show 8 * m + 7 - 1 = 8 * m + 6 by omega, show 8 * m + 7 - 2 = 8 * m + 5 by omega, show 8 * m + 7 - 3 = 8 * m + 4 by omega, show 8 * m + 7 - 4 = 8 * m + 3 by omega, show 8 * m + 7 - 5 = 8 * m + 2 by omega, show 8 * m + 7 - 6 = 8 * m + 1 by omega, show 8 * m + 7 - 7 = 8 * m by omega];omega
theorem pkL_snoc (s : ByteArray) (i m : Nat) : pkL s i m ++ [pkN s i m] = pkL s i (m + 1) := by
 unfold pkL;rw [List.range_succ, List.map_append]; rfl
theorem wordsV_snoc (W : List Nat) (x : Nat) : yf W ++ [.int .u64 ((x : Nat) : Int)] = yf (W ++ [x]) := by unfold yf; rw [List.map_append]; rfl
theorem kb {w : World} {lo g x : Nat} (hb : Blk w g 27 #[.int .u64 ((x : Nat) : Int)]) (hg : lo ≤ g) : w.ownsRow lo 27 1 (.slice (some ⟨g, 0, none⟩) 1 1) 1 (yf [x]) :=
 ⟨by simp [yf], Or.inr ⟨g, 1, _, rfl, hg, hb, Nat.le_refl _, by unfold maxLen; omega, by simp, by simp [yf]⟩⟩
theorem rpack_any (w : World) (s : ByteArray) (hs : s.size ≤ 20000) : Calls Try.prog 25 #[.string s] w fun e w' => (∃ A c, e = .returned (.slice A (jd s).length c) ∧ w'.ownsRow w.heap.size 27 1 (.slice A (jd s).length c) (jd s).length (yf (jd s))) ∧ Below w.heap.size w w' := by
 refine yc Try.func25 rfl Try.ntmps25 rfl (srx (anx rfl (srx (mvx rfl (za rfl (jh Try.underlying9 rfl (za rfl (qc Try.underlying27 Try.underlying3 rfl (yi (by omega)) (zq 9 (.int .u64 ((s.size : Nat) : Int)) rfl (by first | rfl | (congr 1; omega)) (za rfl (qn (cs := #[.int .u64 ((s.size : Nat) : Int)]) Try.underlying22 qk zr27 (by decide) rfl (by rw [vf]; rfl) ?_)))))))))))
 rintro gx wA Bx E1 Gx;have O1 : wA.ownsRow w.heap.size 27 1 (.slice (some ⟨gx, 0, none⟩) 1 1) 1 (yf (pkL s s.size 0)) := kb Bx Gx
 refine anx rfl (zm (srx (anx rfl (yk (ye 4 (.int .i64 ((8 * 0 : Nat) : Int)) rfl ((by rfl : (.int .i64 0 : Value) = _)) (vd (ι := Nat × Option Addr × Nat) (fun (m, A, c) => [(0, .string s), (3, .slice A (1 + m) c), (4, .int .i64 ((8 * m : Nat) : Int))]) (fun (m, A, c) w' => 8 * m < s.size + 8 ∧ w'.ownsRow w.heap.size 27 1 (.slice A (1 + m) c) (1 + m) (yf (pkL s s.size m)) ∧ Ext (fun q => w.heap.size ≤ q) w w') (fun (m, _) => s.size + 8 - 8 * m) (0, some ⟨gx, 0, none⟩, 1) ⟨rfl, rfl, rfl, trivial⟩ (⟨by omega, O1, E1.noL w.heap.size⟩) ?_))))))
 rintro ⟨m, A, c⟩ w2 ⟨hm8, Om, hEm⟩;refine zm (srx (mvx rfl (mvx rfl (za rfl (jh Try.underlying9 rfl (za rfl (yp rfl rfl (rnx (yl rfl (fun hc => ?_) (fun hc => ?_))))))))))
 ·
  have hc := of_decide_eq_true hc;have hlt : 8 * m < s.size := by omega
  obtain ⟨wm, hwm⟩ : ∃ wm, wm = w2 := ⟨_, rfl⟩;subst hwm
  refine zo (zi (zm (yk (srx (anx rfl (zm (srx (anx rfl (yk (ye 5 (.int .u64 ((hwN s m 0 : Nat) : Int)) rfl ((by rfl : (.int .u64 0 : Value) = _)) (ye 6 (.int .i64 (7 - ((0 : Nat) : Int))) rfl ((by rfl : (.int .i64 7 : Value) = _)) (vd (ι := Nat) (fun r => [(0, .string s), (3, .slice A (1 + m) c), (4, .int .i64 ((8 * m : Nat) : Int)), (5, .int .u64 ((hwN s m r : Nat) : Int)), (6, .int .i64 (7 - ((r : Nat) : Int)))]) (fun r w' => r ≤ 8 ∧ Ext No wm w') (fun r => 8 - r) 0 ⟨rfl, rfl, rfl, rfl, rfl, trivial⟩ (⟨Nat.zero_le _, Ext.refl _ _⟩) ?_))))))))))))
  rintro r w4 ⟨hr8, hEr⟩;refine zm (srx (mvx rfl (za rfl (jb rfl rfl (rnx (yl rfl (fun hc2 => ?_) (fun hc2 => ?_)))))))
  ·
   have hc2 := of_decide_eq_true hc2;have hrl : r < 8 := by omega
   have hw := hwN_lt s m r;have hw7 : 256 ^ r ≤ 256 ^ 7 := Nat.pow_le_pow_right (by decide) (by omega);have hbl := zfv s (8 * m + 7 - r)
   refine zo (zi (zm (yk (srx (mvx rfl (za rfl (ju rfl rfl (show IntKind.u64.wrap (((hwN s m r : Nat) : Int) * 256) = ((hwN s m r * 256 : Nat) : Int) from by rw [yi (by omega)]; omega) (anx rfl (srx (mvx rfl (mvx rfl (za rfl (yg rfl rfl (zt (by omega)) (mvx rfl (za rfl (jh Try.underlying9 rfl (za rfl (yp rfl rfl (rnx ?_)))))))))))))))))))
   by_cases hin : 8 * m + 7 - r < s.size
   ·
    refine ye 28 (.bool true) rfl (by rw [decide_eq_true]; omega) (yd rfl (yh (mvx rfl (mvx rfl (mvx rfl (mvx rfl (za rfl (yg rfl rfl (zt (by omega)) (za rfl (ow_indexSL (j := 8 * m + 7 - r) (b := vk s (8 * m + 7 - r)) Try.underlying9 rfl rfl (by omega) (byteN_some hin) (za rfl (qc Try.underlying27 Try.underlying5 rfl (yi (by omega)) (za rfl (yg rfl rfl (show IntKind.u64.wrap (((hwN s m r * 256 : Nat) : Int) + ((vk s (8 * m + 7 - r) : Nat) : Int)) = ((hwN s m (r + 1) : Nat) : Int) from by rw [yi (by omega), hwN]; omega) (avx rfl (qi (zv (zi (yh (mvx rfl (za rfl (vu rfl rfl (zt (by omega)) (avx rfl (qi (zhv 6 (.int .i64 (7 - ((r + 1 : Nat) : Int))) rfl ((by first | rfl | (congr 1; omega) : (.int .i64 ((7 - ((r : Nat) : Int)) - 1) : Value) = _)) ?_)))))))))))))))))))))))))
    exact qr (r + 1) (by show 8 - (r + 1) < 8 - r; omega) ⟨rfl, rfl, rfl, rfl, rfl, trivial⟩ (⟨hrl, hEr⟩)
   ·
    refine ye 28 (.bool false) rfl (by rw [decide_eq_false]; omega) ?_;have e0 : vk s (8 * m + 7 - r) = 0 := byteN_out (by omega)
    refine zw rfl (zo (zv (zi (yh (mvx rfl (za rfl (vu rfl rfl (zt (by omega)) (avx rfl (qi (zhv 5 (.int .u64 ((hwN s m (r + 1) : Nat) : Int)) rfl ((by rw [hwN, e0]; rfl : (.int .u64 ((hwN s m r * 256 : Nat) : Int) : Value) = _)) (zhv 6 (.int .i64 (7 - ((r + 1 : Nat) : Int))) rfl ((by first | rfl | (congr 1; omega) : (.int .i64 ((7 - ((r : Nat) : Int)) - 1) : Value) = _)) ?_)))))))))))
    exact qr (r + 1) (by show 8 - (r + 1) < 8 - r; omega) ⟨rfl, rfl, rfl, rfl, rfl, trivial⟩ (⟨hrl, hEr⟩)
  ·
   have hc2 := of_decide_eq_false hc2;have hre : r = 8 := by omega
   refine ye 5 (.int .u64 ((pkN s s.size m : Nat) : Int)) rfl ((by rw [hre, hwN_all] : (.int .u64 ((hwN s m r : Nat) : Int) : Value) = _)) (ve (zy (zy (yu (zi (yh (mvx rfl (mvx rfl (za rfl (qn (cs := #[.int .u64 ((pkN s s.size m : Nat) : Int)]) Try.underlying22 qk zr27 (by decide) rfl (by rw [vf]; rfl) ?_))))))))))
   rintro gy wB By E2 Gy;have hE2 := (hEm.step hEr (fun _ h => h.elim)).step E2 (fun _ h => h.elim);have O2 := qg (qg Om hEr (fun _ _ h => h.elim)) E2 (fun _ _ h => h.elim)
   refine za rfl (jw (n' := 1 + (m + 1)) (xs' := yf (pkL s s.size (m + 1))) Try.underlying22 zaq rfl (by decide) rfl O2 rfl (reads_rowN By By.lt rfl) (by simp [Value.oneCell']) (by omega) (by rw [← pkL_snoc, ← wordsV_snoc]) (by unfold maxLen; omega) (by omega) hE2.size ?_);rintro A6 c6 wC O3 E3 N3
   refine avx rfl (qi (zv (zi (yh (mvx rfl (za rfl (yg rfl rfl (zt (by omega)) (avx rfl (qi (zhv 4 (.int .i64 ((8 * (m + 1) : Nat) : Int)) rfl ((by first | rfl | (congr 1; omega) : (.int .i64 (((8 * m : Nat) : Int) + 8) : Value) = _)) ?_))))))))))
   exact qr (m + 1, A6, c6) (by show s.size + 8 - 8 * (m + 1) < s.size + 8 - 8 * m; omega) ⟨rfl, rfl, rfl, trivial⟩ (⟨by omega, O3, hE2.step E3 (fun q hq => Or.inl (show w.heap.size ≤ q from zgv O2 q hq))⟩)
 ·
  have hc := of_decide_eq_false hc;have hme : m = (s.size + 7) / 8 := by omega
  have hl : 1 + m = (jd s).length := by rw [oj, hme]
  have hp : pkL s s.size m = jd s := by unfold jd; rw [hme]
  rw [hp, hl] at Om;refine ve (zy (zy (yu (zi (srx (mvx rfl (anx rfl (zl (zk (rs := [.tmp 2]) (vs := [_]) rfl ⟨rfl, trivial⟩ ?_)))))))));exact ⟨⟨A, c, by rw [← hl]; rfl, Om⟩, hEm.below (fun _ h => h)⟩
end Go.Proofs.Ytjhmifebmplahaa
namespace Go.Proofs.Ytjhmifebmplahaa
open Go.RowKit
set_option maxRecDepth 100000
def PV.raw (v : PV) : List Nat := if v.k = 3 then [vq v.bits] else if v.k = 4 then jd v.s else (if v.neg then 1 else 0) :: v.xs
def PV.big (v : PV) : Prop := v.k = 3 ∨ v.k = 4 ∨ (v.k = 2 ∧ 2 ≤ v.xs.length)
def PV.small (v : PV) : Nat := if v.k = 0 then 2 else if v.k = 1 then (if v.yes then 10 else 6) else gj (num v.neg v.xs)
inductive PutCase (v : PV) (W : List Nat) (top : Nat) : Nat → Int → List Nat → Nat → Prop
 | bad : v.good = false → PutCase v W top 0 3 W top
 | small {x : Nat} : v.good = true → ¬ v.big → x = v.small → PutCase v W top x 0 W top
 | full : v.good = true → v.big → W.length < top + (2 + 0 + v.raw.length) → PutCase v W top 0 5 W top
 | laid : v.good = true → v.big → top + (2 + 0 + v.raw.length) ≤ W.length → PutCase v W top (4 * top) 0 (laid W top v.k.natAbs [] v.raw) (top + (2 + 0 + v.raw.length))
theorem PutCase.same {v : PV} {W V V' : List Nat} {top x x' t t' : Nat} {e e' : Int} (h : PutCase v W top x e V t) (h' : PutCase v W top x' e' V' t') : x = x' ∧ e = e' ∧ V = V' ∧ t = t' := by
 cases h with
 | bad h1 => cases h' with
  | bad _ => exact ⟨rfl, rfl, rfl, rfl⟩
  | small k1 _ _ => rw [h1] at k1; cases k1
  | full k1 _ _ => rw [h1] at k1; cases k1
  | laid k1 _ _ => rw [h1] at k1; cases k1
 | small h1 h2 h3 => cases h' with
  | bad k1 => rw [h1] at k1; cases k1
  | small _ _ k3 => exact ⟨h3.trans k3.symm, rfl, rfl, rfl⟩
  | full _ k2 _ => exact absurd k2 h2
  | laid _ k2 _ => exact absurd k2 h2
 | full h1 h2 h3 => cases h' with
  | bad k1 => rw [h1] at k1; cases k1
  | small _ k2 _ => exact absurd h2 k2
  | full _ _ _ => exact ⟨rfl, rfl, rfl, rfl⟩
  | laid _ _ k3 => omega
 | laid h1 h2 h3 => cases h' with
  | bad k1 => rw [h1] at k1; cases k1
  | small _ k2 _ => exact absurd h2 k2
  | full _ _ k3 => omega
  | laid _ _ _ => exact ⟨rfl, rfl, rfl, rfl⟩
theorem PV.good_k {v : PV} (h : v.good = true) : v.k = 0 ∨ v.k = 1 ∨ v.k = 2 ∨ v.k = 3 ∨ v.k = 4 := by
 refine Decidable.byContradiction fun hk => ?_;have h0 : ¬ v.k = 0 := fun e => hk (Or.inl e);have h1 : ¬ v.k = 1 := fun e => hk (Or.inr (Or.inl e));have h2 : ¬ v.k = 2 := fun e => hk (Or.inr (Or.inr (Or.inl e)));have h3 : ¬ v.k = 3 := fun e => hk (Or.inr (Or.inr (Or.inr (Or.inl e))));have h4 : ¬ v.k = 4 := fun e => hk (Or.inr (Or.inr (Or.inr (Or.inr e))));unfold PV.good at h
 rw [if_neg h0, if_neg h1, if_neg h2, if_neg h3, if_neg h4, Bool.and_false] at h;cases h
theorem PV.good_2 {v : PV} (h : v.good = true) (hk : v.k = 2) : vw v.neg v.xs = true := by
 unfold PV.good at h;rw [if_neg (by omega), if_neg (by omega), if_pos hk] at h;simp only [Bool.and_eq_true] at h
 exact h.2.1.1.1
theorem PV.good_4 {v : PV} (h : v.good = true) (hk : v.k = 4) : v.s.size ≤ 20000 := by
 unfold PV.good at h;rw [if_neg (by omega), if_neg (by omega), if_neg (by omega), if_neg (by omega), if_pos hk] at h;simp only [Bool.and_eq_true, decide_eq_true_eq] at h
 exact h.2.2
theorem small_num {neg : Bool} {xs : List Nat} (h : vw neg xs = true) (hl : xs.length < 2) : -999999999999999999 ≤ num neg xs ∧ num neg xs ≤ 999999999999999999 ∧ inR (num neg xs) := by
 obtain ⟨hs, _, _, _⟩ := vm h;have h1 := val_lt hs;have h2 : B18 ^ xs.length ≤ B18 ^ 1 := Nat.pow_le_pow_right (by unfold B18; omega) (by omega);have h3 : B18 ^ 1 = 1000000000000000000 := by unfold B18; rfl
 have h4 := xi neg xs;unfold inR;omega
theorem jo {w : World} {lo g c : Nat} {W : List Nat} (h : w.ownsRow lo 27 1 (.slice (some ⟨g, 0, none⟩) W.length c) W.length (yf W)) (hl : 8 * W.length ≤ 140737488355000) (hi : ∀ x ∈ W, U64 x) : WordsA (g + 1) w (some ⟨g, 0, none⟩) W :=
 ⟨hl, hi, fun h0 => by
  obtain ⟨g', hA, _, hg, hc⟩ := zbk h (List.length_pos_iff.2 h0);cases hA
  refine ⟨g, 0, rfl, Nat.lt_succ_self g, fun j x hx => ?_⟩;show w.cell? ⟨g, 0 + j * 1, none⟩ = _
  rw [Nat.zero_add, Nat.mul_one];refine hc j _ ?_;unfold yf;rw [List.getElem?_map, hx]; rfl⟩
def marks (n : Nat) : List Nat := (List.range 6).map fun j => 7770000 + (n + j)
theorem nth_get {xs : List Nat} {k v : Nat} (h : xs[k]? = some v) : nth xs k = (v : Int) := by
 unfold nth;rw [List.getD_eq_getElem?_getD, h]; rfl
theorem nth_left {xs ys : List Nat} {k : Nat} (h : k < xs.length) : nth (xs ++ ys) k = nth xs k := by
 unfold nth;rw [List.getD_eq_getElem?_getD, List.getElem?_append_left h, ← List.getD_eq_getElem?_getD]
def Roomy (w : World) (g : Nat) (xs : List Nat) : Prop := Row w g (xs.length + 6) (xs ++ marks xs.length)
theorem Row.blk {w : World} {g n : Nat} {ys : List Nat} (h : Row w g n ys) : ∃ cs, Blk w g 27 cs ∧ cs.size = n ∧ ∀ i, i < n → cs[i]? = some (rowOf ys i) := h.1
section
variable (A : Option Addr) (c : Nat) (xs : List Nat) (w : World)
end
end Go.Proofs.Ytjhmifebmplahaa
namespace Go.Proofs.Ytjhmifebmplahaa
open Go.RowKit
set_option maxRecDepth 100000
attribute [local irreducible] OW RS
theorem WordsA.nums {n : Nat} {w : World} {A : Option Addr} {T : List Nat} (h : WordsA n w A T) (hn : n ≤ w.heap.size) : Nums w A T := by
 refine ⟨fun k => ?_, fun h0 => ?_⟩
 · by_cases hk : k < T.length
   · have h1 := List.getElem?_eq_getElem hk;rw [nth_get h1];have := h.in_ _ (List.mem_of_getElem? h1);unfold U64 at this;omega
   · unfold nth;rw [List.getD_eq_getElem?_getD, List.getElem?_eq_none (by omega)];decide
 · obtain ⟨g, o, e, hg, _⟩ := h.cell (List.getElem?_eq_getElem h0);refine ⟨g, o, e, by omega, fun k hk => ?_⟩;obtain ⟨g2, o2, e2, _, hc⟩ := h.cell (List.getElem?_eq_getElem hk);rw [e] at e2;cases e2
   rw [hc, nth_get (List.getElem?_eq_getElem hk)]
theorem Roomy.words {w : World} {g n : Nat} {T : List Nat} (h : Roomy w g T) (hg : g < n) (hl : 8 * T.length ≤ 140737488355000) (hi : ∀ x ∈ T, U64 x) : WordsA n w (some ⟨g, 0, none⟩) T :=
 ⟨hl, hi, fun _ => ⟨g, 0, rfl, hg, fun j x hx => by
  have hj := (List.getElem?_eq_some_iff.1 hx).1;show w.cell? ⟨g, 0 + j * 1, none⟩ = _
  rw [Nat.zero_add, Nat.mul_one, h.cell (by omega), nth_left hj, nth_get hx]⟩⟩
theorem OwnM.cap {lo gm gW cap top : Nat} {w : World} {W : List Nat} (h : OwnM lo w gm gW cap W top) : ∃ cur, Blk w gW 27 cur ∧ W.length ≤ cap ∧ cap ≤ maxLen ∧ cur.size = cap := by
 rcases h.row.2 with ⟨h1, _⟩ | ⟨g, c, cur, h1, _, h3, h4, h5, h6, _⟩
 · cases h1
 · cases h1
   exact ⟨cur, h3, h4, by omega, by omega⟩
section
variable (lo gm gW cap top c n : Nat) (w : World) (W T : List Nat) (B : Option Addr) (l : List Nat) (hM : OwnM lo w gm gW cap W top) (hF : FormL W top l) (hmW : gm ≠ gW) (hT : ∀ z, Ext (Mut [some gm, some gW]) w z → WordsA n z B T) (hn : n ≤ w.heap.size) (hg : ∀ x ∈ T, WordOk l x)
include hM hF hmW hT hn hg
def RetObj (lo gm gW cap top : Nat) (w : World) (W T l : List Nat) (e : Ending) (w' : World) : Prop := ∃ (x : Nat) (er : Int) (W' : List Nat) (t' : Nat) (l' : List Nat), e = .returned (.tuple #[.int .u64 ((x : Nat) : Int), .int .i64 er]) ∧ OwnM lo w' gm gW cap W' t' ∧ Ext (Mut [some gm, some gW]) w w' ∧ Grown2 W top l W' t' l' ∧ U64 x ∧ (er = 0 → T.length ≤ 20000 ∧ HasItems W' t' x T)
end
section
variable (w : World) (A B : Option Addr) (W T : List Nat) (c d n : Nat) (top : Int) (hw : WordsA n w A W) (hr : WordsA n w B T) (htop : I64 top) (hn : n ≤ w.heap.size) (hTl : T.length * 8 ≤ 140737488351232)
include hw hr htop hn hTl
end
end Go.Proofs.Ytjhmifebmplahaa
namespace Go.Proofs.Ytjhmifebmplahaa
open Go.RowKit
set_option maxRecDepth 100000
attribute [local irreducible] OW RS
theorem owns_words {w : World} {g : Nat} {W : List Nat} (hb : Blk w g 27 (yf W).toArray) (hm : W.length ≤ maxLen) : w.ownsRow g 27 1 (.slice (some ⟨g, 0, none⟩) W.length W.length) W.length (yf W) :=
 ⟨by rw [jj, Nat.mul_one], Or.inr ⟨g, W.length, _, rfl, Nat.le_refl _, hb, Nat.le_refl _, hm, by rw [List.size_toArray, jj, Nat.mul_one], by rw [Nat.mul_one]; exact List.take_of_length_le (by rw [jj]; exact Nat.le_refl _)⟩⟩
theorem wv31_1 : Gives 31 #[.int .i64 1] (.tuple #[.int .u64 6, .int .i64 0]) := by
 intro w;refine yc Try.func31 rfl Try.ntmps31 rfl ?_;have LW := erx (No) w;have XLW := grx (No) w;have E := erx (No) w
 refine srx (avx rfl (anx rfl (zm (srx (mvx rfl (za rfl (yp rfl rfl (mvx rfl (onx rfl (zj rfl (onx rfl (yy rfl rfl (za rfl (zh rfl rfl (rnx (zw rfl (zo (zi (srx (mvx rfl (za rfl (qc (z := 1) Try.underlying27 Try.underlying3 rfl (by kernel_rfl) (za rfl (xf (z := 4) rfl rfl (by decide) (by kernel_rfl) (za rfl (zjz (z := 6) rfl rfl (by kernel_rfl) (avx rfl (anx rfl (zl (zk (rs := [.tmp 2, .tmp 3]) (vs := [.int .u64 6, .int .i64 0]) rfl ⟨rfl, rfl, trivial⟩ ?_))))))))))))))))))))))))))))))
 exact ⟨rfl, (LW.step E XLW).toBelow⟩
theorem wv31_2 : Gives 31 #[.int .i64 2] (.tuple #[.int .u64 10, .int .i64 0]) := by
 intro w;refine yc Try.func31 rfl Try.ntmps31 rfl ?_;have LW := erx (No) w;have XLW := grx (No) w;have E := erx (No) w
 refine srx (avx rfl (anx rfl (zm (srx (mvx rfl (za rfl (yp rfl rfl (mvx rfl (onx rfl (zj rfl (onx rfl (yy rfl rfl (za rfl (zh rfl rfl (rnx (zw rfl (zo (zi (srx (mvx rfl (za rfl (qc (z := 2) Try.underlying27 Try.underlying3 rfl (by kernel_rfl) (za rfl (xf (z := 8) rfl rfl (by decide) (by kernel_rfl) (za rfl (zjz (z := 10) rfl rfl (by kernel_rfl) (avx rfl (anx rfl (zl (zk (rs := [.tmp 2, .tmp 3]) (vs := [.int .u64 10, .int .i64 0]) rfl ⟨rfl, rfl, trivial⟩ ?_))))))))))))))))))))))))))))))
 exact ⟨rfl, (LW.step E XLW).toBelow⟩
theorem jg {v : PV} (hx : ∀ y ∈ v.xs, U64 y) (hb : U64 v.bits) (hs : v.s.size ≤ 20000 ∨ v.k ≠ 4) : ∀ y ∈ v.raw, U64 y := fun y hy => by
 unfold PV.raw at hy;split at hy
 · rw [List.mem_singleton.1 hy]; exact bareN_lt hb
 · split at hy
   · rename_i h4
     exact pkL_u64 v.s (by have := hs.resolve_right (fun h => h h4); omega) _ _ y hy
   · rcases List.mem_cons.1 hy with rfl | hy
     · split <;> (unfold U64; decide)
     · exact hx y hy
section
variable (lo gm gW cap top n : Nat) (w : World) (W : List Nat) (v : PV) (p : PVp) (hM : OwnM lo w gm gW cap W top) (hmW : gm ≠ gW) (hz : ∀ i, top ≤ i → wat W i = 0) (hv : PVA n w v p) (hnm : n ≤ gm) (hnW : n ≤ gW)
include hM hmW hz hv hnm hnW
def RetPut (lo gm gW cap top : Nat) (w : World) (W : List Nat) (v : PV) (e : Ending) (w' : World) : Prop := ∃ (x : Nat) (er : Int) (W' : List Nat) (t' : Nat), e = .returned (.tuple #[.int .u64 ((x : Nat) : Int), .int .i64 er]) ∧ PutCase v W top x er W' t' ∧ OwnM lo w' gm gW cap W' t' ∧ Ext (Mut [some gm, some gW]) w w'
set_option maxHeartbeats 2000000 in
theorem oput_any : Calls Try.prog 9 #[.pointer (some ⟨gm, 0, none⟩), .agg #[.int .i64 v.k, .bool v.yes, .bool v.neg, .slice p.a v.xs.length p.c, .int .u64 ((v.bits : Nat) : Int), .string v.s, .slice p.b v.ni p.d]] w (RetPut lo gm gW cap top w W v) := by
 have _ := hnW;have hlt := hM.lt;have hW4 := hM.most;have hll := hv.limbs.len;have hbits : v.bits < 18446744073709551616 := hv.bits;have hnw : n ≤ w.heap.size := by omega
 refine yc Try.func9 rfl Try.ntmps9 rfl (srx (za rfl (qh rfl ?_)));rintro g3 wA B3a E1 G3;have B3 : Blk wA g3 30 #[.int .i64 v.k, .bool v.yes, .bool v.neg, .slice p.a v.xs.length p.c, .int .u64 ((v.bits : Nat) : Int), .string v.s, .slice p.b v.ni p.d] := B3a;refine avx rfl (anx rfl (zm (srx (za rfl (yb Try.underlying30 rfl sz30 rfl B3 rfl ?_)))));have hs1 := E1.size
 refine za rfl (zp en30 rfl ((pgood_any _ v.k v.yes v.neg p.a p.b v.xs p.c v.bits v.ni p.d v.s ((hv.limbs.no E1).nums (by omega)) (by omega)).mono ?_));rintro e w1 ⟨rfl, hb⟩;refine ⟨_, rfl, ?_⟩;have E2 := E1.trans (Ext.of_below hb No);have B4 := B3.ext (Ext.of_below hb No) (fun h => h.elim);have hs2 := E2.size;refine za rfl (qd rfl (rnx ?_));by_cases hg : v.good = true
 ·
  refine ye 11 (.bool false) rfl ((by rw [hg]; rfl : (.bool (!v.good) : Value) = _)) (zw rfl (zo (zi (zm (srx (mvx rfl (za rfl (kp Try.underlying39 rfl rfl (rnx (zw rfl (zo (zi (zm (srx (za rfl (zc Try.underlying30 rfl sz3 (by decide) rfl (za rfl (ze Try.underlying3 rfl rfl B4 rfl (rnx (yk (srx (za rfl (yr rfl rfl ?_)))))))))))))))))))))))
  by_cases h0 : v.k = 0
  ·
   refine zq 17 (.bool true) rfl ((by rw [h0]; rfl : (.bool (v.k == 0) : Value) = _)) (anx rfl (yd rfl (srx (za rfl (zp en31 rfl ((const0_any _).mono ?_))))));rintro e w2 ⟨rfl, hb⟩;refine ⟨_, rfl, ?_⟩;have E3 := E2.trans (Ext.of_below hb No)
   refine za rfl (zg rfl rfl (za rfl (zg rfl rfl (avx rfl (anx rfl (zl (zn (zf (zk (rs := [.tmp 4, .tmp 5]) (vs := [_, _]) rfl ⟨rfl, rfl, trivial⟩ ?_)))))))));exact ⟨2, 0, W, top, rfl, .small hg (by unfold PV.big; omega) (by unfold PV.small; rw [if_pos h0]), hM.ext E3 (fun h => h) (fun h => h), E3.mono (fun _ h _ => h.elim)⟩
  ·
   refine zq 17 (.bool false) rfl ((by congr 1; rw [beq_eq_false_iff_ne]; exact h0 : (.bool (v.k == 0) : Value) = _)) (anx rfl (zw rfl (srx (za rfl (yr rfl rfl ?_)))));by_cases h1 : v.k = 1
   ·
    refine zq 22 (.bool true) rfl ((by rw [h1]; rfl : (.bool (v.k == 1) : Value) = _)) (anx rfl (yd rfl (zm (srx (za rfl (zc Try.underlying30 rfl sz4 (by decide) rfl (za rfl (ze Try.underlying4 rfl rfl B4 rfl ?_))))))));by_cases hy : v.yes = true
    ·
     refine zq 24 (.bool true) rfl ((by rw [hy] : (.bool v.yes : Value) = _)) (rnx (yd rfl (srx (za rfl (zp en31 rfl ((wv31_2 _).mono ?_))))));rintro e w3 ⟨rfl, hb⟩;refine ⟨_, rfl, ?_⟩;have E3 := E2.trans (Ext.of_below hb No)
     refine za rfl (zg rfl rfl (za rfl (zg rfl rfl (avx rfl (anx rfl (zl (zf (zn (zf (zk (rs := [.tmp 4, .tmp 5]) (vs := [_, _]) rfl ⟨rfl, rfl, trivial⟩ ?_))))))))))
     exact ⟨10, 0, W, top, rfl, .small hg (by unfold PV.big; omega) (by unfold PV.small; rw [if_neg h0, if_pos h1, if_pos hy]), hM.ext E3 (fun h => h) (fun h => h), E3.mono (fun _ h _ => h.elim)⟩
    ·
     refine zq 24 (.bool false) rfl ((by rw [Bool.eq_false_iff.2 hy] : (.bool v.yes : Value) = _)) (rnx (zw rfl (zo (zi (srx (za rfl (zp en31 rfl ((wv31_1 _).mono ?_))))))));rintro e w4 ⟨rfl, hb⟩;refine ⟨_, rfl, ?_⟩;have E3 := E2.trans (Ext.of_below hb No)
     refine za rfl (zg rfl rfl (za rfl (zg rfl rfl (avx rfl (anx rfl (zl (zn (zf (zk (rs := [.tmp 4, .tmp 5]) (vs := [_, _]) rfl ⟨rfl, rfl, trivial⟩ ?_)))))))))
     exact ⟨6, 0, W, top, rfl, .small hg (by unfold PV.big; omega) (by unfold PV.small; rw [if_neg h0, if_pos h1, if_neg hy]), hM.ext E3 (fun h => h) (fun h => h), E3.mono (fun _ h _ => h.elim)⟩
   ·
    refine zq 22 (.bool false) rfl ((by congr 1; rw [beq_eq_false_iff_ne]; exact h1 : (.bool (v.k == 1) : Value) = _)) (anx rfl (zw rfl (srx (za rfl (yr rfl rfl ?_)))));by_cases h3 : v.k = 3
    ·
     refine zq 32 (.bool true) rfl ((by rw [h3]; rfl : (.bool (v.k == 3) : Value) = _)) ?_;have hraw : v.raw = [vq v.bits] := by unfold PV.raw; rw [if_pos h3]
     have hrl : v.raw.length = 1 := by rw [hraw]; rfl
     have hk : v.k.natAbs = 3 := by rw [h3]; rfl
     refine anx rfl (yd rfl (srx (mvx rfl (za rfl (zc Try.underlying30 rfl qk (by decide) rfl (za rfl (ze Try.underlying27 rfl rfl B4 rfl (za rfl (zp en33 rfl ((neg_any_r _ v.bits).mono ?_))))))))));rintro e w5 ⟨rfl, hb⟩;refine ⟨_, rfl, ?_⟩;have E3 := E2.trans (Ext.of_below hb No)
     refine za rfl (zp en33 rfl ((neg_any_r _ (vq (va v.bits))).mono ?_));rintro e w6 ⟨rfl, hb⟩;refine ⟨_, rfl, ?_⟩;have E4 := E3.trans (Ext.of_below hb No)
     refine zq 37 (.int .u64 ((vq v.bits : Nat) : Int)) rfl ((by rw [neg_twice hbits] : (.int .u64 ((vq (va (vq (va v.bits))) : Nat) : Int) : Value) = _)) (za rfl (qn (cs := #[.int .u64 ((vq v.bits : Nat) : Int)]) Try.underlying22 qk zr27 (by decide) rfl (by rw [vf]; rfl) ?_));rintro gx wX Bx Ex Gx;have hT := E4.trans Ex
     have hgx : w.heap.size ≤ gx := by have := E4.size; omega
     have OR : wX.ownsRow gx 27 1 (.slice (some ⟨gx, 0, none⟩) v.raw.length 1) v.raw.length (yf v.raw) := by rw [hraw]; exact kb Bx (Nat.le_refl _)
     refine zq 38 (.slice (some ⟨gx, 0, none⟩) v.raw.length 1) rfl ((by rw [hrl] : (.slice (some ⟨gx, 0, none⟩) 1 1 : Value) = _)) ?_;have hsl : Ext (fun q => w.heap.size ≤ q) w wX := hT.noL w.heap.size;have hMt := hM.ext hT (fun h => h) (fun h => h);have hgt : w.heap.size ≤ gx := hgx
     have hRz : ∀ z, Ext (Mut [some gm, some gW]) wX z → WordsA (gx + 1) z (some ⟨gx, 0, none⟩) v.raw := fun z hz => jo (qg OR hz (fun q hq h => by have h2 : gx = q := Option.some.inj hq; rcases h with h | h | h <;> first | exact h.elim | (have := Option.some.inj h; omega))) (by omega) (jg hv.limbs.in_ hv.bits (by omega))
     by_cases hf : top + (2 + 0 + v.raw.length) ≤ W.length
     ·
      refine za rfl (zp en32 rfl ((gg lo gm gW cap top 3 0 1 (gx + 1) _ W [] v.raw none (some ⟨gx, 0, none⟩) hMt (by omega) (Nat.zero_le _) (by omega) hmW (fun z hz => .nil _ _ _) hRz (fun x hx => (by cases hx)) hz hf).mono ?_));rintro e w7 ⟨rfl, hMT, hET⟩
      refine ⟨_, rfl, (za rfl (zg rfl rfl (za rfl (zg rfl rfl (avx rfl (anx rfl (zl (zn (zf (zk (rs := [.tmp 4, .tmp 5]) (vs := [_, _]) rfl ⟨rfl, rfl, trivial⟩ ?_))))))))))⟩
      exact ⟨4 * top, 0, _, _, rfl, .laid hg (by unfold PV.big; omega) hf, by rw [hk]; exact hMT, (hT.mono (Y := Mut [some gm, some gW]) (fun _ h _ => h.elim)).step hET (fun q hq => Or.inl hq)⟩
     ·
      refine za rfl (zp en32 rfl ((xh lo gm gW cap top 3 0 1 (gx + 1) _ W [] v.raw none (some ⟨gx, 0, none⟩) hMt (by omega) (Nat.zero_le _) (by omega) hmW (fun z hz => .nil _ _ _) hRz (fun x hx => (by cases hx)) (by show W.length < top + (2 + 0 + v.raw.length); omega)).mono ?_));rintro e w8 ⟨rfl, hb⟩;refine ⟨_, rfl, ?_⟩;have hT2 := hT.trans (Ext.of_below hb No)
      refine za rfl (zg rfl rfl (za rfl (zg rfl rfl (avx rfl (anx rfl (zl (zn (zf (zk (rs := [.tmp 4, .tmp 5]) (vs := [_, _]) rfl ⟨rfl, rfl, trivial⟩ ?_)))))))));exact ⟨0, 5, W, top, rfl, .full hg (by unfold PV.big; omega) (by omega), hM.ext hT2 (fun h => h) (fun h => h), hT2.mono (Y := Mut [some gm, some gW]) (fun _ h _ => h.elim)⟩
    ·
     refine zq 32 (.bool false) rfl ((by congr 1; rw [beq_eq_false_iff_ne]; exact h3 : (.bool (v.k == 3) : Value) = _)) (anx rfl (zw rfl (srx (za rfl (yr rfl rfl ?_)))));by_cases h4 : v.k = 4
     ·
      refine zq 43 (.bool true) rfl ((by rw [h4]; rfl : (.bool (v.k == 4) : Value) = _)) ?_;have hraw : v.raw = jd v.s := by unfold PV.raw; rw [if_neg h3, if_pos h4]
      have hk : v.k.natAbs = 4 := by rw [h4]; rfl
      have hs4 := PV.good_4 hg h4;have hrl : v.raw.length ≤ 2502 := by rw [hraw, oj]; omega
      refine anx rfl (yd rfl (srx (mvx rfl (za rfl (zc Try.underlying30 rfl sz9 (by decide) rfl (za rfl (ze Try.underlying9 rfl rfl B4 rfl (za rfl (zp en34 rfl ((packed_any _ v.s hs4).mono ?_))))))))));rintro e w9 ⟨⟨gx, rfl, Bx, Gx⟩, hb⟩;refine ⟨_, rfl, ?_⟩;have hT := E2.trans (Ext.of_below hb No);have hgx : w.heap.size ≤ gx := by omega
      rw [← hraw] at Bx;have OR : w9.ownsRow gx 27 1 (.slice (some ⟨gx, 0, none⟩) v.raw.length v.raw.length) v.raw.length (yf v.raw) := owns_words Bx (by unfold maxLen; omega);refine zq 47 (.slice (some ⟨gx, 0, none⟩) v.raw.length v.raw.length) rfl ((by rw [hraw] : (.slice (some ⟨gx, 0, none⟩) (jd v.s).length (jd v.s).length : Value) = _)) ?_
      have hsl : Ext (fun q => w.heap.size ≤ q) w w9 := hT.noL w.heap.size;have hMt := hM.ext hT (fun h => h) (fun h => h);have hgt : w.heap.size ≤ gx := hgx
      have hRz : ∀ z, Ext (Mut [some gm, some gW]) w9 z → WordsA (gx + 1) z (some ⟨gx, 0, none⟩) v.raw := fun z hz => jo (qg OR hz (fun q hq h => by have h2 : gx = q := Option.some.inj hq; rcases h with h | h | h <;> first | exact h.elim | (have := Option.some.inj h; omega))) (by omega) (jg hv.limbs.in_ hv.bits (by omega))
      by_cases hf : top + (2 + 0 + v.raw.length) ≤ W.length
      ·
       refine za rfl (zp en32 rfl ((gg lo gm gW cap top 4 0 v.raw.length (gx + 1) _ W [] v.raw none (some ⟨gx, 0, none⟩) hMt (by omega) (Nat.zero_le _) (by omega) hmW (fun z hz => .nil _ _ _) hRz (fun x hx => (by cases hx)) hz hf).mono ?_));rintro e w10 ⟨rfl, hMT, hET⟩
       refine ⟨_, rfl, (za rfl (zg rfl rfl (za rfl (zg rfl rfl (avx rfl (anx rfl (zl (zn (zf (zk (rs := [.tmp 4, .tmp 5]) (vs := [_, _]) rfl ⟨rfl, rfl, trivial⟩ ?_))))))))))⟩
       exact ⟨4 * top, 0, _, _, rfl, .laid hg (by unfold PV.big; omega) hf, by rw [hk]; exact hMT, (hT.mono (Y := Mut [some gm, some gW]) (fun _ h _ => h.elim)).step hET (fun q hq => Or.inl hq)⟩
      ·
       refine za rfl (zp en32 rfl ((xh lo gm gW cap top 4 0 v.raw.length (gx + 1) _ W [] v.raw none (some ⟨gx, 0, none⟩) hMt (by omega) (Nat.zero_le _) (by omega) hmW (fun z hz => .nil _ _ _) hRz (fun x hx => (by cases hx)) (by show W.length < top + (2 + 0 + v.raw.length); omega)).mono ?_));rintro e w11 ⟨rfl, hb⟩;refine ⟨_, rfl, ?_⟩;have hT2 := hT.trans (Ext.of_below hb No)
       refine za rfl (zg rfl rfl (za rfl (zg rfl rfl (avx rfl (anx rfl (zl (zn (zf (zk (rs := [.tmp 4, .tmp 5]) (vs := [_, _]) rfl ⟨rfl, rfl, trivial⟩ ?_)))))))));exact ⟨0, 5, W, top, rfl, .full hg (by unfold PV.big; omega) (by omega), hM.ext hT2 (fun h => h) (fun h => h), hT2.mono (Y := Mut [some gm, some gW]) (fun _ h _ => h.elim)⟩
     ·
      refine zq 43 (.bool false) rfl ((by congr 1; rw [beq_eq_false_iff_ne]; exact h4 : (.bool (v.k == 4) : Value) = _)) ?_;have h2 : v.k = 2 := by have := PV.good_k hg; omega
      have hg2 := PV.good_2 hg h2;have hxl : v.xs.length ≤ 30 := (vm hg2).2.2.1;have hk : v.k.natAbs = 2 := by rw [h2]; rfl
      refine anx rfl (zw rfl (zo (zv (zi (zm (srx (za rfl (zc Try.underlying30 rfl jn (by decide) rfl (za rfl (zc Try.underlying26 rfl qy (by decide) rfl (za rfl (ze Try.underlying22 rfl rfl B4 rfl (za rfl (yq Try.underlying22 rfl (za rfl (yp rfl rfl (rnx ?_)))))))))))))))));by_cases hl2 : v.xs.length < 2
      ·
       refine ye 55 (.bool true) rfl ((by rw [decide_eq_true]; omega : (.bool (decide ((((v.xs.length : Nat)) : Int) < 2)) : Value) = _)) ?_;obtain ⟨hn1, hn2, hnR⟩ := small_num hg2 hl2
       refine yd rfl (srx (za rfl (zc Try.underlying30 rfl jn (by decide) rfl (za rfl (xt Try.underlying26 rfl jn rfl B4 rfl rfl (za rfl (zp en35 rfl ((int_any p.a p.c v.xs _ v.neg ((hv.limbs.no E2).nums (by omega)) (by omega)).mono ?_))))))));rintro e w12 ⟨rfl, hb⟩;refine ⟨_, rfl, ?_⟩;have E3 := E2.trans (Ext.of_below hb No)
       refine zq 59 (.tuple #[.int .i64 (num v.neg v.xs), .int .i64 0]) rfl ((by rw [hg2]; unfold intV intE; rw [if_pos rfl, if_pos rfl, if_pos hnR, if_pos hnR] : (.tuple #[.int .i64 (intV (vw v.neg v.xs) (num v.neg v.xs)), .int .i64 (intE (vw v.neg v.xs) (num v.neg v.xs))] : Value) = _)) (mvx rfl (za rfl (zg rfl rfl (za rfl (zg rfl rfl (avx rfl (anx rfl (srx (mvx rfl (za rfl (zp en36 rfl ((wsmall_any _ (num v.neg v.xs) hn1 hn2).mono ?_))))))))))))
       rintro e w13 ⟨rfl, hb⟩;refine ⟨_, rfl, ?_⟩;have E4 := E3.trans (Ext.of_below hb No);refine za rfl (zg rfl rfl (za rfl (zg rfl rfl (avx rfl (anx rfl (zl (zf (zk (rs := [.tmp 4, .tmp 5]) (vs := [_, _]) rfl ⟨rfl, rfl, trivial⟩ ?_))))))))
       exact ⟨gj (num v.neg v.xs), 0, W, top, rfl, .small hg (by unfold PV.big; omega) (by unfold PV.small; rw [if_neg h0, if_neg h1]), hM.ext E4 (fun h => h) (fun h => h), E4.mono (fun _ h _ => h.elim)⟩
      ·
       refine ye 55 (.bool false) rfl ((by rw [decide_eq_false]; omega : (.bool (decide ((((v.xs.length : Nat)) : Int) < 2)) : Value) = _)) ?_;obtain ⟨sg, hsg⟩ : ∃ sg : Nat, sg = if v.neg then 1 else 0 := ⟨_, rfl⟩
       have hraw : v.raw = sg :: v.xs := by unfold PV.raw; rw [if_neg h3, if_neg h4, hsg]
       have hrl : v.raw.length = 1 + v.xs.length := by rw [hraw, List.length_cons, Nat.add_comm]
       refine zw rfl (zo (zi (srx (anx rfl (zm (srx (za rfl (zc Try.underlying30 rfl jn (by decide) rfl (za rfl (zc Try.underlying26 rfl sz4 (by decide) rfl (za rfl (ze Try.underlying4 rfl rfl B4 rfl ?_))))))))))));by_cases hng : v.neg = true
       ·
        refine zq 68 (.bool true) rfl ((by rw [hng] : (.bool v.neg : Value) = _)) (rnx (yd rfl (yh (anx rfl (srx (mvx rfl (mvx rfl (zq 70 (.int .u64 ((sg : Nat) : Int)) rfl ((by rw [hsg, if_pos hng]; rfl : (.int .u64 1 : Value) = _)) (za rfl (qn (cs := #[.int .u64 ((sg : Nat) : Int)]) Try.underlying22 qk zr27 (by decide) rfl (by rw [vf]; rfl) ?_))))))))))
        rintro gy wX Bx Ex Gx;have E5 := E2.trans Ex;have B5 := B4.ext Ex (fun h => h.elim);have O1 : wX.ownsRow w.heap.size 27 1 (.slice (some ⟨gy, 0, none⟩) 1 1) 1 (yf [sg]) := kb Bx (by omega)
        refine za rfl (zc Try.underlying30 rfl jn (by decide) rfl (za rfl (zc Try.underlying26 rfl qy (by decide) rfl (za rfl (ze Try.underlying22 rfl rfl B5 rfl (za rfl (jw (n' := v.raw.length) (xs' := yf v.raw) Try.underlying22 zaq rfl (by decide) rfl O1 rfl ((hv.limbs.no E5).reads (Nat.le_refl _)) ka hrl.symm (by rw [hraw]; unfold yf; rfl) (by unfold maxLen; omega) (by omega) E5.size ?_)))))))
        rintro A6 c6 wC OR0 E6 N6;have hT := E5.step E6 (fun q hq => Or.inr (zgv O1 q hq));obtain ⟨gx, _, hA6, _, _, hgx, _⟩ := oo OR0 (by omega);subst hA6;have OR := OR0;have hsl : Ext (fun q => w.heap.size ≤ q) w wC := hT.noL w.heap.size;have hMt := hM.ext hT (fun h => h) (fun h => h);have hgt : w.heap.size ≤ gx := hgx
        have hRz : ∀ z, Ext (Mut [some gm, some gW]) wC z → WordsA (gx + 1) z (some ⟨gx, 0, none⟩) v.raw := fun z hz => jo (qg OR hz (fun q hq h => by have h2 : gx = q := Option.some.inj hq; rcases h with h | h | h <;> first | exact h.elim | (have := Option.some.inj h; omega))) (by omega) (jg hv.limbs.in_ hv.bits (by omega))
        by_cases hf : top + (2 + 0 + v.raw.length) ≤ W.length
        ·
         refine za rfl (zp en32 rfl ((gg lo gm gW cap top 2 0 c6 (gx + 1) _ W [] v.raw none (some ⟨gx, 0, none⟩) hMt (by omega) (Nat.zero_le _) (by omega) hmW (fun z hz => .nil _ _ _) hRz (fun x hx => (by cases hx)) hz hf).mono ?_));rintro e w14 ⟨rfl, hMT, hET⟩
         refine ⟨_, rfl, (za rfl (zg rfl rfl (za rfl (zg rfl rfl (avx rfl (anx rfl (zl (zk (rs := [.tmp 4, .tmp 5]) (vs := [_, _]) rfl ⟨rfl, rfl, trivial⟩ ?_))))))))⟩;exact ⟨4 * top, 0, _, _, rfl, .laid hg (by unfold PV.big; omega) hf, by rw [hk]; exact hMT, (hT.mono (Y := Mut [some gm, some gW]) (fun _ h _ => h.elim)).step hET (fun q hq => Or.inl hq)⟩
        ·
         refine za rfl (zp en32 rfl ((xh lo gm gW cap top 2 0 c6 (gx + 1) _ W [] v.raw none (some ⟨gx, 0, none⟩) hMt (by omega) (Nat.zero_le _) (by omega) hmW (fun z hz => .nil _ _ _) hRz (fun x hx => (by cases hx)) (by show W.length < top + (2 + 0 + v.raw.length); omega)).mono ?_));rintro e w15 ⟨rfl, hb⟩;refine ⟨_, rfl, ?_⟩;have hT2 := hT.trans (Ext.of_below hb No)
         refine za rfl (zg rfl rfl (za rfl (zg rfl rfl (avx rfl (anx rfl (zl (zk (rs := [.tmp 4, .tmp 5]) (vs := [_, _]) rfl ⟨rfl, rfl, trivial⟩ ?_)))))));exact ⟨0, 5, W, top, rfl, .full hg (by unfold PV.big; omega) (by omega), hM.ext hT2 (fun h => h) (fun h => h), hT2.mono (Y := Mut [some gm, some gW]) (fun _ h _ => h.elim)⟩
       ·
        refine zq 68 (.bool false) rfl ((by rw [Bool.eq_false_iff.2 hng] : (.bool v.neg : Value) = _)) (rnx (zw rfl (zo (zi (srx (mvx rfl (mvx rfl (zq 70 (.int .u64 ((sg : Nat) : Int)) rfl ((by rw [hsg, if_neg hng]; rfl : (.int .u64 0 : Value) = _)) (za rfl (qn (cs := #[.int .u64 ((sg : Nat) : Int)]) Try.underlying22 qk zr27 (by decide) rfl (by rw [vf]; rfl) ?_))))))))))
        rintro gy wX Bx Ex Gx;have E5 := E2.trans Ex;have B5 := B4.ext Ex (fun h => h.elim);have O1 : wX.ownsRow w.heap.size 27 1 (.slice (some ⟨gy, 0, none⟩) 1 1) 1 (yf [sg]) := kb Bx (by omega)
        refine za rfl (zc Try.underlying30 rfl jn (by decide) rfl (za rfl (zc Try.underlying26 rfl qy (by decide) rfl (za rfl (ze Try.underlying22 rfl rfl B5 rfl (za rfl (jw (n' := v.raw.length) (xs' := yf v.raw) Try.underlying22 zaq rfl (by decide) rfl O1 rfl ((hv.limbs.no E5).reads (Nat.le_refl _)) ka hrl.symm (by rw [hraw]; unfold yf; rfl) (by unfold maxLen; omega) (by omega) E5.size ?_)))))))
        rintro A6 c6 wC OR0 E6 N6;have hT := E5.step E6 (fun q hq => Or.inr (zgv O1 q hq));obtain ⟨gx, _, hA6, _, _, hgx, _⟩ := oo OR0 (by omega);subst hA6;have OR := OR0;have hsl : Ext (fun q => w.heap.size ≤ q) w wC := hT.noL w.heap.size;have hMt := hM.ext hT (fun h => h) (fun h => h);have hgt : w.heap.size ≤ gx := hgx
        have hRz : ∀ z, Ext (Mut [some gm, some gW]) wC z → WordsA (gx + 1) z (some ⟨gx, 0, none⟩) v.raw := fun z hz => jo (qg OR hz (fun q hq h => by have h2 : gx = q := Option.some.inj hq; rcases h with h | h | h <;> first | exact h.elim | (have := Option.some.inj h; omega))) (by omega) (jg hv.limbs.in_ hv.bits (by omega))
        by_cases hf : top + (2 + 0 + v.raw.length) ≤ W.length
        ·
         refine za rfl (zp en32 rfl ((gg lo gm gW cap top 2 0 c6 (gx + 1) _ W [] v.raw none (some ⟨gx, 0, none⟩) hMt (by omega) (Nat.zero_le _) (by omega) hmW (fun z hz => .nil _ _ _) hRz (fun x hx => (by cases hx)) hz hf).mono ?_));rintro e w16 ⟨rfl, hMT, hET⟩
         refine ⟨_, rfl, (za rfl (zg rfl rfl (za rfl (zg rfl rfl (avx rfl (anx rfl (zl (zk (rs := [.tmp 4, .tmp 5]) (vs := [_, _]) rfl ⟨rfl, rfl, trivial⟩ ?_))))))))⟩;exact ⟨4 * top, 0, _, _, rfl, .laid hg (by unfold PV.big; omega) hf, by rw [hk]; exact hMT, (hT.mono (Y := Mut [some gm, some gW]) (fun _ h _ => h.elim)).step hET (fun q hq => Or.inl hq)⟩
        ·
         refine za rfl (zp en32 rfl ((xh lo gm gW cap top 2 0 c6 (gx + 1) _ W [] v.raw none (some ⟨gx, 0, none⟩) hMt (by omega) (Nat.zero_le _) (by omega) hmW (fun z hz => .nil _ _ _) hRz (fun x hx => (by cases hx)) (by show W.length < top + (2 + 0 + v.raw.length); omega)).mono ?_));rintro e w17 ⟨rfl, hb⟩;refine ⟨_, rfl, ?_⟩;have hT2 := hT.trans (Ext.of_below hb No)
         refine za rfl (zg rfl rfl (za rfl (zg rfl rfl (avx rfl (anx rfl (zl (zk (rs := [.tmp 4, .tmp 5]) (vs := [_, _]) rfl ⟨rfl, rfl, trivial⟩ ?_)))))));exact ⟨0, 5, W, top, rfl, .full hg (by unfold PV.big; omega) (by omega), hM.ext hT2 (fun h => h) (fun h => h), hT2.mono (Y := Mut [some gm, some gW]) (fun _ h _ => h.elim)⟩
 ·
  have hg' : v.good = false := Bool.eq_false_iff.2 hg;refine ye 11 (.bool true) rfl ((by rw [hg']; rfl : (.bool (!v.good) : Value) = _)) (yd rfl (srx (avx rfl (anx rfl (zl (zf (zk (rs := [.tmp 4, .tmp 5]) (vs := [_, _]) rfl ⟨rfl, rfl, trivial⟩ ?_)))))));exact ⟨0, 3, W, top, rfl, .bad hg', hM.ext E2 (fun h => h) (fun h => h), E2.mono (fun _ h _ => h.elim)⟩
end
end Go.Proofs.Ytjhmifebmplahaa
namespace Go.Proofs.Ytjhmifebmplahaa
open Go.RowKit
set_option maxRecDepth 100000
attribute [local irreducible] OW RS
theorem MemA.now {n top : Nat} {w : World} {A : Option Addr} {W : List Nat} (h : MemA n w A W top) : MemA w.heap.size w A W top := ⟨h.words.up h.size, h.one, h.len, h.most, Nat.le_refl _⟩
theorem tens_short {i : Int} (h : inR i) : (tens i).length ≤ 1048576 := by
 unfold inR at h;have h1 : (gi 10 i.natAbs).length ≤ 20 := (ke (by decide : 2 ≤ 10) i.natAbs 20).2 (by omega);rw [oe];omega
section
variable (n top c : Nat) (w : World) (A : Option Addr) (W : List Nat) (v : PV) (p : PVp) (hM : MemA n w A W top) (hz : ∀ i, top ≤ i → wat W i = 0) (hv : PVA n w v p)
include hM hz hv
def RetRPut (top : Nat) (w : World) (W : List Nat) (v : PV) (e : Ending) (w' : World) : Prop := ∃ (x : Nat) (er : Int) (W' : List Nat) (t' : Nat) (A' : Option Addr) (c' : Nat), e = .returned (.tuple #[.agg #[.slice A' W'.length c', .int .i64 ((t' : Nat) : Int)], .int .u64 ((x : Nat) : Int), .int .i64 er]) ∧ PutCase v W top x er W' t' ∧ WordsA w'.heap.size w' A' W' ∧ Below w.heap.size w w'
set_option maxHeartbeats 4000000 in
theorem rput_any : Calls Try.prog 7 #[ks A W c top, .agg #[.int .i64 v.k, .bool v.yes, .bool v.neg, .slice p.a v.xs.length p.c, .int .u64 ((v.bits : Nat) : Int), .string v.s, .slice p.b v.ni p.d]] w (RetRPut top w W v) := by
 have hW4 := hM.most;have hW3 := hM.len;have hW1 := hM.one;have hll := hv.limbs.len;have hbits : v.bits < 18446744073709551616 := hv.bits;have hnw := hM.size;refine yc Try.func7 rfl Try.ntmps7 rfl (srx (za rfl (qh rfl ?_)));rintro g2 wA B2a E1 G2;refine za rfl (qh rfl ?_);rintro g3 wA2 B3a E1b G3;refine za rfl (yo gu ?_);rintro g4 wA3 B4a E1c G4
 have B2b : Blk wA3 g2 24 #[.slice A W.length c, .int .i64 ((top : Nat) : Int)] := (B2a.ext E1b (fun h => h.elim)).ext E1c (fun h => h.elim);have B3b : Blk wA3 g3 30 #[.int .i64 v.k, .bool v.yes, .bool v.neg, .slice p.a v.xs.length p.c, .int .u64 ((v.bits : Nat) : Int), .string v.s, .slice p.b v.ni p.d] := B3a.ext E1c (fun h => h.elim);have E1d := (E1.trans E1b).trans E1c;have hsA := E1d.size
 have hsa1 := E1.size;have hsa2 := E1b.size;refine avx rfl (anx rfl (zm (srx (za rfl (yb Try.underlying30 rfl sz30 rfl B3b rfl (za rfl (zp en23 rfl ((rpgood_any _ v.k v.yes v.neg p.a p.b v.xs p.c v.bits v.ni p.d v.s ((hv.limbs.no E1d).nums (by omega)) (by omega)).mono ?_))))))));rintro e w1 ⟨rfl, hb⟩;refine ⟨_, rfl, ?_⟩;obtain ⟨wB, hwB⟩ : ∃ wB, wB = w1 := ⟨_, rfl⟩
 have EB := Ext.of_below hb No;rw [← hwB] at EB;subst hwB;have hEB : Ext (fun q => w.heap.size ≤ q) w wB := (E1d.trans EB).noL _;have hsB := hEB.size;have B2 := B2b.ext EB (fun h => h.elim);have B3 := B3b.ext EB (fun h => h.elim);have B4 := B4a.ext EB (fun h => h.elim);have h2l := B2.lt;have h3l := B3.lt;have h4l := B4.lt;refine za rfl (qd rfl (rnx ?_));by_cases hg : v.good = true
 ·
  refine ye 18 (.bool false) rfl ((by rw [hg]; rfl : (.bool (!v.good) : Value) = _)) (zw rfl (zo (zi (srx (za rfl (zc Try.underlying30 rfl sz3 (by decide) rfl (za rfl (ze Try.underlying3 rfl rfl B3 rfl (anx rfl (srx (anx rfl (zm (srx (mvx rfl (rnx (yk (srx (za rfl (yr rfl rfl ?_)))))))))))))))))));by_cases h0 : v.k = 0
  ·
   refine zq 24 (.bool true) rfl ((by rw [h0]; rfl : (.bool (v.k == 0) : Value) = _)) (anx rfl (yd rfl (srx (za rfl (yb Try.underlying24 rfl qb rfl B2 rfl (ym (ya qb rfl rfl B4 rfl rfl rfl ?_)))))));rintro wZ BZ EZ;have hlZ : Ext (fun q => w.heap.size ≤ q) w wZ := hEB.step EZ (fun q hq => Or.inl (show w.heap.size ≤ q by have := yx hq; omega))
   have hWZ : WordsA wZ.heap.size wZ A W := (hM.words.low ⟨hlZ, fun q hq => Nat.le_trans hM.size hq⟩).up (Nat.le_trans hM.size hlZ.size);refine avx rfl (anx rfl (zl (zn (zf (zk (rs := [.cell 4 24, .tmp 5, .tmp 6]) (vs := [_, _, _]) rfl ⟨⟨_, rfl, qm Try.underlying24 rfl qb BZ rfl⟩, rfl, rfl, trivial⟩ ?_)))))
   exact ⟨2, 0, W, top, A, c, rfl, .small hg (by unfold PV.big; omega) (by unfold PV.small; rw [if_pos h0]), hWZ, hlZ.below (fun _ h => h)⟩
  ·
   refine zq 24 (.bool false) rfl ((by congr 1; rw [beq_eq_false_iff_ne]; exact h0 : (.bool (v.k == 0) : Value) = _)) (anx rfl (zw rfl (srx (za rfl (yr rfl rfl ?_)))));by_cases h1 : v.k = 1
   ·
    refine zq 27 (.bool true) rfl ((by rw [h1]; rfl : (.bool (v.k == 1) : Value) = _)) (anx rfl (yd rfl (zm (srx (za rfl (zc Try.underlying30 rfl sz4 (by decide) rfl (za rfl (ze Try.underlying4 rfl rfl B3 rfl ?_))))))));by_cases hy : v.yes = true
    ·
     refine zq 29 (.bool true) rfl ((by rw [hy] : (.bool v.yes : Value) = _)) (rnx (yd rfl (srx (za rfl (yb Try.underlying24 rfl qb rfl B2 rfl (ym (ya qb rfl rfl B4 rfl rfl rfl ?_)))))));rintro wZ BZ EZ;have hlZ : Ext (fun q => w.heap.size ≤ q) w wZ := hEB.step EZ (fun q hq => Or.inl (show w.heap.size ≤ q by have := yx hq; omega))
     have hWZ : WordsA wZ.heap.size wZ A W := (hM.words.low ⟨hlZ, fun q hq => Nat.le_trans hM.size hq⟩).up (Nat.le_trans hM.size hlZ.size);refine avx rfl (anx rfl (zl (zf (zn (zf (zk (rs := [.cell 4 24, .tmp 5, .tmp 6]) (vs := [_, _, _]) rfl ⟨⟨_, rfl, qm Try.underlying24 rfl qb BZ rfl⟩, rfl, rfl, trivial⟩ ?_))))))
     exact ⟨10, 0, W, top, A, c, rfl, .small hg (by unfold PV.big; omega) (by unfold PV.small; rw [if_neg h0, if_pos h1, if_pos hy]), hWZ, hlZ.below (fun _ h => h)⟩
    ·
     refine zq 29 (.bool false) rfl ((by rw [Bool.eq_false_iff.2 hy] : (.bool v.yes : Value) = _)) (rnx (zw rfl (zo (zi (srx (za rfl (yb Try.underlying24 rfl qb rfl B2 rfl (ym (ya qb rfl rfl B4 rfl rfl rfl ?_)))))))));rintro wZ BZ EZ
     have hlZ : Ext (fun q => w.heap.size ≤ q) w wZ := hEB.step EZ (fun q hq => Or.inl (show w.heap.size ≤ q by have := yx hq; omega));have hWZ : WordsA wZ.heap.size wZ A W := (hM.words.low ⟨hlZ, fun q hq => Nat.le_trans hM.size hq⟩).up (Nat.le_trans hM.size hlZ.size)
     refine avx rfl (anx rfl (zl (zn (zf (zk (rs := [.cell 4 24, .tmp 5, .tmp 6]) (vs := [_, _, _]) rfl ⟨⟨_, rfl, qm Try.underlying24 rfl qb BZ rfl⟩, rfl, rfl, trivial⟩ ?_)))));exact ⟨6, 0, W, top, A, c, rfl, .small hg (by unfold PV.big; omega) (by unfold PV.small; rw [if_neg h0, if_pos h1, if_neg hy]), hWZ, hlZ.below (fun _ h => h)⟩
   ·
    refine zq 27 (.bool false) rfl ((by congr 1; rw [beq_eq_false_iff_ne]; exact h1 : (.bool (v.k == 1) : Value) = _)) (anx rfl (zw rfl (srx (za rfl (yr rfl rfl ?_)))));by_cases h3 : v.k = 3
    ·
     refine zq 33 (.bool true) rfl ((by rw [h3]; rfl : (.bool (v.k == 3) : Value) = _)) ?_;have hraw : v.raw = [vq v.bits] := by unfold PV.raw; rw [if_pos h3]
     have hrl : v.raw.length = 1 := by rw [hraw]; rfl
     have hk : v.k = ((v.k.natAbs : Nat) : Int) := by rw [h3]; rfl
     refine anx rfl (yd rfl (yh (za rfl (zc Try.underlying30 rfl qk (by decide) rfl (za rfl (ze Try.underlying27 rfl rfl B3 rfl (za rfl (zp en24 rfl ((rfloat_any _ v.bits hbits).mono ?_)))))))));rintro e w2 ⟨rfl, hb⟩;refine ⟨_, rfl, ?_⟩;have E3 := Ext.of_below hb No
     refine za rfl (ow_field1 Try.underlying30 rfl Try.underlying27 rfl rfl rfl (za rfl (qn (cs := #[.int .u64 ((vq v.bits : Nat) : Int)]) Try.underlying22 qk zr27 (by decide) rfl (by rw [vf]; rfl) ?_)));rintro gx wX Bx Ex Gx;have hT := (E3.trans Ex).noL wB.heap.size
     have OR : wX.ownsRow gx 27 1 (.slice (some ⟨gx, 0, none⟩) v.raw.length 1) v.raw.length (yf v.raw) := by rw [hraw]; exact kb Bx (Nat.le_refl _)
     obtain ⟨C, hC⟩ : ∃ C : Option Addr, C = some ⟨gx, 0, none⟩ := ⟨_, rfl⟩;rw [← hC] at OR;have hR : WordsA wX.heap.size wX C v.raw := qz OR (by omega) (jg hv.limbs.in_ hv.bits (by omega));refine zq 38 (.slice C v.raw.length 1) rfl ((by rw [hrl, hC] : (.slice (some ⟨gx, 0, none⟩) 1 1 : Value) = _)) ?_;have hsT := hT.size
     have BT2 := B2.ext hT (fun h => by have h : wB.heap.size ≤ g2 := h; omega);have BT4 := B4.ext hT (fun h => by have h : wB.heap.size ≤ g4 := h; omega);have hMT : MemA wX.heap.size wX A W top := (hM.low ⟨hEB, fun q hq => Nat.le_trans hM.size hq⟩ |>.low ⟨hT, fun q hq => by have hq : wB.heap.size ≤ q := hq; have := hM.size; omega⟩).now
     have hTw : Ext (fun q => w.heap.size ≤ q) w wX := hEB.step hT (fun q hq => Or.inl (show w.heap.size ≤ q by have hq : wB.heap.size ≤ q := hq; omega))
     refine avx rfl (qi (zv (zi (srx (za rfl (yb Try.underlying24 rfl qb rfl BT2 rfl (mvx rfl (mvx rfl (zq 78 (.int .i64 ((v.k.natAbs : Nat) : Int)) rfl ((by rw [← hk] : (.int .i64 v.k : Value) = _)) ?_)))))))));by_cases hf : top + (2 + 0 + v.raw.length) ≤ W.length
     ·
      refine za rfl (zp en29 rfl ((zkv _ A none C W [] v.raw c 0 1 _ top v.k.natAbs hMT (.nil _ _ _) hR (by omega) (Nat.zero_le _) (by omega) hz hf).mono ?_));rintro e w3 ⟨⟨gW, cap, rfl, OW_⟩, hb⟩;refine ⟨_, rfl, ?_⟩;have EL := Ext.of_below hb No;have hsL := EL.size;have BL4 := BT4.ext EL (fun h => h.elim)
      refine mvx rfl (za rfl (zg rfl rfl (za rfl (zg rfl rfl (za rfl (zg rfl rfl (za rfl (yo gu ?_))))))));rintro g13 wP B13 E13 G13;refine ym (ya qb rfl rfl B13 rfl rfl rfl ?_);rintro wQ B13b E14;have OQ := qj (qg OW_ E13 (fun _ _ h => h.elim)) B13 (by decide) E14;have h413 : g4 < g13 := by have := BL4.lt; omega
      have BQ4 := (BL4.ext E13 (fun h => h.elim)).ext E14 (fun h => by have := yx h; omega);have hQw := ((hTw.step EL (fun _ h => h.elim)).step E13 (fun _ h => h.elim)).step E14 (fun q hq => Or.inl (show w.heap.size ≤ q by have := yx hq; have := hTw.size; omega))
      refine avx rfl (anx rfl (zm (srx (mvx rfl (za rfl (qd rfl (rnx (zw rfl (zo (zi (srx (za rfl (yb Try.underlying24 rfl qb rfl B13b rfl (mvx rfl (ym (ya qb rfl rfl BQ4 rfl rfl rfl ?_))))))))))))))));rintro wZ BZ EZ;have OZ := qj OQ BQ4 (by decide) EZ
      have hll : (laid W top v.k.natAbs [] v.raw).length = W.length := vi (tagged := []) hf;rw [← hll] at OZ;have hlZ := hQw.step EZ (fun q hq => Or.inl (show w.heap.size ≤ q by have := yx hq; omega));refine avx rfl (anx rfl (zl (zk (rs := [.cell 4 24, .tmp 5, .tmp 6]) (vs := [_, _, _]) rfl ⟨⟨_, rfl, qm Try.underlying24 rfl qb BZ rfl⟩, rfl, rfl, trivial⟩ ?_)))
      exact ⟨4 * top, 0, _, _, some ⟨gW, 0, none⟩, cap, by rw [hll]; rfl, .laid hg (by unfold PV.big; omega) hf, qz OZ (by rw [hll]; omega) (xx hM.words.in_ (fun x hx => by cases hx) (jg hv.limbs.in_ hv.bits (by omega)) (by omega) (by show 2 + 0 + v.raw.length < 16777216; omega)), hlZ.below (fun _ h => h)⟩
     ·
      refine za rfl (zp en29 rfl ((oh _ A none C W [] v.raw c 0 1 _ top v.k.natAbs hMT (.nil _ _ _) hR (by omega) (Nat.zero_le _) (by omega) (by show W.length < top + (2 + 0 + v.raw.length); omega)).mono ?_));rintro e w4 ⟨rfl, hb⟩;refine ⟨_, rfl, ?_⟩;have EL := Ext.of_below hb No;have hsL := EL.size;have BL4 := BT4.ext EL (fun h => h.elim)
      have BL2 := BT2.ext EL (fun h => h.elim);refine mvx rfl (za rfl (zg rfl rfl (za rfl (zg rfl rfl (za rfl (zg rfl rfl (za rfl (yo gu ?_))))))));rintro g13 wP B13 E13 G13;refine ym (ya qb rfl rfl B13 rfl rfl rfl ?_);rintro wQ B13b E14;have h413 : g4 < g13 := by have := BL4.lt; omega
      have h213 : g2 < g13 := by have := BL2.lt; omega
      have BQ4 := (BL4.ext E13 (fun h => h.elim)).ext E14 (fun h => by have := yx h; omega);have BQ2 := (BL2.ext E13 (fun h => h.elim)).ext E14 (fun h => by have := yx h; omega);have hQw := ((hTw.step EL (fun _ h => h.elim)).step E13 (fun _ h => h.elim)).step E14 (fun q hq => Or.inl (show w.heap.size ≤ q by have := yx hq; have := hTw.size; omega))
      refine avx rfl (anx rfl (zm (srx (mvx rfl (za rfl (qd rfl (rnx (yd rfl (srx (za rfl (yb Try.underlying24 rfl qb rfl BQ2 rfl (ym (ya qb rfl rfl BQ4 rfl rfl rfl ?_)))))))))))));rintro wZ BZ EZ;have hlZ : Ext (fun q => w.heap.size ≤ q) w wZ := hQw.step EZ (fun q hq => Or.inl (show w.heap.size ≤ q by have := yx hq; omega))
      have hWZ : WordsA wZ.heap.size wZ A W := (hM.words.low ⟨hlZ, fun q hq => Nat.le_trans hM.size hq⟩).up (Nat.le_trans hM.size hlZ.size);refine avx rfl (anx rfl (zl (zf (zk (rs := [.cell 4 24, .tmp 5, .tmp 6]) (vs := [_, _, _]) rfl ⟨⟨_, rfl, qm Try.underlying24 rfl qb BZ rfl⟩, rfl, rfl, trivial⟩ ?_))))
      exact ⟨0, 5, W, top, A, c, rfl, .full hg (by unfold PV.big; omega) (by omega), hWZ, hlZ.below (fun _ h => h)⟩
    ·
     refine zq 33 (.bool false) rfl ((by congr 1; rw [beq_eq_false_iff_ne]; exact h3 : (.bool (v.k == 3) : Value) = _)) (anx rfl (zw rfl (srx (za rfl (yr rfl rfl ?_)))));by_cases h4 : v.k = 4
     ·
      refine zq 40 (.bool true) rfl ((by rw [h4]; rfl : (.bool (v.k == 4) : Value) = _)) ?_;have hraw : v.raw = jd v.s := by unfold PV.raw; rw [if_neg h3, if_pos h4]
      have hk : v.k = ((v.k.natAbs : Nat) : Int) := by rw [h4]; rfl
      have hs4 := PV.good_4 hg h4;have hrl : v.raw.length ≤ 2502 := by rw [hraw, oj]; omega
      refine anx rfl (yd rfl (yh (za rfl (zc Try.underlying30 rfl sz9 (by decide) rfl (za rfl (ze Try.underlying9 rfl rfl B3 rfl (za rfl (zp en25 rfl ((rpack_any _ v.s hs4).mono ?_)))))))));rintro e w5 ⟨⟨C, cc, rfl, OR⟩, hb⟩;refine ⟨_, rfl, ?_⟩;have hT := (Ext.of_below hb No).noL wB.heap.size;rw [← hraw] at OR
      have hR : WordsA w5.heap.size w5 C v.raw := qz OR (by omega) (jg hv.limbs.in_ hv.bits (by omega));refine zq 43 (.slice C v.raw.length cc) rfl ((by rw [hraw] : (.slice C (jd v.s).length cc : Value) = _)) ?_;have hsT := hT.size;have BT2 := B2.ext hT (fun h => by have h : wB.heap.size ≤ g2 := h; omega)
      have BT4 := B4.ext hT (fun h => by have h : wB.heap.size ≤ g4 := h; omega);have hMT : MemA w5.heap.size w5 A W top := (hM.low ⟨hEB, fun q hq => Nat.le_trans hM.size hq⟩ |>.low ⟨hT, fun q hq => by have hq : wB.heap.size ≤ q := hq; have := hM.size; omega⟩).now
      have hTw : Ext (fun q => w.heap.size ≤ q) w w5 := hEB.step hT (fun q hq => Or.inl (show w.heap.size ≤ q by have hq : wB.heap.size ≤ q := hq; omega))
      refine avx rfl (qi (zv (zi (srx (za rfl (yb Try.underlying24 rfl qb rfl BT2 rfl (mvx rfl (mvx rfl (zq 78 (.int .i64 ((v.k.natAbs : Nat) : Int)) rfl ((by rw [← hk] : (.int .i64 v.k : Value) = _)) ?_)))))))));by_cases hf : top + (2 + 0 + v.raw.length) ≤ W.length
      ·
       refine za rfl (zp en29 rfl ((zkv _ A none C W [] v.raw c 0 cc _ top v.k.natAbs hMT (.nil _ _ _) hR (by omega) (Nat.zero_le _) (by omega) hz hf).mono ?_));rintro e w6 ⟨⟨gW, cap, rfl, OW_⟩, hb⟩;refine ⟨_, rfl, ?_⟩;have EL := Ext.of_below hb No;have hsL := EL.size;have BL4 := BT4.ext EL (fun h => h.elim)
       refine mvx rfl (za rfl (zg rfl rfl (za rfl (zg rfl rfl (za rfl (zg rfl rfl (za rfl (yo gu ?_))))))));rintro g13 wP B13 E13 G13;refine ym (ya qb rfl rfl B13 rfl rfl rfl ?_);rintro wQ B13b E14;have OQ := qj (qg OW_ E13 (fun _ _ h => h.elim)) B13 (by decide) E14;have h413 : g4 < g13 := by have := BL4.lt; omega
       have BQ4 := (BL4.ext E13 (fun h => h.elim)).ext E14 (fun h => by have := yx h; omega);have hQw := ((hTw.step EL (fun _ h => h.elim)).step E13 (fun _ h => h.elim)).step E14 (fun q hq => Or.inl (show w.heap.size ≤ q by have := yx hq; have := hTw.size; omega))
       refine avx rfl (anx rfl (zm (srx (mvx rfl (za rfl (qd rfl (rnx (zw rfl (zo (zi (srx (za rfl (yb Try.underlying24 rfl qb rfl B13b rfl (mvx rfl (ym (ya qb rfl rfl BQ4 rfl rfl rfl ?_))))))))))))))));rintro wZ BZ EZ;have OZ := qj OQ BQ4 (by decide) EZ
       have hll : (laid W top v.k.natAbs [] v.raw).length = W.length := vi (tagged := []) hf;rw [← hll] at OZ;have hlZ := hQw.step EZ (fun q hq => Or.inl (show w.heap.size ≤ q by have := yx hq; omega));refine avx rfl (anx rfl (zl (zk (rs := [.cell 4 24, .tmp 5, .tmp 6]) (vs := [_, _, _]) rfl ⟨⟨_, rfl, qm Try.underlying24 rfl qb BZ rfl⟩, rfl, rfl, trivial⟩ ?_)))
       exact ⟨4 * top, 0, _, _, some ⟨gW, 0, none⟩, cap, by rw [hll]; rfl, .laid hg (by unfold PV.big; omega) hf, qz OZ (by rw [hll]; omega) (xx hM.words.in_ (fun x hx => by cases hx) (jg hv.limbs.in_ hv.bits (by omega)) (by omega) (by show 2 + 0 + v.raw.length < 16777216; omega)), hlZ.below (fun _ h => h)⟩
      ·
       refine za rfl (zp en29 rfl ((oh _ A none C W [] v.raw c 0 cc _ top v.k.natAbs hMT (.nil _ _ _) hR (by omega) (Nat.zero_le _) (by omega) (by show W.length < top + (2 + 0 + v.raw.length); omega)).mono ?_));rintro e w7 ⟨rfl, hb⟩;refine ⟨_, rfl, ?_⟩;have EL := Ext.of_below hb No;have hsL := EL.size;have BL4 := BT4.ext EL (fun h => h.elim)
       have BL2 := BT2.ext EL (fun h => h.elim);refine mvx rfl (za rfl (zg rfl rfl (za rfl (zg rfl rfl (za rfl (zg rfl rfl (za rfl (yo gu ?_))))))));rintro g13 wP B13 E13 G13;refine ym (ya qb rfl rfl B13 rfl rfl rfl ?_);rintro wQ B13b E14;have h413 : g4 < g13 := by have := BL4.lt; omega
       have h213 : g2 < g13 := by have := BL2.lt; omega
       have BQ4 := (BL4.ext E13 (fun h => h.elim)).ext E14 (fun h => by have := yx h; omega);have BQ2 := (BL2.ext E13 (fun h => h.elim)).ext E14 (fun h => by have := yx h; omega);have hQw := ((hTw.step EL (fun _ h => h.elim)).step E13 (fun _ h => h.elim)).step E14 (fun q hq => Or.inl (show w.heap.size ≤ q by have := yx hq; have := hTw.size; omega))
       refine avx rfl (anx rfl (zm (srx (mvx rfl (za rfl (qd rfl (rnx (yd rfl (srx (za rfl (yb Try.underlying24 rfl qb rfl BQ2 rfl (ym (ya qb rfl rfl BQ4 rfl rfl rfl ?_)))))))))))));rintro wZ BZ EZ;have hlZ : Ext (fun q => w.heap.size ≤ q) w wZ := hQw.step EZ (fun q hq => Or.inl (show w.heap.size ≤ q by have := yx hq; omega))
       have hWZ : WordsA wZ.heap.size wZ A W := (hM.words.low ⟨hlZ, fun q hq => Nat.le_trans hM.size hq⟩).up (Nat.le_trans hM.size hlZ.size);refine avx rfl (anx rfl (zl (zf (zk (rs := [.cell 4 24, .tmp 5, .tmp 6]) (vs := [_, _, _]) rfl ⟨⟨_, rfl, qm Try.underlying24 rfl qb BZ rfl⟩, rfl, rfl, trivial⟩ ?_))))
       exact ⟨0, 5, W, top, A, c, rfl, .full hg (by unfold PV.big; omega) (by omega), hWZ, hlZ.below (fun _ h => h)⟩
     ·
      refine zq 40 (.bool false) rfl ((by congr 1; rw [beq_eq_false_iff_ne]; exact h4 : (.bool (v.k == 4) : Value) = _)) ?_;have h2 : v.k = 2 := by have := PV.good_k hg; omega
      have hg2 := PV.good_2 hg h2;have hxl : v.xs.length ≤ 30 := (vm hg2).2.2.1;have hk : v.k = ((v.k.natAbs : Nat) : Int) := by rw [h2]; rfl
      refine anx rfl (zw rfl (srx (za rfl (yr rfl rfl (zq 45 (.bool true) rfl ((by rw [h2]; rfl : (.bool (v.k == 2) : Value) = _)) (anx rfl (yd rfl (zm (srx (za rfl (zc Try.underlying30 rfl jn (by decide) rfl (za rfl (zc Try.underlying26 rfl qy (by decide) rfl (za rfl (ze Try.underlying22 rfl rfl B3 rfl (za rfl (yq Try.underlying22 rfl (za rfl (yp rfl rfl (rnx ?_))))))))))))))))))))
      by_cases hl2 : v.xs.length < 2
      ·
       refine ye 50 (.bool true) rfl ((by rw [decide_eq_true]; omega : (.bool (decide ((((v.xs.length : Nat)) : Int) < 2)) : Value) = _)) ?_;obtain ⟨hn1, hn2, hnR⟩ := small_num hg2 hl2
       refine yd rfl (srx (za rfl (zc Try.underlying30 rfl jn (by decide) rfl (za rfl (xt Try.underlying26 rfl jn rfl B3 rfl rfl (za rfl (zp en27 rfl ((rof_any v.neg p.a p.c v.xs _ ((hv.limbs.low ⟨hEB, fun q hq => Nat.le_trans hM.size hq⟩).nums (by omega)) hg2).mono ?_))))))));rintro e w8 ⟨A8, c8, rfl, o8, hb⟩;refine ⟨_, rfl, ?_⟩
       have E3 := Ext.of_below hb No;refine za rfl (zp en26 rfl ((rsmall_any A8 c8 (num v.neg v.xs) _ o8.nums (tens_short hnR)).mono ?_));rintro e w9 ⟨rfl, hb⟩;refine ⟨_, rfl, ?_⟩;have E4 := E3.trans (Ext.of_below hb No)
       refine zq 55 (.tuple #[.int .i64 (num v.neg v.xs), .bool true]) rfl ((by unfold smV; rw [if_pos hnR, decide_eq_true hnR] : (.tuple #[.int .i64 (smV (num v.neg v.xs)), .bool (decide (inR (num v.neg v.xs)))] : Value) = _)) (mvx rfl (za rfl (zg rfl rfl (za rfl (zg rfl rfl (avx rfl (anx rfl (srx (mvx rfl (za rfl (zp en28 rfl ((rwsmall_any _ (num v.neg v.xs) hn1 hn2).mono ?_))))))))))))
       rintro e w10 ⟨rfl, hb⟩;refine ⟨_, rfl, ?_⟩;have E5 := E4.trans (Ext.of_below hb No);have B25 := B2.ext E5 (fun h => h.elim);have B45 := B4.ext E5 (fun h => h.elim);have hE5 := hEB.step E5 (fun _ h => h.elim)
       refine mvx rfl (za rfl (zg rfl rfl (za rfl (zg rfl rfl (avx rfl (anx rfl (srx (za rfl (yb Try.underlying24 rfl qb rfl B25 rfl (mvx rfl (ym (ya qb rfl rfl B45 rfl rfl rfl ?_))))))))))));rintro wZ BZ EZ;have hlZ : Ext (fun q => w.heap.size ≤ q) w wZ := hE5.step EZ (fun q hq => Or.inl (show w.heap.size ≤ q by have := yx hq; omega))
       have hWZ : WordsA wZ.heap.size wZ A W := (hM.words.low ⟨hlZ, fun q hq => Nat.le_trans hM.size hq⟩).up (Nat.le_trans hM.size hlZ.size);refine avx rfl (anx rfl (zl (zf (zn (zf (zk (rs := [.cell 4 24, .tmp 5, .tmp 6]) (vs := [_, _, _]) rfl ⟨⟨_, rfl, qm Try.underlying24 rfl qb BZ rfl⟩, rfl, rfl, trivial⟩ ?_))))))
       exact ⟨gj (num v.neg v.xs), 0, W, top, A, c, rfl, .small hg (by unfold PV.big; omega) (by unfold PV.small; rw [if_neg h0, if_neg h1]), hWZ, hlZ.below (fun _ h => h)⟩
      ·
       refine ye 50 (.bool false) rfl ((by rw [decide_eq_false]; omega : (.bool (decide ((((v.xs.length : Nat)) : Int) < 2)) : Value) = _)) ?_;obtain ⟨sg, hsg⟩ : ∃ sg : Nat, sg = if v.neg then 1 else 0 := ⟨_, rfl⟩
       have hraw : v.raw = sg :: v.xs := by unfold PV.raw; rw [if_neg h3, if_neg h4, hsg]
       have hrl : v.raw.length = 1 + v.xs.length := by rw [hraw, List.length_cons, Nat.add_comm]
       have E3 : Ext No wB wB := Ext.refl _ _;refine zw rfl (zo (zi (srx (za rfl (qn (cs := #[.int .u64 0]) Try.underlying22 qk zr27 (by decide) rfl (by rw [vf]; rfl) ?_)))));rintro gy wX Bx Ex Gx;have E5 := (E3.trans Ex).noL wB.heap.size;have B5 := (B3.ext E3 (fun h => h.elim)).ext Ex (fun h => h.elim)
       have hgy : wB.heap.size ≤ gy := by have := E3.size; omega
       refine anx rfl (zm (srx (za rfl (zc Try.underlying30 rfl jn (by decide) rfl (za rfl (zc Try.underlying26 rfl sz4 (by decide) rfl (za rfl (ze Try.underlying4 rfl rfl B5 rfl ?_))))))));by_cases hng : v.neg = true
       ·
        refine zq 68 (.bool true) rfl ((by rw [hng] : (.bool v.neg : Value) = _)) (rnx (yd rfl (yh (mvx rfl (za rfl (zx (j := 0) Try.underlying22 qk rfl rfl rfl (by decide) (ym (vy (cs' := #[.int .u64 1]) qk rfl rfl Bx rfl rfl (by decide) rfl ?_))))))));rintro wS BxS0 ES
        have BxS : Blk wS gy 27 #[.int .u64 ((sg : Nat) : Int)] := by rw [hsg, if_pos hng]; exact BxS0
        have h3y : g3 < gy := by omega
        have B6 := B5.ext ES (fun h => by have := yx h; omega);have E6 := E5.step ES (fun q hq => Or.inl (show wB.heap.size ≤ q by have := yx hq; omega));have O1 : wS.ownsRow wB.heap.size 27 1 (.slice (some ⟨gy, 0, none⟩) 1 1) 1 (yf [sg]) := kb BxS hgy
        refine rnx (yh (mvx rfl (za rfl (zc Try.underlying30 rfl jn (by decide) rfl (za rfl (zc Try.underlying26 rfl qy (by decide) rfl (za rfl (ze Try.underlying22 rfl rfl B6 rfl (za rfl (jw (n' := v.raw.length) (xs' := yf v.raw) Try.underlying22 zaq rfl (by decide) rfl O1 rfl ((hv.limbs.low ⟨hEB, fun q hq => Nat.le_trans hM.size hq⟩ |>.low ⟨E6, fun q hq => by have hq : wB.heap.size ≤ q := hq; have := hM.size; omega⟩).reads (Nat.le_refl _)) ka hrl.symm (by rw [hraw]; unfold yf; rfl) (by unfold maxLen; omega) (by omega) E6.size ?_))))))))))
        rintro C cc wC OR E7 N7;have hT := E6.step E7 (fun q hq => Or.inl (show wB.heap.size ≤ q from zgv O1 q hq));have hR : WordsA wC.heap.size wC C v.raw := qz OR (by omega) (jg hv.limbs.in_ hv.bits (by omega));have hsT := hT.size;have BT2 := B2.ext hT (fun h => by have h : wB.heap.size ≤ g2 := h; omega)
        have BT4 := B4.ext hT (fun h => by have h : wB.heap.size ≤ g4 := h; omega);have hMT : MemA wC.heap.size wC A W top := (hM.low ⟨hEB, fun q hq => Nat.le_trans hM.size hq⟩ |>.low ⟨hT, fun q hq => by have hq : wB.heap.size ≤ q := hq; have := hM.size; omega⟩).now
        have hTw : Ext (fun q => w.heap.size ≤ q) w wC := hEB.step hT (fun q hq => Or.inl (show w.heap.size ≤ q by have hq : wB.heap.size ≤ q := hq; omega))
        refine avx rfl (qi (zv (zi (srx (za rfl (yb Try.underlying24 rfl qb rfl BT2 rfl (mvx rfl (mvx rfl (zq 78 (.int .i64 ((v.k.natAbs : Nat) : Int)) rfl ((by rw [← hk] : (.int .i64 v.k : Value) = _)) ?_)))))))));by_cases hf : top + (2 + 0 + v.raw.length) ≤ W.length
        ·
         refine za rfl (zp en29 rfl ((zkv _ A none C W [] v.raw c 0 cc _ top v.k.natAbs hMT (.nil _ _ _) hR (by omega) (Nat.zero_le _) (by omega) hz hf).mono ?_));rintro e w11 ⟨⟨gW, cap, rfl, OW_⟩, hb⟩;refine ⟨_, rfl, ?_⟩;have EL := Ext.of_below hb No;have hsL := EL.size;have BL4 := BT4.ext EL (fun h => h.elim)
         refine mvx rfl (za rfl (zg rfl rfl (za rfl (zg rfl rfl (za rfl (zg rfl rfl (za rfl (yo gu ?_))))))));rintro g13 wP B13 E13 G13;refine ym (ya qb rfl rfl B13 rfl rfl rfl ?_);rintro wQ B13b E14;have OQ := qj (qg OW_ E13 (fun _ _ h => h.elim)) B13 (by decide) E14
         have h413 : g4 < g13 := by have := BL4.lt; omega
         have BQ4 := (BL4.ext E13 (fun h => h.elim)).ext E14 (fun h => by have := yx h; omega);have hQw := ((hTw.step EL (fun _ h => h.elim)).step E13 (fun _ h => h.elim)).step E14 (fun q hq => Or.inl (show w.heap.size ≤ q by have := yx hq; have := hTw.size; omega))
         refine avx rfl (anx rfl (zm (srx (mvx rfl (za rfl (qd rfl (rnx (zw rfl (zo (zi (srx (za rfl (yb Try.underlying24 rfl qb rfl B13b rfl (mvx rfl (ym (ya qb rfl rfl BQ4 rfl rfl rfl ?_))))))))))))))));rintro wZ BZ EZ;have OZ := qj OQ BQ4 (by decide) EZ
         have hll : (laid W top v.k.natAbs [] v.raw).length = W.length := vi (tagged := []) hf;rw [← hll] at OZ;have hlZ := hQw.step EZ (fun q hq => Or.inl (show w.heap.size ≤ q by have := yx hq; omega));refine avx rfl (anx rfl (zl (zk (rs := [.cell 4 24, .tmp 5, .tmp 6]) (vs := [_, _, _]) rfl ⟨⟨_, rfl, qm Try.underlying24 rfl qb BZ rfl⟩, rfl, rfl, trivial⟩ ?_)))
         exact ⟨4 * top, 0, _, _, some ⟨gW, 0, none⟩, cap, by rw [hll]; rfl, .laid hg (by unfold PV.big; omega) hf, qz OZ (by rw [hll]; omega) (xx hM.words.in_ (fun x hx => by cases hx) (jg hv.limbs.in_ hv.bits (by omega)) (by omega) (by show 2 + 0 + v.raw.length < 16777216; omega)), hlZ.below (fun _ h => h)⟩
        ·
         refine za rfl (zp en29 rfl ((oh _ A none C W [] v.raw c 0 cc _ top v.k.natAbs hMT (.nil _ _ _) hR (by omega) (Nat.zero_le _) (by omega) (by show W.length < top + (2 + 0 + v.raw.length); omega)).mono ?_));rintro e w12 ⟨rfl, hb⟩;refine ⟨_, rfl, ?_⟩;have EL := Ext.of_below hb No;have hsL := EL.size;have BL4 := BT4.ext EL (fun h => h.elim)
         have BL2 := BT2.ext EL (fun h => h.elim);refine mvx rfl (za rfl (zg rfl rfl (za rfl (zg rfl rfl (za rfl (zg rfl rfl (za rfl (yo gu ?_))))))));rintro g13 wP B13 E13 G13;refine ym (ya qb rfl rfl B13 rfl rfl rfl ?_);rintro wQ B13b E14;have h413 : g4 < g13 := by have := BL4.lt; omega
         have h213 : g2 < g13 := by have := BL2.lt; omega
         have BQ4 := (BL4.ext E13 (fun h => h.elim)).ext E14 (fun h => by have := yx h; omega);have BQ2 := (BL2.ext E13 (fun h => h.elim)).ext E14 (fun h => by have := yx h; omega);have hQw := ((hTw.step EL (fun _ h => h.elim)).step E13 (fun _ h => h.elim)).step E14 (fun q hq => Or.inl (show w.heap.size ≤ q by have := yx hq; have := hTw.size; omega))
         refine avx rfl (anx rfl (zm (srx (mvx rfl (za rfl (qd rfl (rnx (yd rfl (srx (za rfl (yb Try.underlying24 rfl qb rfl BQ2 rfl (ym (ya qb rfl rfl BQ4 rfl rfl rfl ?_)))))))))))));rintro wZ BZ EZ;have hlZ : Ext (fun q => w.heap.size ≤ q) w wZ := hQw.step EZ (fun q hq => Or.inl (show w.heap.size ≤ q by have := yx hq; omega))
         have hWZ : WordsA wZ.heap.size wZ A W := (hM.words.low ⟨hlZ, fun q hq => Nat.le_trans hM.size hq⟩).up (Nat.le_trans hM.size hlZ.size);refine avx rfl (anx rfl (zl (zf (zk (rs := [.cell 4 24, .tmp 5, .tmp 6]) (vs := [_, _, _]) rfl ⟨⟨_, rfl, qm Try.underlying24 rfl qb BZ rfl⟩, rfl, rfl, trivial⟩ ?_))))
         exact ⟨0, 5, W, top, A, c, rfl, .full hg (by unfold PV.big; omega) (by omega), hWZ, hlZ.below (fun _ h => h)⟩
       ·
        refine zq 68 (.bool false) rfl ((by rw [Bool.eq_false_iff.2 hng] : (.bool v.neg : Value) = _)) ?_;have BxS : Blk wX gy 27 #[.int .u64 ((sg : Nat) : Int)] := by rw [hsg, if_neg hng]; exact Bx
        have B6 := B5;have E6 := E5;have O1 : wX.ownsRow wB.heap.size 27 1 (.slice (some ⟨gy, 0, none⟩) 1 1) 1 (yf [sg]) := kb BxS hgy
        refine rnx (zw rfl (zo (zi (yh (mvx rfl (za rfl (zc Try.underlying30 rfl jn (by decide) rfl (za rfl (zc Try.underlying26 rfl qy (by decide) rfl (za rfl (ze Try.underlying22 rfl rfl B6 rfl (za rfl (jw (n' := v.raw.length) (xs' := yf v.raw) Try.underlying22 zaq rfl (by decide) rfl O1 rfl ((hv.limbs.low ⟨hEB, fun q hq => Nat.le_trans hM.size hq⟩ |>.low ⟨E6, fun q hq => by have hq : wB.heap.size ≤ q := hq; have := hM.size; omega⟩).reads (Nat.le_refl _)) ka hrl.symm (by rw [hraw]; unfold yf; rfl) (by unfold maxLen; omega) (by omega) E6.size ?_)))))))))))))
        rintro C cc wC OR E7 N7;have hT := E6.step E7 (fun q hq => Or.inl (show wB.heap.size ≤ q from zgv O1 q hq));have hR : WordsA wC.heap.size wC C v.raw := qz OR (by omega) (jg hv.limbs.in_ hv.bits (by omega));have hsT := hT.size;have BT2 := B2.ext hT (fun h => by have h : wB.heap.size ≤ g2 := h; omega)
        have BT4 := B4.ext hT (fun h => by have h : wB.heap.size ≤ g4 := h; omega);have hMT : MemA wC.heap.size wC A W top := (hM.low ⟨hEB, fun q hq => Nat.le_trans hM.size hq⟩ |>.low ⟨hT, fun q hq => by have hq : wB.heap.size ≤ q := hq; have := hM.size; omega⟩).now
        have hTw : Ext (fun q => w.heap.size ≤ q) w wC := hEB.step hT (fun q hq => Or.inl (show w.heap.size ≤ q by have hq : wB.heap.size ≤ q := hq; omega))
        refine avx rfl (qi (zv (zi (srx (za rfl (yb Try.underlying24 rfl qb rfl BT2 rfl (mvx rfl (mvx rfl (zq 78 (.int .i64 ((v.k.natAbs : Nat) : Int)) rfl ((by rw [← hk] : (.int .i64 v.k : Value) = _)) ?_)))))))));by_cases hf : top + (2 + 0 + v.raw.length) ≤ W.length
        ·
         refine za rfl (zp en29 rfl ((zkv _ A none C W [] v.raw c 0 cc _ top v.k.natAbs hMT (.nil _ _ _) hR (by omega) (Nat.zero_le _) (by omega) hz hf).mono ?_));rintro e w13 ⟨⟨gW, cap, rfl, OW_⟩, hb⟩;refine ⟨_, rfl, ?_⟩;have EL := Ext.of_below hb No;have hsL := EL.size;have BL4 := BT4.ext EL (fun h => h.elim)
         refine mvx rfl (za rfl (zg rfl rfl (za rfl (zg rfl rfl (za rfl (zg rfl rfl (za rfl (yo gu ?_))))))));rintro g13 wP B13 E13 G13;refine ym (ya qb rfl rfl B13 rfl rfl rfl ?_);rintro wQ B13b E14;have OQ := qj (qg OW_ E13 (fun _ _ h => h.elim)) B13 (by decide) E14
         have h413 : g4 < g13 := by have := BL4.lt; omega
         have BQ4 := (BL4.ext E13 (fun h => h.elim)).ext E14 (fun h => by have := yx h; omega);have hQw := ((hTw.step EL (fun _ h => h.elim)).step E13 (fun _ h => h.elim)).step E14 (fun q hq => Or.inl (show w.heap.size ≤ q by have := yx hq; have := hTw.size; omega))
         refine avx rfl (anx rfl (zm (srx (mvx rfl (za rfl (qd rfl (rnx (zw rfl (zo (zi (srx (za rfl (yb Try.underlying24 rfl qb rfl B13b rfl (mvx rfl (ym (ya qb rfl rfl BQ4 rfl rfl rfl ?_))))))))))))))));rintro wZ BZ EZ;have OZ := qj OQ BQ4 (by decide) EZ
         have hll : (laid W top v.k.natAbs [] v.raw).length = W.length := vi (tagged := []) hf;rw [← hll] at OZ;have hlZ := hQw.step EZ (fun q hq => Or.inl (show w.heap.size ≤ q by have := yx hq; omega));refine avx rfl (anx rfl (zl (zk (rs := [.cell 4 24, .tmp 5, .tmp 6]) (vs := [_, _, _]) rfl ⟨⟨_, rfl, qm Try.underlying24 rfl qb BZ rfl⟩, rfl, rfl, trivial⟩ ?_)))
         exact ⟨4 * top, 0, _, _, some ⟨gW, 0, none⟩, cap, by rw [hll]; rfl, .laid hg (by unfold PV.big; omega) hf, qz OZ (by rw [hll]; omega) (xx hM.words.in_ (fun x hx => by cases hx) (jg hv.limbs.in_ hv.bits (by omega)) (by omega) (by show 2 + 0 + v.raw.length < 16777216; omega)), hlZ.below (fun _ h => h)⟩
        ·
         refine za rfl (zp en29 rfl ((oh _ A none C W [] v.raw c 0 cc _ top v.k.natAbs hMT (.nil _ _ _) hR (by omega) (Nat.zero_le _) (by omega) (by show W.length < top + (2 + 0 + v.raw.length); omega)).mono ?_));rintro e w14 ⟨rfl, hb⟩;refine ⟨_, rfl, ?_⟩;have EL := Ext.of_below hb No;have hsL := EL.size;have BL4 := BT4.ext EL (fun h => h.elim)
         have BL2 := BT2.ext EL (fun h => h.elim);refine mvx rfl (za rfl (zg rfl rfl (za rfl (zg rfl rfl (za rfl (zg rfl rfl (za rfl (yo gu ?_))))))));rintro g13 wP B13 E13 G13;refine ym (ya qb rfl rfl B13 rfl rfl rfl ?_);rintro wQ B13b E14;have h413 : g4 < g13 := by have := BL4.lt; omega
         have h213 : g2 < g13 := by have := BL2.lt; omega
         have BQ4 := (BL4.ext E13 (fun h => h.elim)).ext E14 (fun h => by have := yx h; omega);have BQ2 := (BL2.ext E13 (fun h => h.elim)).ext E14 (fun h => by have := yx h; omega);have hQw := ((hTw.step EL (fun _ h => h.elim)).step E13 (fun _ h => h.elim)).step E14 (fun q hq => Or.inl (show w.heap.size ≤ q by have := yx hq; have := hTw.size; omega))
         refine avx rfl (anx rfl (zm (srx (mvx rfl (za rfl (qd rfl (rnx (yd rfl (srx (za rfl (yb Try.underlying24 rfl qb rfl BQ2 rfl (ym (ya qb rfl rfl BQ4 rfl rfl rfl ?_)))))))))))));rintro wZ BZ EZ;have hlZ : Ext (fun q => w.heap.size ≤ q) w wZ := hQw.step EZ (fun q hq => Or.inl (show w.heap.size ≤ q by have := yx hq; omega))
         have hWZ : WordsA wZ.heap.size wZ A W := (hM.words.low ⟨hlZ, fun q hq => Nat.le_trans hM.size hq⟩).up (Nat.le_trans hM.size hlZ.size);refine avx rfl (anx rfl (zl (zf (zk (rs := [.cell 4 24, .tmp 5, .tmp 6]) (vs := [_, _, _]) rfl ⟨⟨_, rfl, qm Try.underlying24 rfl qb BZ rfl⟩, rfl, rfl, trivial⟩ ?_))))
         exact ⟨0, 5, W, top, A, c, rfl, .full hg (by unfold PV.big; omega) (by omega), hWZ, hlZ.below (fun _ h => h)⟩
 ·
  have hg' : v.good = false := Bool.eq_false_iff.2 hg;refine ye 18 (.bool true) rfl ((by rw [hg']; rfl : (.bool (!v.good) : Value) = _)) (yd rfl (srx (za rfl (yb Try.underlying24 rfl qb rfl B2 rfl (ym (ya qb rfl rfl B4 rfl rfl rfl ?_))))));rintro wZ BZ EZ
  have hlZ : Ext (fun q => w.heap.size ≤ q) w wZ := hEB.step EZ (fun q hq => Or.inl (show w.heap.size ≤ q by have := yx hq; omega));have hWZ : WordsA wZ.heap.size wZ A W := (hM.words.low ⟨hlZ, fun q hq => Nat.le_trans hM.size hq⟩).up (Nat.le_trans hM.size hlZ.size)
  refine avx rfl (anx rfl (zl (zf (zk (rs := [.cell 4 24, .tmp 5, .tmp 6]) (vs := [_, _, _]) rfl ⟨⟨_, rfl, qm Try.underlying24 rfl qb BZ rfl⟩, rfl, rfl, trivial⟩ ?_))));exact ⟨0, 3, W, top, A, c, rfl, .bad hg', hWZ, hlZ.below (fun _ h => h)⟩
end
end Go.Proofs.Ytjhmifebmplahaa
namespace Go.Proofs.Ytjhmifebmplahaa
open Go.RowKit
set_option maxRecDepth 100000
attribute [local irreducible] OW RS
section
variable (w : World) (A : Option Addr) (W : List Nat) (c n : Nat) (top : Int) (v : PV) (p : PVp) (hw : WordsA n w A W) (hv : PVA n w v p) (htop : I64 top) (hn : n ≤ w.heap.size)
include hw hv htop hn
set_option maxHeartbeats 1000000 in
theorem puts_law : Calls Try.prog 3 #[.agg #[.slice A W.length c, .int .i64 top], .agg #[.int .i64 v.k, .bool v.yes, .bool v.neg, .slice p.a v.xs.length p.c, .int .u64 ((v.bits : Nat) : Int), .string v.s, .slice p.b v.ni p.d]] w fun e w' => e = .returned (.bool true) ∧ Below w.heap.size w w' := by
 refine yc Try.func3 rfl Try.ntmps3 rfl (srx (za rfl (qh rfl ?_)));rintro g2 wA B2a E1 G2;refine za rfl (qh rfl ?_);rintro g3 wA2 B3a E1b G3;have B2b := B2a.ext E1b (fun h => h.elim);have B3b : Blk wA2 g3 30 #[.int .i64 v.k, .bool v.yes, .bool v.neg, .slice p.a v.xs.length p.c, .int .u64 ((v.bits : Nat) : Int), .string v.s, .slice p.b v.ni p.d] := B3a
 have E1d := E1.trans E1b;have hsA := E1d.size;refine anx rfl (zm (srx (za rfl (zp en5 rfl ((known_any _).mono ?_)))));rintro e w1 ⟨rfl, hb⟩;refine ⟨_, rfl, ?_⟩;have B2c := B2b.ext (Ext.of_below hb No) (fun h => h.elim);have B3c := B3b.ext (Ext.of_below hb No) (fun h => h.elim);have E2 := E1d.trans (Ext.of_below hb No);have hs2 := E2.size
 refine za rfl (qd rfl (rnx (zw rfl (zo (zi (zm (srx (za rfl (yb Try.underlying24 rfl qb rfl B2c rfl (za rfl (zp en6 rfl ((lright_any _ A W c n top (hw.no E2) htop (by omega)).mono ?_))))))))))));rintro e w2 ⟨⟨b, rfl, hb0⟩, hb⟩;refine ⟨_, rfl, ?_⟩;have B2d := B2c.ext (Ext.of_below hb No) (fun h => h.elim)
 have B3d := B3c.ext (Ext.of_below hb No) (fun h => h.elim);have E3 := E2.trans (Ext.of_below hb No);have hs3 := E3.size;refine za rfl (qd rfl (rnx ?_));by_cases hbb : b = true
 ·
  refine ye 15 (.bool false) rfl ((by rw [hbb]; rfl : (.bool (!b) : Value) = _)) ?_;obtain ⟨t, l, ht, hF⟩ := hb0 hbb;have hlen := hF.most;have h2 := hF.two;obtain ⟨wB, hwB⟩ : ∃ wB, wB = w2 := ⟨_, rfl⟩;rw [← hwB] at B2d B3d E3 hs3;subst hwB;have hvB : PVA n wB v p := ⟨hv.k, hv.bits, hv.limbs.no E3⟩
  have B2e : Blk wB g2 24 #[.slice A W.length c, .int .i64 ((t : Nat) : Int)] := by rw [← ht]; exact B2d
  have hMB : MemA n wB A W t := ⟨hw.no E3, hF.one, hF.len, hF.most, by omega⟩;refine zw rfl (zo (zi (srx (za rfl (yb Try.underlying24 rfl qb rfl B2e rfl (za rfl (yb Try.underlying30 rfl sz30 rfl B3d rfl (za rfl (zp en7 rfl ((rput_any n t c _ A W v p hMB hF.rest hvB).mono ?_))))))))));rintro e w3 ⟨x, er, W1, t1, A1, c1, rfl, hP1, hW1, hb⟩
  refine ⟨_, rfl, ?_⟩;have E4 := Ext.of_below hb No;have hs4 := E4.size;refine mvx rfl (za rfl (zg rfl rfl (za rfl (zg rfl rfl (za rfl (zg rfl rfl (za rfl (yo gu ?_))))))));rintro g5 wC B5a E5 G5;refine ym (ya qb rfl rfl B5a rfl rfl rfl ?_);rintro wD B5 E6
  have hED : Ext (fun q => wB.heap.size ≤ q) wB wD := ((E4.trans E5).noL wB.heap.size).step E6 (fun q hq => Or.inl (show wB.heap.size ≤ q by have := yx hq; omega));have B2f := B2e.ext hED (fun h => by have h : wB.heap.size ≤ g2 := h; have := B2e.lt; omega);have B3f := B3d.ext hED (fun h => by have h : wB.heap.size ≤ g3 := h; have := B3d.lt; omega)
  have hW1D : WordsA g5 wD A1 W1 := ((hW1.no E5).low (X := Mut [some g5]) ⟨E6, fun q hq => by have := yx hq; omega⟩).up G5;have h5l := B5.lt;refine avx rfl (anx rfl (srx (za rfl (yb Try.underlying24 rfl qb rfl B2f rfl (za rfl (zp en8 rfl ((mcopy_any _ A W c n ((t : Nat) : Int) (hMB.words.low ⟨hED, fun q hq => by have hq : wB.heap.size ≤ q := hq; omega⟩)).mono ?_)))))))
  rintro e w4 ⟨⟨A5, cap, rfl, O5⟩, hb⟩;refine ⟨_, rfl, ?_⟩;have E7 := Ext.of_below hb No;have hs7 := E7.size;obtain ⟨gW, cur, hA5, _, _, hloW, _⟩ := oo O5 (by omega);subst hA5;have hlW := xe O5 gW rfl;refine za rfl (yo gu ?_);rintro gm wE Bm E8 Gm;refine ym (ya qb rfl rfl Bm rfl rfl rfl ?_);rintro wF BmC E9;have hmW : gm ≠ gW := by omega
  have O7 := qg (qg O5 E8 (fun _ _ h => h.elim)) E9 (fun q hq h => by have h1 := yx h; have h2 : gW = q := Option.some.inj hq; omega);have hM0 : OwnM wD.heap.size wF gm gW cap W t := ⟨BmC, O7, hw.in_, hF.one, hF.len, hF.most⟩
  have hEF : Ext (fun q => wD.heap.size ≤ q) wD wF := ((E7.trans E8).noL wD.heap.size).step E9 (fun q hq => Or.inl (show wD.heap.size ≤ q by have := yx hq; omega));have hsD := hED.size;have hX : ∀ q, Mut [some gm, some gW] q → wD.heap.size ≤ q := fun q hq => by rcases hq with h | h | h <;> first | exact h.elim | (have := Option.some.inj h; omega)
  have hvF : PVA n wF v p := ⟨hv.k, hv.bits, (hvB.limbs.low ⟨hED, fun q hq => by have hq : wB.heap.size ≤ q := hq; omega⟩).low ⟨hEF, fun q hq => by have hq : wD.heap.size ≤ q := hq; omega⟩⟩;have B3g := B3f.ext hEF (fun h => by have h : wD.heap.size ≤ g3 := h; have := B3f.lt; omega);have B5g := B5.ext hEF (fun h => by have h : wD.heap.size ≤ g5 := h; omega)
  have hW1F := hW1D.low ⟨hEF, fun q hq => by have hq : wD.heap.size ≤ q := hq; omega⟩;refine rnx (srx (za rfl (yb Try.underlying30 rfl sz30 rfl B3g rfl (za rfl (zp en9 rfl ((oput_any wD.heap.size gm gW cap t n _ W v p hM0 hmW hF.rest hvF (by omega) (by omega)).mono ?_))))));rintro e w5 ⟨y, ey, W2, t2, rfl, hP2, hM2, E10⟩;refine ⟨_, rfl, ?_⟩
  obtain ⟨ex, ee, eW, et⟩ := hP2.same hP1;refine zq 27 (.tuple #[.int .u64 ((x : Nat) : Int), .int .i64 er]) rfl ((by rw [ex, ee] : (.tuple #[.int .u64 ((y : Nat) : Int), .int .i64 ey] : Value) = _)) ?_;have hM3 : OwnM wD.heap.size w5 gm gW cap W1 t1 := by rw [← eW, ← et]; exact hM2
  have hE10 : Ext (fun q => w.heap.size ≤ q) w w5 := (((E3.noL w.heap.size).step hED (fun q hq => Or.inl (show w.heap.size ≤ q by have hq : wB.heap.size ≤ q := hq; omega))).step hEF (fun q hq => Or.inl (show w.heap.size ≤ q by have hq : wD.heap.size ≤ q := hq; omega))).step E10 (fun q hq => Or.inl (show w.heap.size ≤ q by have := hX q hq; omega))
  have B5h := B5g.ext E10 (fun h => by have := hX _ h; omega);have hW1G := hW1F.low ⟨E10, fun q hq => by have := hX q hq; omega⟩
  refine mvx rfl (za rfl (zg rfl rfl (za rfl (zg rfl rfl (avx rfl (anx rfl (srx (mvx rfl (mvx rfl (za rfl (yr rfl rfl (zq 32 (.bool true) rfl (by simp : (.bool (((x : Nat) : Int) == ((x : Nat) : Int)) : Value) = _) (mvx rfl (onx rfl (zj rfl (onx rfl (zj rfl (onx rfl (yr rfl rfl (zq 36 (.bool true) rfl (by simp : (.bool (er == er) : Value) = _) (za rfl (zu rfl rfl (mvx rfl (zq 38 (.bool true) rfl ((by simp : (.bool true : Value) = _)) (onx rfl (yb Try.underlying24 rfl qb rfl hM3.mb rfl (onx rfl (yb Try.underlying24 rfl qb rfl B5h rfl (onx rfl (zp en10 rfl ((rsame_any13 _ (some ⟨gW, 0, none⟩) A1 W1 cap c1 _ _ t1 hM3.mem.words hW1G).mono ?_)))))))))))))))))))))))))))))))
  rintro e w6 ⟨rfl, hb⟩;refine ⟨_, rfl, (za rfl (zu rfl rfl (anx rfl (zl (zk (rs := [.tmp 4]) (vs := [_]) rfl ⟨rfl, trivial⟩ ?_)))))⟩;exact ⟨rfl, (hE10.step (Ext.of_below hb No) (fun _ h => h.elim)).below (fun _ h => h)⟩
 ·
  have hbb : b = false := by cases b <;> simp_all
  refine ye 15 (.bool true) rfl ((by rw [hbb]; rfl : (.bool (!b) : Value) = _)) (yd rfl (srx (anx rfl (zl (zf (zk (rs := [.tmp 4]) (vs := [_]) rfl ⟨rfl, trivial⟩ ?_))))));exact ⟨rfl, E3.toBelow⟩
end
end Go.Proofs.Ytjhmifebmplahaa

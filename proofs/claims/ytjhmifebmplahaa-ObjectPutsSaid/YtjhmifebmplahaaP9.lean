/- Texts of this claim. -/
import Derived.Test.YtjhmifebmplahaaP8
namespace Go.Proofs.Ytjhmifebmplahaa
open Go.RowKit
set_option maxRecDepth 100000
attribute [local irreducible] OW RS
theorem wat_set {W : List Nat} {j x : Nat} (hj : j < W.length) (i : Nat) : wat (W.set j x) i = if i = j then x else wat W i := by
 unfold wat;rw [List.getD_eq_getElem?_getD, List.getD_eq_getElem?_getD, List.getElem?_set];by_cases h : j = i
 · subst h; simp [hj]
 · rw [if_neg h, if_neg (fun e => h e.symm)]
theorem set_zero {W : List Nat} {j : Nat} (hj : j < W.length) (h : wat W j = 0) : W.set j 0 = W := by
 apply List.ext_getElem?
 intro i;rw [List.getElem?_set];split
 · rename_i e; subst e; have h9 := zkz hj; rw [h] at h9; rw [h9]
 · rfl
theorem wat_ext {W V : List Nat} (hl : V.length = W.length) (h : ∀ i, i < W.length → wat V i = wat W i) : V = W := by
 apply List.ext_getElem?
 intro i;by_cases hi : i < W.length
 · rw [zkz hi, zkz (by omega), h i hi]
 · rw [List.getElem?_eq_none (by omega), List.getElem?_eq_none (by omega)]
def NewM (W V : List Nat) (top h i : Nat) : Prop := V.length = W.length ∧ ∀ j, j < W.length → wat V j = if j = top then h else if top + 2 ≤ j ∧ j < top + 2 + i then 2 else wat W j
theorem NewM.zero {W : List Nat} {top h : Nat} (ht : top < W.length) : NewM W (W.set top h) top h 0 := ⟨List.length_set .., fun j hj => by
 rw [wat_set ht];split
 · rfl
 · rw [if_neg (by omega)]⟩
theorem NewM.next {W V : List Nat} {top h i : Nat} (hN : NewM W V top h i) (hi : top + 2 + i < W.length) : NewM W (V.set (top + 2 + i) 2) top h (i + 1) := ⟨by rw [List.length_set]; exact hN.1, fun j hj => by
 rw [wat_set (by rw [hN.1]; exact hi), hN.2 j hj];by_cases e : j = top + 2 + i
 · rw [if_pos e, if_neg (by omega), if_pos (by omega)]
 · rw [if_neg e];by_cases e2 : j = top
   · rw [if_pos e2, if_pos e2]
   · rw [if_neg e2, if_neg e2];by_cases e3 : top + 2 ≤ j ∧ j < top + 2 + i
     · rw [if_pos e3, if_pos (by omega)]
     · rw [if_neg e3, if_neg (by omega)]⟩
theorem NewM.isLaid {W V : List Nat} {top k t r : Nat} (hN : NewM W V top (qx k t (2 + t + r)) t) (hz : ∀ i, top ≤ i → wat W i = 0) (hr : top + (2 + t + r) ≤ W.length) : V = laid W top k (List.replicate t 2) (List.replicate r 0) := by
 have hL : top + (2 + (List.replicate t 2).length + (List.replicate r 0).length) ≤ W.length := by simpa using hr
 have h1 : (laid W top k (List.replicate t 2) (List.replicate r 0)).length = W.length := vi hL;refine wat_ext (by rw [h1, hN.1]) fun i hi => ?_;rw [h1] at hi;rw [hN.2 i hi];by_cases e1 : i < top
 · rw [if_neg (by omega), if_neg (by omega)]; exact (laid_lt hL i e1).symm
 · by_cases e2 : i = top
   · rw [if_pos e2, e2, ou hL]; simp
   · rw [if_neg e2];by_cases e3 : i = top + 1
     · rw [if_neg (by omega), e3, laid_nil hL]; exact hz _ (by omega)
     · by_cases e4 : i < top + (2 + t + r)
       · obtain ⟨j, rfl⟩ : ∃ j, i = top + 2 + j := ⟨i - top - 2, by omega⟩;by_cases e5 : j < t
         · rw [if_pos (by omega), zhk hL (v := 2) (by rw [List.getElem?_append_left (by simpa using e5), List.getElem?_replicate, if_pos e5])]
         · rw [if_neg (by omega), zhk hL (v := 0) (by rw [List.getElem?_append_right (by simp; omega), List.length_replicate, List.getElem?_replicate, if_pos (by omega)])];exact hz _ (by omega)
       · rw [if_neg (by omega), zhq hL (by simp; omega)]
theorem zhx {x y k : Nat} (hx : x < 2 ^ k) (hy : y < 18446744073709551616) (hk : k ≤ 64) (h0 : y % 2 ^ k = 0) : IntKind.u64.wrap (BitVec.ofInt IntKind.u64.bits (x : Int) ||| BitVec.ofInt IntKind.u64.bits (y : Int)).toNat = ((x + y : Nat) : Int) := by
 rw [BitVec.or_comm, Nat.add_comm];exact or_maskO hy hx hk h0
theorem const0_any (w : World) : Calls Try.prog 31 #[.int .i64 0] w fun e w' => e = .returned (.tuple #[.int .u64 2, .int .i64 0]) ∧ Below w.heap.size w w' := by
 refine yc Try.func31 rfl Try.ntmps31 rfl (srx (avx rfl (anx rfl (zm (srx (mvx rfl (za rfl (yp rfl rfl (mvx rfl (onx rfl (zj rfl (onx rfl (yy rfl rfl (za rfl (zh rfl rfl (rnx (zw rfl (zo (zi (srx (mvx rfl (za rfl (qc (z := 0) Try.underlying27 Try.underlying3 rfl (by kernel_rfl) (za rfl (xf (z := 0) rfl rfl (by decide) (by kernel_rfl) (za rfl (zjz (z := 2) rfl rfl (by kernel_rfl) (avx rfl (anx rfl (zl (zk (rs := [.tmp 2, .tmp 3]) (vs := [_, _]) rfl ⟨rfl, rfl, trivial⟩ ?_)))))))))))))))))))))))))))))))
 exact ⟨rfl, Below.refl _ _⟩
section
variable (lo gm gW cap top k t r : Nat) (w : World) (W : List Nat) (hM : OwnM lo w gm gW cap W top) (hk : 1 ≤ k ∧ k < 256) (ht : t ≤ 1048576) (hr : r ≤ 1048576) (hmW : gm ≠ gW)
include hM hk ht hr hmW
theorem aalloc_ok (hz : ∀ i, top ≤ i → wat W i = 0) (hf : top + (2 + t + r) ≤ W.length) : Calls Try.prog 52 #[.pointer (some ⟨gm, 0, none⟩), .int .i64 ((k : Nat) : Int), .int .i64 ((t : Nat) : Int), .int .i64 ((r : Nat) : Int)] w fun e w' => e = .returned (.tuple #[.int .i64 ((top : Nat) : Int), .int .i64 0]) ∧ OwnM lo w' gm gW cap (laid W top k (List.replicate t 2) (List.replicate r 0)) (top + (2 + t + r)) ∧ Ext (Mut [some gm, some gW]) w w' := by
 have h1 := hM.one;have h3 := hM.len;have h4 := hM.most;have hXm : ∀ q, Mut [some gm] q → Mut [some gm, some gW] q := fun q hq => Or.inl (by rw [yx hq]);have hXw : ∀ q, Mut [some gW] q → Mut [some gm, some gW] q := fun q hq => Or.inr (Or.inl (by rw [yx hq]));refine yc Try.func52 rfl Try.ntmps52 rfl (srx (avx rfl (anx rfl (zm (zm ?_)))))
 refine vg (No) Mut.none_ [] [] (jx [Fx.of (.pointer (some ⟨gm, 0, none⟩)),
  Fx.of (.bool false),
  Fx.of (.bool false),
  Fx.of (.pointer (some ⟨gm, 0, none⟩)),
  Fx.of (.pointer (some ⟨gm, 0, none⟩)),
  Fx.of (.pointer (some ⟨gm, 1, none⟩)),
  Fx.of (.int .i64 ((top : Nat) : Int)),
  Fx.of (.bool false),
  Fx.of (.bool false),
  Fx.of (.bool false),
  Fx.of (.pointer (some ⟨gm, 0, none⟩)),
  Fx.of (.pointer (some ⟨gm, 0, none⟩)),
  Fx.of (.pointer (some ⟨gm, 1, none⟩)),
  Fx.of (.int .i64 ((top : Nat) : Int)),
  Fx.of (.pointer (some ⟨gm, 0, none⟩)),
  Fx.of (.pointer (some ⟨gm, 0, none⟩)),
  Fx.of (.pointer (some ⟨gm, 0, none⟩)),
  Fx.of (.slice (some ⟨gW, 0, none⟩) W.length cap),
  Fx.of (.int .i64 (((W.length : Nat)) : Int)),
  Fx.of (.bool false),
  Fx.of (.bool false),
  Fx.of (.bool false),
  Fx.of (.int .i64 ((k : Nat) : Int)),
  Fx.of (.bool false),
  Fx.of (.bool false),
  Fx.of (.bool false),
  Fx.of (.int .i64 ((k : Nat) : Int)),
  Fx.of (.bool false),
  Fx.of (.bool false),
  Fx.of (.bool false),
  Fx.of (.int .i64 ((t : Nat) : Int)),
  Fx.of (.bool false),
  Fx.of (.bool false),
  Fx.of (.bool false),
  Fx.of (.int .i64 ((r : Nat) : Int)),
  Fx.of (.bool false),
  Fx.of (.bool false),
  Fx.of (.bool false),
  Fx.of (.int .i64 ((t : Nat) : Int)),
  Fx.of (.bool false),
  Fx.of (.bool false),
  Fx.of (.bool false),
  Fx.of (.int .i64 ((r : Nat) : Int)),
  Fx.of (.bool false),
  Fx.of (.bool false)]) vo rfl trivial (fun _ h => by cases h) ?_ ?_
 · refine ⟨?_, ?_, ?_, ?_, ?_, ?_, ?_, ?_, ?_, ?_, ?_, ?_, ?_, ?_, ?_, ?_, ?_, ?_, ?_, ?_, ?_, ?_, ?_, ?_, ?_, ?_, ?_, ?_, ?_, ?_, ?_, ?_, ?_, ?_, ?_, ?_, ?_, ?_, ?_, ?_, ?_, ?_, ?_, ?_, ?_, trivial⟩
   · intro vs X wq K;exact zj rfl ⟨Below.refl _ _, Left.of rfl⟩
   · intro vs X wq K;obtain ⟨_, e0, k0⟩ := K.dep 0 rfl rfl rfl;refine zb 16 (.pointer (some ⟨gm, 0, none⟩)) rfl e0 ?_;exact kp Try.underlying39 rfl rfl ⟨Below.refl _ _, Left.of rfl⟩
   · intro vs X wq K;obtain ⟨_, e1, k1⟩ := K.dep 1 rfl rfl rfl;refine zb 17 (.bool false) rfl e1 ?_;exact zj rfl ⟨Below.refl _ _, Left.of rfl⟩
   · intro vs X wq K;obtain ⟨_, e2, k2⟩ := K.dep 2 rfl rfl rfl;refine zb 18 (.bool false) rfl e2 ?_;exact zr rfl (zj rfl ⟨Below.refl _ _, Left.of rfl⟩)
   · intro vs X wq K;obtain ⟨_, e3, k3⟩ := K.dep 3 rfl rfl rfl;refine zb 19 (.pointer (some ⟨gm, 0, none⟩)) rfl e3 ?_;obtain ⟨_, e2, k2⟩ := K.dep 2 rfl rfl rfl;refine zb 18 (.bool false) rfl e2 ?_;exact zr rfl (yv rfl ⟨Below.refl _ _, Left.of rfl⟩)
   · intro vs X wq K;obtain ⟨_, e4, k4⟩ := K.dep 4 rfl rfl rfl;refine zb 20 (.pointer (some ⟨gm, 0, none⟩)) rfl e4 ?_;obtain ⟨_, e2, k2⟩ := K.dep 2 rfl rfl rfl;refine zb 18 (.bool false) rfl e2 ?_;exact zr rfl (zc Try.underlying24 rfl sz3 (by decide) rfl ⟨Below.refl _ _, Left.of rfl⟩)
   · intro vs X wq K;have LE := K.1;obtain ⟨_, e5, k5⟩ := K.dep 5 rfl rfl rfl;refine zb 21 (.pointer (some ⟨gm, 1, none⟩)) rfl e5 ?_;obtain ⟨_, e2, k2⟩ := K.dep 2 rfl rfl rfl;refine zb 18 (.bool false) rfl e2 ?_;exact zr rfl (ze Try.underlying3 rfl rfl (qe LE hM.mb) rfl ⟨Below.refl _ _, Left.of rfl⟩)
   · intro vs X wq K;obtain ⟨_, e6, k6⟩ := K.dep 6 rfl rfl rfl;refine zb 22 (.int .i64 ((top : Nat) : Int)) rfl e6 ?_;obtain ⟨_, e2, k2⟩ := K.dep 2 rfl rfl rfl;refine zb 18 (.bool false) rfl e2 ?_;exact zr rfl (yp rfl rfl ⟨Below.refl _ _, Left.of ((by rw [decide_eq_false]; omega : (.bool (decide (((top : Nat) : Int) < 1)) : Value) = _))⟩)
   · intro vs X wq K;obtain ⟨_, e2, k2⟩ := K.dep 2 rfl rfl rfl;refine zb 18 (.bool false) rfl e2 ?_;obtain ⟨_, e7, k7⟩ := K.dep 7 rfl rfl rfl;refine zb 23 (.bool false) rfl e7 ?_;exact zh rfl rfl ⟨Below.refl _ _, Left.of rfl⟩
   · intro vs X wq K;obtain ⟨_, e8, k8⟩ := K.dep 8 rfl rfl rfl;refine zb 24 (.bool false) rfl e8 ?_;exact zj rfl ⟨Below.refl _ _, Left.of rfl⟩
   · intro vs X wq K;obtain ⟨_, e9, k9⟩ := K.dep 9 rfl rfl rfl;refine zb 25 (.bool false) rfl e9 ?_;exact zr rfl (zj rfl ⟨Below.refl _ _, Left.of rfl⟩)
   · intro vs X wq K;obtain ⟨_, e10, k10⟩ := K.dep 10 rfl rfl rfl;refine zb 26 (.pointer (some ⟨gm, 0, none⟩)) rfl e10 ?_;obtain ⟨_, e9, k9⟩ := K.dep 9 rfl rfl rfl;refine zb 25 (.bool false) rfl e9 ?_;exact zr rfl (yv rfl ⟨Below.refl _ _, Left.of rfl⟩)
   · intro vs X wq K;obtain ⟨_, e11, k11⟩ := K.dep 11 rfl rfl rfl;refine zb 27 (.pointer (some ⟨gm, 0, none⟩)) rfl e11 ?_;obtain ⟨_, e9, k9⟩ := K.dep 9 rfl rfl rfl;refine zb 25 (.bool false) rfl e9 ?_;exact zr rfl (zc Try.underlying24 rfl sz3 (by decide) rfl ⟨Below.refl _ _, Left.of rfl⟩)
   · intro vs X wq K;have LE := K.1;obtain ⟨_, e12, k12⟩ := K.dep 12 rfl rfl rfl;refine zb 28 (.pointer (some ⟨gm, 1, none⟩)) rfl e12 ?_;obtain ⟨_, e9, k9⟩ := K.dep 9 rfl rfl rfl;refine zb 25 (.bool false) rfl e9 ?_;exact zr rfl (ze Try.underlying3 rfl rfl (qe LE hM.mb) rfl ⟨Below.refl _ _, Left.of rfl⟩)
   · intro vs X wq K;obtain ⟨_, e9, k9⟩ := K.dep 9 rfl rfl rfl;refine zb 25 (.bool false) rfl e9 ?_;exact zr rfl (zj rfl ⟨Below.refl _ _, Left.of rfl⟩)
   · intro vs X wq K;obtain ⟨_, e14, k14⟩ := K.dep 14 rfl rfl rfl;refine zb 30 (.pointer (some ⟨gm, 0, none⟩)) rfl e14 ?_;obtain ⟨_, e9, k9⟩ := K.dep 9 rfl rfl rfl;refine zb 25 (.bool false) rfl e9 ?_;exact zr rfl (yv rfl ⟨Below.refl _ _, Left.of rfl⟩)
   · intro vs X wq K;obtain ⟨_, e15, k15⟩ := K.dep 15 rfl rfl rfl;refine zb 31 (.pointer (some ⟨gm, 0, none⟩)) rfl e15 ?_;obtain ⟨_, e9, k9⟩ := K.dep 9 rfl rfl rfl;refine zb 25 (.bool false) rfl e9 ?_;exact zr rfl (zc Try.underlying24 rfl qy (by decide) rfl ⟨Below.refl _ _, Left.of rfl⟩)
   · intro vs X wq K;have LE := K.1;obtain ⟨_, e16, k16⟩ := K.dep 16 rfl rfl rfl;refine zb 32 (.pointer (some ⟨gm, 0, none⟩)) rfl e16 ?_;obtain ⟨_, e9, k9⟩ := K.dep 9 rfl rfl rfl;refine zb 25 (.bool false) rfl e9 ?_;exact zr rfl (ze Try.underlying22 rfl rfl (qe LE hM.mb) rfl ⟨Below.refl _ _, Left.of rfl⟩)
   · intro vs X wq K;obtain ⟨_, e17, k17⟩ := K.dep 17 rfl rfl rfl;refine zb 33 (.slice (some ⟨gW, 0, none⟩) W.length cap) rfl e17 ?_;obtain ⟨_, e9, k9⟩ := K.dep 9 rfl rfl rfl;refine zb 25 (.bool false) rfl e9 ?_;exact zr rfl (yq Try.underlying22 rfl ⟨Below.refl _ _, Left.of rfl⟩)
   · intro vs X wq K;obtain ⟨_, e13, k13⟩ := K.dep 13 rfl rfl rfl;refine zb 29 (.int .i64 ((top : Nat) : Int)) rfl e13 ?_;obtain ⟨_, e18, k18⟩ := K.dep 18 rfl rfl rfl;refine zb 34 (.int .i64 (((W.length : Nat)) : Int)) rfl e18 ?_;obtain ⟨_, e9, k9⟩ := K.dep 9 rfl rfl rfl;refine zb 25 (.bool false) rfl e9 ?_
     exact zr rfl (yy rfl rfl ⟨Below.refl _ _, Left.of ((by rw [decide_eq_false]; omega : (.bool (decide ((((W.length : Nat)) : Int) < ((top : Nat) : Int))) : Value) = _))⟩)
   · intro vs X wq K;obtain ⟨_, e9, k9⟩ := K.dep 9 rfl rfl rfl;refine zb 25 (.bool false) rfl e9 ?_;obtain ⟨_, e19, k19⟩ := K.dep 19 rfl rfl rfl;refine zb 35 (.bool false) rfl e19 ?_;exact zh rfl rfl ⟨Below.refl _ _, Left.of rfl⟩
   · intro vs X wq K;obtain ⟨_, e20, k20⟩ := K.dep 20 rfl rfl rfl;refine zb 36 (.bool false) rfl e20 ?_;exact zj rfl ⟨Below.refl _ _, Left.of rfl⟩
   · intro vs X wq K;obtain ⟨_, e21, k21⟩ := K.dep 21 rfl rfl rfl;refine zb 37 (.bool false) rfl e21 ?_;exact zr rfl (zj rfl ⟨Below.refl _ _, Left.of rfl⟩)
   · intro vs X wq K;obtain ⟨_, e22, k22⟩ := K.dep 22 rfl rfl rfl;refine zb 38 (.int .i64 ((k : Nat) : Int)) rfl e22 ?_;obtain ⟨_, e21, k21⟩ := K.dep 21 rfl rfl rfl;refine zb 37 (.bool false) rfl e21 ?_;exact zr rfl (yp rfl rfl ⟨Below.refl _ _, Left.of ((by rw [decide_eq_false]; omega : (.bool (decide (((k : Nat) : Int) < 1)) : Value) = _))⟩)
   · intro vs X wq K;obtain ⟨_, e21, k21⟩ := K.dep 21 rfl rfl rfl;refine zb 37 (.bool false) rfl e21 ?_;obtain ⟨_, e23, k23⟩ := K.dep 23 rfl rfl rfl;refine zb 39 (.bool false) rfl e23 ?_;exact zh rfl rfl ⟨Below.refl _ _, Left.of rfl⟩
   · intro vs X wq K;obtain ⟨_, e24, k24⟩ := K.dep 24 rfl rfl rfl;refine zb 40 (.bool false) rfl e24 ?_;exact zj rfl ⟨Below.refl _ _, Left.of rfl⟩
   · intro vs X wq K;obtain ⟨_, e25, k25⟩ := K.dep 25 rfl rfl rfl;refine zb 41 (.bool false) rfl e25 ?_;exact zr rfl (zj rfl ⟨Below.refl _ _, Left.of rfl⟩)
   · intro vs X wq K;obtain ⟨_, e26, k26⟩ := K.dep 26 rfl rfl rfl;refine zb 42 (.int .i64 ((k : Nat) : Int)) rfl e26 ?_;obtain ⟨_, e25, k25⟩ := K.dep 25 rfl rfl rfl;refine zb 41 (.bool false) rfl e25 ?_;exact zr rfl (yy rfl rfl ⟨Below.refl _ _, Left.of ((by rw [decide_eq_false]; omega : (.bool (decide (255 < ((k : Nat) : Int))) : Value) = _))⟩)
   · intro vs X wq K;obtain ⟨_, e25, k25⟩ := K.dep 25 rfl rfl rfl;refine zb 41 (.bool false) rfl e25 ?_;obtain ⟨_, e27, k27⟩ := K.dep 27 rfl rfl rfl;refine zb 43 (.bool false) rfl e27 ?_;exact zh rfl rfl ⟨Below.refl _ _, Left.of rfl⟩
   · intro vs X wq K;obtain ⟨_, e28, k28⟩ := K.dep 28 rfl rfl rfl;refine zb 44 (.bool false) rfl e28 ?_;exact zj rfl ⟨Below.refl _ _, Left.of rfl⟩
   · intro vs X wq K;obtain ⟨_, e29, k29⟩ := K.dep 29 rfl rfl rfl;refine zb 45 (.bool false) rfl e29 ?_;exact zr rfl (zj rfl ⟨Below.refl _ _, Left.of rfl⟩)
   · intro vs X wq K;obtain ⟨_, e30, k30⟩ := K.dep 30 rfl rfl rfl;refine zb 46 (.int .i64 ((t : Nat) : Int)) rfl e30 ?_;obtain ⟨_, e29, k29⟩ := K.dep 29 rfl rfl rfl;refine zb 45 (.bool false) rfl e29 ?_;exact zr rfl (yp rfl rfl ⟨Below.refl _ _, Left.of ((by rw [decide_eq_false]; omega : (.bool (decide (((t : Nat) : Int) < 0)) : Value) = _))⟩)
   · intro vs X wq K;obtain ⟨_, e29, k29⟩ := K.dep 29 rfl rfl rfl;refine zb 45 (.bool false) rfl e29 ?_;obtain ⟨_, e31, k31⟩ := K.dep 31 rfl rfl rfl;refine zb 47 (.bool false) rfl e31 ?_;exact zh rfl rfl ⟨Below.refl _ _, Left.of rfl⟩
   · intro vs X wq K;obtain ⟨_, e32, k32⟩ := K.dep 32 rfl rfl rfl;refine zb 48 (.bool false) rfl e32 ?_;exact zj rfl ⟨Below.refl _ _, Left.of rfl⟩
   · intro vs X wq K;obtain ⟨_, e33, k33⟩ := K.dep 33 rfl rfl rfl;refine zb 49 (.bool false) rfl e33 ?_;exact zr rfl (zj rfl ⟨Below.refl _ _, Left.of rfl⟩)
   · intro vs X wq K;obtain ⟨_, e34, k34⟩ := K.dep 34 rfl rfl rfl;refine zb 50 (.int .i64 ((r : Nat) : Int)) rfl e34 ?_;obtain ⟨_, e33, k33⟩ := K.dep 33 rfl rfl rfl;refine zb 49 (.bool false) rfl e33 ?_;exact zr rfl (yp rfl rfl ⟨Below.refl _ _, Left.of ((by rw [decide_eq_false]; omega : (.bool (decide (((r : Nat) : Int) < 0)) : Value) = _))⟩)
   · intro vs X wq K;obtain ⟨_, e33, k33⟩ := K.dep 33 rfl rfl rfl;refine zb 49 (.bool false) rfl e33 ?_;obtain ⟨_, e35, k35⟩ := K.dep 35 rfl rfl rfl;refine zb 51 (.bool false) rfl e35 ?_;exact zh rfl rfl ⟨Below.refl _ _, Left.of rfl⟩
   · intro vs X wq K;obtain ⟨_, e36, k36⟩ := K.dep 36 rfl rfl rfl;refine zb 52 (.bool false) rfl e36 ?_;exact zj rfl ⟨Below.refl _ _, Left.of rfl⟩
   · intro vs X wq K;obtain ⟨_, e37, k37⟩ := K.dep 37 rfl rfl rfl;refine zb 53 (.bool false) rfl e37 ?_;exact zr rfl (zj rfl ⟨Below.refl _ _, Left.of rfl⟩)
   · intro vs X wq K;obtain ⟨_, e38, k38⟩ := K.dep 38 rfl rfl rfl;refine zb 54 (.int .i64 ((t : Nat) : Int)) rfl e38 ?_;obtain ⟨_, e37, k37⟩ := K.dep 37 rfl rfl rfl;refine zb 53 (.bool false) rfl e37 ?_;exact zr rfl (yy rfl rfl ⟨Below.refl _ _, Left.of ((by rw [decide_eq_false]; omega : (.bool (decide (1048576 < ((t : Nat) : Int))) : Value) = _))⟩)
   · intro vs X wq K;obtain ⟨_, e37, k37⟩ := K.dep 37 rfl rfl rfl;refine zb 53 (.bool false) rfl e37 ?_;obtain ⟨_, e39, k39⟩ := K.dep 39 rfl rfl rfl;refine zb 55 (.bool false) rfl e39 ?_;exact zh rfl rfl ⟨Below.refl _ _, Left.of rfl⟩
   · intro vs X wq K;obtain ⟨_, e40, k40⟩ := K.dep 40 rfl rfl rfl;refine zb 56 (.bool false) rfl e40 ?_;exact zj rfl ⟨Below.refl _ _, Left.of rfl⟩
   · intro vs X wq K;obtain ⟨_, e41, k41⟩ := K.dep 41 rfl rfl rfl;refine zb 57 (.bool false) rfl e41 ?_;exact zr rfl (zj rfl ⟨Below.refl _ _, Left.of rfl⟩)
   · intro vs X wq K;obtain ⟨_, e42, k42⟩ := K.dep 42 rfl rfl rfl;refine zb 58 (.int .i64 ((r : Nat) : Int)) rfl e42 ?_;obtain ⟨_, e41, k41⟩ := K.dep 41 rfl rfl rfl;refine zb 57 (.bool false) rfl e41 ?_;exact zr rfl (yy rfl rfl ⟨Below.refl _ _, Left.of ((by rw [decide_eq_false]; omega : (.bool (decide (1048576 < ((r : Nat) : Int))) : Value) = _))⟩)
   · intro vs X wq K;obtain ⟨_, e41, k41⟩ := K.dep 41 rfl rfl rfl;refine zb 57 (.bool false) rfl e41 ?_;obtain ⟨_, e43, k43⟩ := K.dep 43 rfl rfl rfl;refine zb 59 (.bool false) rfl e43 ?_;exact zh rfl rfl ⟨Below.refl _ _, Left.of rfl⟩
 intro vs w1 LE AO AL AF AA;have hbd : Below (w).heap.size (w) w1 := (((Ext.refl No (w)).drew).trans LE).toBelow;obtain ⟨_, e44, k44⟩ := AL.2.2.2.2.2.2.2.2.2.2.2.2.2.2.2.2.2.2.2.2.2.2.2.2.2.2.2.2.2.2.2.2.2.2.2.2.2.2.2.2.2.2.2.2.1;refine vb (τ := [(0, _), (1, _), (2, _), (3, _), (8, _), (9, _), (60, .bool false)]) ⟨rfl, rfl, rfl, rfl, rfl, rfl, congrArg some e44, trivial⟩ ?_;clear AL AF AA AO
 have E1 := Ext.of_below hbd No;obtain ⟨wu1, hwu1⟩ : ∃ wu1, wu1 = w1 := ⟨_, rfl⟩;subst hwu1;have hM1 := hM.ext E1 (fun h => h) (fun h => h)
 refine zi (zw rfl (zo (zi (srx (mvx rfl (za rfl (yg rfl rfl (zt (by omega)) (mvx rfl (za rfl (yg rfl rfl (zt (by omega)) (anx rfl (zm (zm (ye 10 (.int .i64 ((2 + t + r : Nat) : Int)) rfl ((by first | rfl | (congr 1; omega) : (.int .i64 ((2 + ((t : Nat) : Int)) + ((r : Nat) : Int)) : Value) = _)) ?_))))))))))))))
 refine vg (No) Mut.none_ [] [] (jx [Fx.of (.int .i64 ((2 + t + r : Nat) : Int)),
  Fx.of (.bool false),
  Fx.of (.bool false),
  Fx.of (.int .i64 ((2 + t + r : Nat) : Int)),
  Fx.of (.pointer (some ⟨gm, 0, none⟩)),
  Fx.of (.pointer (some ⟨gm, 0, none⟩)),
  Fx.of (.pointer (some ⟨gm, 0, none⟩)),
  Fx.of (.slice (some ⟨gW, 0, none⟩) W.length cap),
  Fx.of (.int .i64 (((W.length : Nat)) : Int)),
  Fx.of (.pointer (some ⟨gm, 0, none⟩)),
  Fx.of (.pointer (some ⟨gm, 0, none⟩)),
  Fx.of (.pointer (some ⟨gm, 1, none⟩)),
  Fx.of (.int .i64 ((top : Nat) : Int)),
  Fx.of (.int .i64 ((((W.length : Nat)) : Int) - ((top : Nat) : Int))),
  Fx.of (.bool false),
  Fx.of (.bool false)]) vo rfl trivial (fun _ h => by cases h) ?_ ?_
 · refine ⟨?_, ?_, ?_, ?_, ?_, ?_, ?_, ?_, ?_, ?_, ?_, ?_, ?_, ?_, ?_, ?_, trivial⟩
   · intro vs X wq K;exact zj rfl ⟨Below.refl _ _, Left.of rfl⟩
   · intro vs X wq K;obtain ⟨_, e0, k0⟩ := K.dep 0 rfl rfl rfl;refine zb 65 (.int .i64 ((2 + t + r : Nat) : Int)) rfl e0 ?_;exact jb rfl rfl ⟨Below.refl _ _, Left.of ((by rw [decide_eq_false]; omega : (.bool (decide (16777216 ≤ ((2 + t + r : Nat) : Int))) : Value) = _))⟩
   · intro vs X wq K;obtain ⟨_, e1, k1⟩ := K.dep 1 rfl rfl rfl;refine zb 66 (.bool false) rfl e1 ?_;exact zj rfl ⟨Below.refl _ _, Left.of rfl⟩
   · intro vs X wq K;obtain ⟨_, e2, k2⟩ := K.dep 2 rfl rfl rfl;refine zb 67 (.bool false) rfl e2 ?_;exact zr rfl (zj rfl ⟨Below.refl _ _, Left.of rfl⟩)
   · intro vs X wq K;obtain ⟨_, e2, k2⟩ := K.dep 2 rfl rfl rfl;refine zb 67 (.bool false) rfl e2 ?_;exact zr rfl (zj rfl ⟨Below.refl _ _, Left.of rfl⟩)
   · intro vs X wq K;obtain ⟨_, e4, k4⟩ := K.dep 4 rfl rfl rfl;refine zb 69 (.pointer (some ⟨gm, 0, none⟩)) rfl e4 ?_;obtain ⟨_, e2, k2⟩ := K.dep 2 rfl rfl rfl;refine zb 67 (.bool false) rfl e2 ?_;exact zr rfl (yv rfl ⟨Below.refl _ _, Left.of rfl⟩)
   · intro vs X wq K;obtain ⟨_, e5, k5⟩ := K.dep 5 rfl rfl rfl;refine zb 70 (.pointer (some ⟨gm, 0, none⟩)) rfl e5 ?_;obtain ⟨_, e2, k2⟩ := K.dep 2 rfl rfl rfl;refine zb 67 (.bool false) rfl e2 ?_;exact zr rfl (zc Try.underlying24 rfl qy (by decide) rfl ⟨Below.refl _ _, Left.of rfl⟩)
   · intro vs X wq K;have LE := K.1;obtain ⟨_, e6, k6⟩ := K.dep 6 rfl rfl rfl;refine zb 71 (.pointer (some ⟨gm, 0, none⟩)) rfl e6 ?_;obtain ⟨_, e2, k2⟩ := K.dep 2 rfl rfl rfl;refine zb 67 (.bool false) rfl e2 ?_;exact zr rfl (ze Try.underlying22 rfl rfl (qe LE hM1.mb) rfl ⟨Below.refl _ _, Left.of rfl⟩)
   · intro vs X wq K;obtain ⟨_, e7, k7⟩ := K.dep 7 rfl rfl rfl;refine zb 72 (.slice (some ⟨gW, 0, none⟩) W.length cap) rfl e7 ?_;obtain ⟨_, e2, k2⟩ := K.dep 2 rfl rfl rfl;refine zb 67 (.bool false) rfl e2 ?_;exact zr rfl (yq Try.underlying22 rfl ⟨Below.refl _ _, Left.of rfl⟩)
   · intro vs X wq K;obtain ⟨_, e2, k2⟩ := K.dep 2 rfl rfl rfl;refine zb 67 (.bool false) rfl e2 ?_;exact zr rfl (zj rfl ⟨Below.refl _ _, Left.of rfl⟩)
   · intro vs X wq K;obtain ⟨_, e9, k9⟩ := K.dep 9 rfl rfl rfl;refine zb 74 (.pointer (some ⟨gm, 0, none⟩)) rfl e9 ?_;obtain ⟨_, e2, k2⟩ := K.dep 2 rfl rfl rfl;refine zb 67 (.bool false) rfl e2 ?_;exact zr rfl (yv rfl ⟨Below.refl _ _, Left.of rfl⟩)
   · intro vs X wq K;obtain ⟨_, e10, k10⟩ := K.dep 10 rfl rfl rfl;refine zb 75 (.pointer (some ⟨gm, 0, none⟩)) rfl e10 ?_;obtain ⟨_, e2, k2⟩ := K.dep 2 rfl rfl rfl;refine zb 67 (.bool false) rfl e2 ?_;exact zr rfl (zc Try.underlying24 rfl sz3 (by decide) rfl ⟨Below.refl _ _, Left.of rfl⟩)
   · intro vs X wq K;have LE := K.1;obtain ⟨_, e11, k11⟩ := K.dep 11 rfl rfl rfl;refine zb 76 (.pointer (some ⟨gm, 1, none⟩)) rfl e11 ?_;obtain ⟨_, e2, k2⟩ := K.dep 2 rfl rfl rfl;refine zb 67 (.bool false) rfl e2 ?_;exact zr rfl (ze Try.underlying3 rfl rfl (qe LE hM1.mb) rfl ⟨Below.refl _ _, Left.of rfl⟩)
   · intro vs X wq K;obtain ⟨_, e8, k8⟩ := K.dep 8 rfl rfl rfl;refine zb 73 (.int .i64 (((W.length : Nat)) : Int)) rfl e8 ?_;obtain ⟨_, e12, k12⟩ := K.dep 12 rfl rfl rfl;refine zb 77 (.int .i64 ((top : Nat) : Int)) rfl e12 ?_;obtain ⟨_, e2, k2⟩ := K.dep 2 rfl rfl rfl;refine zb 67 (.bool false) rfl e2 ?_
     exact zr rfl (vu rfl rfl (zt (by omega)) ⟨Below.refl _ _, Left.of rfl⟩)
   · intro vs X wq K;obtain ⟨_, e3, k3⟩ := K.dep 3 rfl rfl rfl;refine zb 68 (.int .i64 ((2 + t + r : Nat) : Int)) rfl e3 ?_;obtain ⟨_, e13, k13⟩ := K.dep 13 rfl rfl rfl;refine zb 78 (.int .i64 ((((W.length : Nat)) : Int) - ((top : Nat) : Int))) rfl e13 ?_;obtain ⟨_, e2, k2⟩ := K.dep 2 rfl rfl rfl;refine zb 67 (.bool false) rfl e2 ?_
     exact zr rfl (yy rfl rfl ⟨Below.refl _ _, Left.of ((by rw [decide_eq_false]; omega : (.bool (decide (((((W.length : Nat)) : Int) - ((top : Nat) : Int)) < ((2 + t + r : Nat) : Int))) : Value) = _))⟩)
   · intro vs X wq K;obtain ⟨_, e2, k2⟩ := K.dep 2 rfl rfl rfl;refine zb 67 (.bool false) rfl e2 ?_;obtain ⟨_, e14, k14⟩ := K.dep 14 rfl rfl rfl;refine zb 79 (.bool false) rfl e14 ?_;exact zh rfl rfl ⟨Below.refl _ _, Left.of rfl⟩
 intro vs w2 LE AO AL AF AA;have hbd : Below (wu1).heap.size (wu1) w2 := (((Ext.refl No (wu1)).drew).trans LE).toBelow;obtain ⟨_, e15, k15⟩ := AL.2.2.2.2.2.2.2.2.2.2.2.2.2.2.2.1;refine vb (τ := [(0, _), (1, _), (2, _), (8, _), (9, _), (10, _), (80, .bool false)]) ⟨rfl, rfl, rfl, rfl, rfl, rfl, congrArg some e15, trivial⟩ ?_;clear AL AF AA AO;have E2 := E1.trans (Ext.of_below hbd No)
 have hM2 := hM1.ext (Ext.of_below hbd No) (fun h => h) (fun h => h)
 refine zi (zw rfl (zo (zi (srx (mvx rfl (za rfl (yv rfl (za rfl (zc Try.underlying24 rfl sz3 (by decide) rfl (za rfl (ze Try.underlying3 rfl rfl hM2.mb rfl (anx rfl (srx (mvx rfl (za rfl (yv rfl (za rfl (zc Try.underlying24 rfl sz3 (by decide) rfl (za rfl (ze Try.underlying3 rfl rfl hM2.mb rfl (mvx rfl (za rfl (yg rfl rfl (zt (by omega)) (za rfl (yv rfl (za rfl (zc Try.underlying24 rfl sz3 (by decide) rfl (ym (vy (cs' := #[.slice (some ⟨gW, 0, none⟩) W.length cap, .int .i64 ((top + (2 + t + r) : Nat) : Int)]) sz3 rfl rfl hM2.mb rfl rfl (Nat.le_of_ble_eq_true rfl) (by rw [show (((top + (2 + t + r) : Nat)) : Int) = ((top : Nat) : Int) + ((2 + t + r : Nat) : Int) from by omega]; rfl) ?_)))))))))))))))))))))))))))))
 rintro wu3 bm3 E3;have hM3 : OwnM lo wu3 gm gW cap W (top + (2 + t + r)) := ⟨bm3, qg hM2.row E3 (fun q hq hx => by cases hq; exact hmW (yx hx).symm), hM.in_, by omega, hf, h4⟩;have hE3 : Ext (Mut [some gm, some gW]) w wu3 := (E2.mono (Y := Mut [some gm, some gW]) (fun _ h _ => h.elim)).step E3 (fun q hq => Or.inl (hXm q hq))
 refine rnx (srx (za rfl (zp en31 rfl ((const0_any _).mono ?_))));rintro e w3 ⟨rfl, hb⟩;refine ⟨_, rfl, ?_⟩;have E4 := Ext.of_below hb No;have hM4 := hM3.ext E4 (fun h => h) (fun h => h);have hE4 := hE3.step E4 (fun _ h => h.elim);have hcap : W.length ≤ cap := by
  rcases hM4.row.2 with ⟨h9, _⟩ | ⟨g9, c9, u9, h9, _, _, h8, _⟩
  · cases h9
  · cases h9; exact h8
 refine mvx rfl (za rfl (zg rfl rfl (za rfl (zg rfl rfl (avx rfl (anx rfl (zm (zm ?_))))))));refine vg (No) Mut.none_ [] [] (jx [Fx.of (.pointer (some ⟨gm, 0, none⟩)),
  Fx.of (.pointer (some ⟨gm, 0, none⟩)),
  Fx.of (.pointer (some ⟨gm, 0, none⟩)),
  Fx.of (.slice (some ⟨gW, 0, none⟩) W.length cap),
  Fx.of (.int .i64 ((top : Nat) : Int)),
  Fx.of (.pointer (some ⟨gm, 0, none⟩)),
  Fx.of (.pointer (some ⟨gm, 0, none⟩)),
  Fx.of (.pointer (some ⟨gm, 1, none⟩)),
  Fx.of (.int .i64 ((top + (2 + t + r) : Nat) : Int)),
  Fx.of (.slice (if cap = top then (some ⟨gW, 0, none⟩) else (some (⟨gW, 0, none⟩ : Addr)).map (·.add (top * 1))) (top + (2 + t + r) - top) (cap - top)),
  Fx.of (.int .i64 ((((top + (2 + t + r) - top) : Nat)) : Int)),
  Fx.of (.int .i64 0)]) vo rfl trivial (fun _ h => by cases h) ?_ ?_
 · refine ⟨?_, ?_, ?_, ?_, ?_, ?_, ?_, ?_, ?_, ?_, ?_, ?_, trivial⟩
   · intro vs X wq K;exact zj rfl ⟨Below.refl _ _, Left.of rfl⟩
   · intro vs X wq K;obtain ⟨_, e0, k0⟩ := K.dep 0 rfl rfl rfl;refine zb 97 (.pointer (some ⟨gm, 0, none⟩)) rfl e0 ?_;exact yv rfl ⟨Below.refl _ _, Left.of rfl⟩
   · intro vs X wq K;obtain ⟨_, e1, k1⟩ := K.dep 1 rfl rfl rfl;refine zb 98 (.pointer (some ⟨gm, 0, none⟩)) rfl e1 ?_;exact zc Try.underlying24 rfl qy (by decide) rfl ⟨Below.refl _ _, Left.of rfl⟩
   · intro vs X wq K;have LE := K.1;obtain ⟨_, e2, k2⟩ := K.dep 2 rfl rfl rfl;refine zb 99 (.pointer (some ⟨gm, 0, none⟩)) rfl e2 ?_;exact ze Try.underlying22 rfl rfl (qe LE hM4.mb) rfl ⟨Below.refl _ _, Left.of rfl⟩
   · intro vs X wq K;exact zj rfl ⟨Below.refl _ _, Left.of rfl⟩
   · intro vs X wq K;exact zj rfl ⟨Below.refl _ _, Left.of rfl⟩
   · intro vs X wq K;obtain ⟨_, e5, k5⟩ := K.dep 5 rfl rfl rfl;refine zb 102 (.pointer (some ⟨gm, 0, none⟩)) rfl e5 ?_;exact yv rfl ⟨Below.refl _ _, Left.of rfl⟩
   · intro vs X wq K;obtain ⟨_, e6, k6⟩ := K.dep 6 rfl rfl rfl;refine zb 103 (.pointer (some ⟨gm, 0, none⟩)) rfl e6 ?_;exact zc Try.underlying24 rfl sz3 (by decide) rfl ⟨Below.refl _ _, Left.of rfl⟩
   · intro vs X wq K;have LE := K.1;obtain ⟨_, e7, k7⟩ := K.dep 7 rfl rfl rfl;refine zb 104 (.pointer (some ⟨gm, 1, none⟩)) rfl e7 ?_;exact ze Try.underlying3 rfl rfl (qe LE hM4.mb) rfl ⟨Below.refl _ _, Left.of rfl⟩
   · intro vs X wq K;obtain ⟨_, e3, k3⟩ := K.dep 3 rfl rfl rfl;refine zb 100 (.slice (some ⟨gW, 0, none⟩) W.length cap) rfl e3 ?_;obtain ⟨_, e4, k4⟩ := K.dep 4 rfl rfl rfl;refine zb 101 (.int .i64 ((top : Nat) : Int)) rfl e4 ?_;obtain ⟨_, e8, k8⟩ := K.dep 8 rfl rfl rfl;refine zb 105 (.int .i64 ((top + (2 + t + r) : Nat) : Int)) rfl e8 ?_
     exact ow_slice (l := top) (h := top + (2 + t + r)) Try.underlying22 qk rfl ⟨_, rfl⟩ ⟨_, rfl⟩ (by omega) (by omega) ⟨Below.refl _ _, Left.of rfl⟩
   · intro vs X wq K;obtain ⟨_, e9, k9⟩ := K.dep 9 rfl rfl rfl;refine zb 106 (.slice (if cap = top then (some ⟨gW, 0, none⟩) else (some (⟨gW, 0, none⟩ : Addr)).map (·.add (top * 1))) (top + (2 + t + r) - top) (cap - top)) rfl e9 ?_;exact yq Try.underlying22 rfl ⟨Below.refl _ _, Left.of rfl⟩
   · intro vs X wq K;exact zj rfl ⟨Below.refl _ _, Left.of rfl⟩
 intro vs w4 LE AO AL AF AA;have hbd : Below (w3).heap.size (w3) w4 := (((Ext.refl No (w3)).drew).trans LE).toBelow;obtain ⟨_, e10, k10⟩ := AL.2.2.2.2.2.2.2.2.2.2.1;obtain ⟨_, e11, k11⟩ := AL.2.2.2.2.2.2.2.2.2.2.2.1
 refine vb (τ := [(0, _), (1, _), (2, _), (8, _), (9, _), (10, _), (11, _), (12, _), (107, .int .i64 ((((top + (2 + t + r) - top) : Nat)) : Int)), (108, .int .i64 0)]) ⟨rfl, rfl, rfl, rfl, rfl, rfl, rfl, rfl, congrArg some e10, congrArg some e11, trivial⟩ ?_;clear AL AF AA AO;have hM5 := hM4.ext (Ext.of_below hbd No) (fun h => h) (fun h => h)
 have hE5 := hE4.step (Ext.of_below hbd No) (fun _ h => h.elim)
 refine zi (yk (vd (ι := Nat) (fun i => [(0, .pointer (some ⟨gm, 0, none⟩)), (1, .int .i64 ((k : Nat) : Int)), (2, .int .i64 ((t : Nat) : Int)), (10, .int .i64 ((2 + t + r : Nat) : Int)), (11, .int .i64 ((top : Nat) : Int)), (12, .int .u64 2), (107, .int .i64 ((top + (2 + t + r) - top : Nat) : Int)), (108, .int .i64 ((i : Nat) : Int))]) (fun i w' => i ≤ 2 + t + r ∧ OwnM lo w' gm gW cap W (top + (2 + t + r)) ∧ Ext (Mut [some gm, some gW]) w w') (fun i => 2 + t + r - i) 0 ⟨rfl, rfl, rfl, rfl, rfl, rfl, rfl, rfl, trivial⟩ (⟨Nat.zero_le _, hM5, hE5⟩) ?_))
 rintro i w6 ⟨hi0, hMi, hEi⟩;refine srx (za rfl (yp rfl rfl (rnx (zm (yl rfl (fun hc => ?_) (fun hc => ?_))))))
 ·
  have hc := of_decide_eq_true hc;have hlt : i < 2 + t + r := by omega
  refine zo (zi (zm (yk (srx (mvx rfl (anx rfl (yh (mvx rfl (za rfl (yv rfl (za rfl (zc Try.underlying24 rfl qy (by decide) rfl (za rfl (ze Try.underlying22 rfl rfl hMi.mb rfl (mvx rfl (mvx rfl (za rfl (yg rfl rfl (zt (by omega)) (za rfl (zx (j := top + i) Try.underlying22 qk rfl rfl (by omega) (by omega) (ym (vh (o := 0 + (top + i)) (xs' := yf W) qk rfl rfl hMi.row (by omega) rfl rfl (by rw [Nat.zero_add]; exact (qv (x := 0)).trans (by rw [set_zero (by omega) (hz _ (by omega))])) ?_))))))))))))))))))))))
  rintro wS OS ES;refine qi (zv (zi (yh (za rfl (yg rfl rfl (zt (by omega)) (mvx rfl (qi ?_)))))))
  exact qr (i + 1) (by show 2 + t + r - (i + 1) < 2 + t + r - i; omega) ⟨rfl, rfl, rfl, rfl, rfl, rfl, rfl, rfl, trivial⟩ (⟨hlt, ⟨kx hMi.mb hMi.row (by decide) ES, OS, hMi.in_, hMi.one, hMi.len, hMi.most⟩, hEi.step ES (fun q hq => Or.inl (hXw q hq))⟩)
 ·
  obtain ⟨s, hs⟩ : ∃ s, s = 2 + t + r := ⟨_, rfl⟩;have hc := of_decide_eq_false hc
  refine ye 10 (.int .i64 ((s : Nat) : Int)) rfl ((by rw [hs] : (.int .i64 ((2 + t + r : Nat) : Int) : Value) = _)) (ve (zy (zy (yu (zi (srx (mvx rfl (za rfl (yv rfl (za rfl (zc Try.underlying24 rfl qy (by decide) rfl (za rfl (ze Try.underlying22 rfl rfl hMi.mb rfl (mvx rfl (mvx rfl (za rfl (qc Try.underlying27 Try.underlying3 rfl (yi (by omega)) (mvx rfl (za rfl (qc Try.underlying27 Try.underlying3 rfl (yi (by omega)) (za rfl (xf rfl rfl (by decide) (shl_O (x := t) (k := 8) (by decide) (by omega)) (za rfl (zjz rfl rfl (zhx (x := k) (y := t * 2 ^ 8) (k := 8) (by omega) (by omega) (by decide) (by omega)) (mvx rfl (za rfl (qc Try.underlying27 Try.underlying3 rfl (yi (by omega)) (za rfl (xf rfl rfl (by decide) (shl_O (x := s) (k := 32) (by decide) (by omega)) (za rfl (zjz rfl rfl (zhx (x := k + t * 2 ^ 8) (y := s * 2 ^ 32) (k := 32) (by omega) (by omega) (by decide) (by omega)) (zq 134 (.int .u64 ((qx k t s : Nat) : Int)) rfl ((by congr 1; unfold qx; omega : (.int .u64 ((k + t * 2 ^ 8 + s * 2 ^ 32 : Nat) : Int) : Value) = _)) (za rfl (zx (j := top) Try.underlying22 qk rfl rfl rfl (by omega) (ym (vh (o := 0 + top) (xs' := yf (W.set top (qx k t s))) qk rfl rfl hMi.row (by omega) rfl rfl (by rw [Nat.zero_add, qv]) ?_))))))))))))))))))))))))))))))))))))
  rintro wS OS ES;have hh : U64 (qx k t s) := by unfold U64 qx; omega
  have hM6 := hMi.put hh OS ES;have hE6 := hEi.step ES (fun q hq => Or.inl (hXw q hq));have hN0 : NewM W (W.set top (qx k t s)) top (qx k t s) 0 := .zero (by omega)
  refine rnx (zm (srx (mvx rfl (mvx rfl (rnx (yk (vd (ι := Nat × List Nat) (fun (j, V) => [(0, .pointer (some ⟨gm, 0, none⟩)), (11, .int .i64 ((top : Nat) : Int)), (12, .int .u64 2), (136, .int .i64 ((t : Nat) : Int)), (137, .int .i64 ((j : Nat) : Int))]) (fun (j, V) w' => j ≤ t ∧ NewM W V top (qx k t s) j ∧ OwnM lo w' gm gW cap V (top + (2 + t + r)) ∧ Ext (Mut [some gm, some gW]) w w') (fun (j, _) => t - j) (0, W.set top (qx k t s)) ⟨rfl, rfl, rfl, rfl, rfl, trivial⟩ (⟨Nat.zero_le _, hN0, hM6, hE6⟩) ?_)))))))
  rintro ⟨j, V⟩ w8 ⟨hjt, hNj, hMj, hEj⟩;have hVl := hNj.1;refine srx (za rfl (yp rfl rfl (rnx (zm (yl rfl (fun hc2 => ?_) (fun hc2 => ?_))))))
  ·
   have hc2 := of_decide_eq_true hc2;have hjlt : j < t := by omega
   refine zo (zi (zm (yk (srx (mvx rfl (anx rfl (yh (mvx rfl (za rfl (yv rfl (za rfl (zc Try.underlying24 rfl qy (by decide) rfl (za rfl (ze Try.underlying22 rfl rfl hMj.mb rfl (mvx rfl (za rfl (yg rfl rfl (zt (by omega)) (mvx rfl (za rfl (yg rfl rfl (zt (by omega)) (mvx rfl (za rfl (zx (j := top + 2 + j) Try.underlying22 qk rfl rfl (by omega) (by omega) (ym (vh (o := 0 + (top + 2 + j)) (xs' := yf (V.set (top + 2 + j) 2)) qk rfl rfl hMj.row (by omega) rfl rfl (by rw [Nat.zero_add]; exact qv (x := 2)) ?_)))))))))))))))))))))))))
   rintro wT OT ET;refine qi (zv (zi (yh (za rfl (yg rfl rfl (zt (by omega)) (mvx rfl (qi ?_)))))));exact qr (j + 1, V.set (top + 2 + j) 2) (by show t - (j + 1) < t - j; omega) ⟨rfl, rfl, rfl, rfl, rfl, trivial⟩ (⟨hjlt, hNj.next (by omega), hMj.put (show U64 2 from by unfold U64; omega) OT ET, hEj.step ET (fun q hq => Or.inl (hXw q hq))⟩)
  ·
   have hc2 := of_decide_eq_false hc2;have hjt2 : j = t := by omega
   have hV : V = laid W top k (List.replicate t 2) (List.replicate r 0) := NewM.isLaid (hs ▸ hjt2 ▸ hNj) hz hf;refine ve (zy (zy (yu (zi (srx (mvx rfl (avx rfl (anx rfl (zl (zk (rs := [.tmp 8, .tmp 9]) (vs := [_, _]) rfl ⟨rfl, rfl, trivial⟩ ?_))))))))));exact ⟨rfl, hV ▸ hMj, hEj⟩
theorem aalloc_full (hf : W.length < top + (2 + t + r)) : Calls Try.prog 52 #[.pointer (some ⟨gm, 0, none⟩), .int .i64 ((k : Nat) : Int), .int .i64 ((t : Nat) : Int), .int .i64 ((r : Nat) : Int)] w fun e w' => e = .returned (.tuple #[.int .i64 0, .int .i64 5]) ∧ Below w.heap.size w w' := by
 have _ := hmW;have h1 := hM.one;have h3 := hM.len;have h4 := hM.most;refine yc Try.func52 rfl Try.ntmps52 rfl (srx (avx rfl (anx rfl (zm (zm ?_)))));refine vg (No) Mut.none_ [] [] (jx [Fx.of (.pointer (some ⟨gm, 0, none⟩)),
  Fx.of (.bool false),
  Fx.of (.bool false),
  Fx.of (.pointer (some ⟨gm, 0, none⟩)),
  Fx.of (.pointer (some ⟨gm, 0, none⟩)),
  Fx.of (.pointer (some ⟨gm, 1, none⟩)),
  Fx.of (.int .i64 ((top : Nat) : Int)),
  Fx.of (.bool false),
  Fx.of (.bool false),
  Fx.of (.bool false),
  Fx.of (.pointer (some ⟨gm, 0, none⟩)),
  Fx.of (.pointer (some ⟨gm, 0, none⟩)),
  Fx.of (.pointer (some ⟨gm, 1, none⟩)),
  Fx.of (.int .i64 ((top : Nat) : Int)),
  Fx.of (.pointer (some ⟨gm, 0, none⟩)),
  Fx.of (.pointer (some ⟨gm, 0, none⟩)),
  Fx.of (.pointer (some ⟨gm, 0, none⟩)),
  Fx.of (.slice (some ⟨gW, 0, none⟩) W.length cap),
  Fx.of (.int .i64 (((W.length : Nat)) : Int)),
  Fx.of (.bool false),
  Fx.of (.bool false),
  Fx.of (.bool false),
  Fx.of (.int .i64 ((k : Nat) : Int)),
  Fx.of (.bool false),
  Fx.of (.bool false),
  Fx.of (.bool false),
  Fx.of (.int .i64 ((k : Nat) : Int)),
  Fx.of (.bool false),
  Fx.of (.bool false),
  Fx.of (.bool false),
  Fx.of (.int .i64 ((t : Nat) : Int)),
  Fx.of (.bool false),
  Fx.of (.bool false),
  Fx.of (.bool false),
  Fx.of (.int .i64 ((r : Nat) : Int)),
  Fx.of (.bool false),
  Fx.of (.bool false),
  Fx.of (.bool false),
  Fx.of (.int .i64 ((t : Nat) : Int)),
  Fx.of (.bool false),
  Fx.of (.bool false),
  Fx.of (.bool false),
  Fx.of (.int .i64 ((r : Nat) : Int)),
  Fx.of (.bool false),
  Fx.of (.bool false)]) vo rfl trivial (fun _ h => by cases h) ?_ ?_
 · refine ⟨?_, ?_, ?_, ?_, ?_, ?_, ?_, ?_, ?_, ?_, ?_, ?_, ?_, ?_, ?_, ?_, ?_, ?_, ?_, ?_, ?_, ?_, ?_, ?_, ?_, ?_, ?_, ?_, ?_, ?_, ?_, ?_, ?_, ?_, ?_, ?_, ?_, ?_, ?_, ?_, ?_, ?_, ?_, ?_, ?_, trivial⟩
   · intro vs X wq K;exact zj rfl ⟨Below.refl _ _, Left.of rfl⟩
   · intro vs X wq K;obtain ⟨_, e0, k0⟩ := K.dep 0 rfl rfl rfl;refine zb 16 (.pointer (some ⟨gm, 0, none⟩)) rfl e0 ?_;exact kp Try.underlying39 rfl rfl ⟨Below.refl _ _, Left.of rfl⟩
   · intro vs X wq K;obtain ⟨_, e1, k1⟩ := K.dep 1 rfl rfl rfl;refine zb 17 (.bool false) rfl e1 ?_;exact zj rfl ⟨Below.refl _ _, Left.of rfl⟩
   · intro vs X wq K;obtain ⟨_, e2, k2⟩ := K.dep 2 rfl rfl rfl;refine zb 18 (.bool false) rfl e2 ?_;exact zr rfl (zj rfl ⟨Below.refl _ _, Left.of rfl⟩)
   · intro vs X wq K;obtain ⟨_, e3, k3⟩ := K.dep 3 rfl rfl rfl;refine zb 19 (.pointer (some ⟨gm, 0, none⟩)) rfl e3 ?_;obtain ⟨_, e2, k2⟩ := K.dep 2 rfl rfl rfl;refine zb 18 (.bool false) rfl e2 ?_;exact zr rfl (yv rfl ⟨Below.refl _ _, Left.of rfl⟩)
   · intro vs X wq K;obtain ⟨_, e4, k4⟩ := K.dep 4 rfl rfl rfl;refine zb 20 (.pointer (some ⟨gm, 0, none⟩)) rfl e4 ?_;obtain ⟨_, e2, k2⟩ := K.dep 2 rfl rfl rfl;refine zb 18 (.bool false) rfl e2 ?_;exact zr rfl (zc Try.underlying24 rfl sz3 (by decide) rfl ⟨Below.refl _ _, Left.of rfl⟩)
   · intro vs X wq K;have LE := K.1;obtain ⟨_, e5, k5⟩ := K.dep 5 rfl rfl rfl;refine zb 21 (.pointer (some ⟨gm, 1, none⟩)) rfl e5 ?_;obtain ⟨_, e2, k2⟩ := K.dep 2 rfl rfl rfl;refine zb 18 (.bool false) rfl e2 ?_;exact zr rfl (ze Try.underlying3 rfl rfl (qe LE hM.mb) rfl ⟨Below.refl _ _, Left.of rfl⟩)
   · intro vs X wq K;obtain ⟨_, e6, k6⟩ := K.dep 6 rfl rfl rfl;refine zb 22 (.int .i64 ((top : Nat) : Int)) rfl e6 ?_;obtain ⟨_, e2, k2⟩ := K.dep 2 rfl rfl rfl;refine zb 18 (.bool false) rfl e2 ?_;exact zr rfl (yp rfl rfl ⟨Below.refl _ _, Left.of ((by rw [decide_eq_false]; omega : (.bool (decide (((top : Nat) : Int) < 1)) : Value) = _))⟩)
   · intro vs X wq K;obtain ⟨_, e2, k2⟩ := K.dep 2 rfl rfl rfl;refine zb 18 (.bool false) rfl e2 ?_;obtain ⟨_, e7, k7⟩ := K.dep 7 rfl rfl rfl;refine zb 23 (.bool false) rfl e7 ?_;exact zh rfl rfl ⟨Below.refl _ _, Left.of rfl⟩
   · intro vs X wq K;obtain ⟨_, e8, k8⟩ := K.dep 8 rfl rfl rfl;refine zb 24 (.bool false) rfl e8 ?_;exact zj rfl ⟨Below.refl _ _, Left.of rfl⟩
   · intro vs X wq K;obtain ⟨_, e9, k9⟩ := K.dep 9 rfl rfl rfl;refine zb 25 (.bool false) rfl e9 ?_;exact zr rfl (zj rfl ⟨Below.refl _ _, Left.of rfl⟩)
   · intro vs X wq K;obtain ⟨_, e10, k10⟩ := K.dep 10 rfl rfl rfl;refine zb 26 (.pointer (some ⟨gm, 0, none⟩)) rfl e10 ?_;obtain ⟨_, e9, k9⟩ := K.dep 9 rfl rfl rfl;refine zb 25 (.bool false) rfl e9 ?_;exact zr rfl (yv rfl ⟨Below.refl _ _, Left.of rfl⟩)
   · intro vs X wq K;obtain ⟨_, e11, k11⟩ := K.dep 11 rfl rfl rfl;refine zb 27 (.pointer (some ⟨gm, 0, none⟩)) rfl e11 ?_;obtain ⟨_, e9, k9⟩ := K.dep 9 rfl rfl rfl;refine zb 25 (.bool false) rfl e9 ?_;exact zr rfl (zc Try.underlying24 rfl sz3 (by decide) rfl ⟨Below.refl _ _, Left.of rfl⟩)
   · intro vs X wq K;have LE := K.1;obtain ⟨_, e12, k12⟩ := K.dep 12 rfl rfl rfl;refine zb 28 (.pointer (some ⟨gm, 1, none⟩)) rfl e12 ?_;obtain ⟨_, e9, k9⟩ := K.dep 9 rfl rfl rfl;refine zb 25 (.bool false) rfl e9 ?_;exact zr rfl (ze Try.underlying3 rfl rfl (qe LE hM.mb) rfl ⟨Below.refl _ _, Left.of rfl⟩)
   · intro vs X wq K;obtain ⟨_, e9, k9⟩ := K.dep 9 rfl rfl rfl;refine zb 25 (.bool false) rfl e9 ?_;exact zr rfl (zj rfl ⟨Below.refl _ _, Left.of rfl⟩)
   · intro vs X wq K;obtain ⟨_, e14, k14⟩ := K.dep 14 rfl rfl rfl;refine zb 30 (.pointer (some ⟨gm, 0, none⟩)) rfl e14 ?_;obtain ⟨_, e9, k9⟩ := K.dep 9 rfl rfl rfl;refine zb 25 (.bool false) rfl e9 ?_;exact zr rfl (yv rfl ⟨Below.refl _ _, Left.of rfl⟩)
   · intro vs X wq K;obtain ⟨_, e15, k15⟩ := K.dep 15 rfl rfl rfl;refine zb 31 (.pointer (some ⟨gm, 0, none⟩)) rfl e15 ?_;obtain ⟨_, e9, k9⟩ := K.dep 9 rfl rfl rfl;refine zb 25 (.bool false) rfl e9 ?_;exact zr rfl (zc Try.underlying24 rfl qy (by decide) rfl ⟨Below.refl _ _, Left.of rfl⟩)
   · intro vs X wq K;have LE := K.1;obtain ⟨_, e16, k16⟩ := K.dep 16 rfl rfl rfl;refine zb 32 (.pointer (some ⟨gm, 0, none⟩)) rfl e16 ?_;obtain ⟨_, e9, k9⟩ := K.dep 9 rfl rfl rfl;refine zb 25 (.bool false) rfl e9 ?_;exact zr rfl (ze Try.underlying22 rfl rfl (qe LE hM.mb) rfl ⟨Below.refl _ _, Left.of rfl⟩)
   · intro vs X wq K;obtain ⟨_, e17, k17⟩ := K.dep 17 rfl rfl rfl;refine zb 33 (.slice (some ⟨gW, 0, none⟩) W.length cap) rfl e17 ?_;obtain ⟨_, e9, k9⟩ := K.dep 9 rfl rfl rfl;refine zb 25 (.bool false) rfl e9 ?_;exact zr rfl (yq Try.underlying22 rfl ⟨Below.refl _ _, Left.of rfl⟩)
   · intro vs X wq K;obtain ⟨_, e13, k13⟩ := K.dep 13 rfl rfl rfl;refine zb 29 (.int .i64 ((top : Nat) : Int)) rfl e13 ?_;obtain ⟨_, e18, k18⟩ := K.dep 18 rfl rfl rfl;refine zb 34 (.int .i64 (((W.length : Nat)) : Int)) rfl e18 ?_;obtain ⟨_, e9, k9⟩ := K.dep 9 rfl rfl rfl;refine zb 25 (.bool false) rfl e9 ?_
     exact zr rfl (yy rfl rfl ⟨Below.refl _ _, Left.of ((by rw [decide_eq_false]; omega : (.bool (decide ((((W.length : Nat)) : Int) < ((top : Nat) : Int))) : Value) = _))⟩)
   · intro vs X wq K;obtain ⟨_, e9, k9⟩ := K.dep 9 rfl rfl rfl;refine zb 25 (.bool false) rfl e9 ?_;obtain ⟨_, e19, k19⟩ := K.dep 19 rfl rfl rfl;refine zb 35 (.bool false) rfl e19 ?_;exact zh rfl rfl ⟨Below.refl _ _, Left.of rfl⟩
   · intro vs X wq K;obtain ⟨_, e20, k20⟩ := K.dep 20 rfl rfl rfl;refine zb 36 (.bool false) rfl e20 ?_;exact zj rfl ⟨Below.refl _ _, Left.of rfl⟩
   · intro vs X wq K;obtain ⟨_, e21, k21⟩ := K.dep 21 rfl rfl rfl;refine zb 37 (.bool false) rfl e21 ?_;exact zr rfl (zj rfl ⟨Below.refl _ _, Left.of rfl⟩)
   · intro vs X wq K;obtain ⟨_, e22, k22⟩ := K.dep 22 rfl rfl rfl;refine zb 38 (.int .i64 ((k : Nat) : Int)) rfl e22 ?_;obtain ⟨_, e21, k21⟩ := K.dep 21 rfl rfl rfl;refine zb 37 (.bool false) rfl e21 ?_;exact zr rfl (yp rfl rfl ⟨Below.refl _ _, Left.of ((by rw [decide_eq_false]; omega : (.bool (decide (((k : Nat) : Int) < 1)) : Value) = _))⟩)
   · intro vs X wq K;obtain ⟨_, e21, k21⟩ := K.dep 21 rfl rfl rfl;refine zb 37 (.bool false) rfl e21 ?_;obtain ⟨_, e23, k23⟩ := K.dep 23 rfl rfl rfl;refine zb 39 (.bool false) rfl e23 ?_;exact zh rfl rfl ⟨Below.refl _ _, Left.of rfl⟩
   · intro vs X wq K;obtain ⟨_, e24, k24⟩ := K.dep 24 rfl rfl rfl;refine zb 40 (.bool false) rfl e24 ?_;exact zj rfl ⟨Below.refl _ _, Left.of rfl⟩
   · intro vs X wq K;obtain ⟨_, e25, k25⟩ := K.dep 25 rfl rfl rfl;refine zb 41 (.bool false) rfl e25 ?_;exact zr rfl (zj rfl ⟨Below.refl _ _, Left.of rfl⟩)
   · intro vs X wq K;obtain ⟨_, e26, k26⟩ := K.dep 26 rfl rfl rfl;refine zb 42 (.int .i64 ((k : Nat) : Int)) rfl e26 ?_;obtain ⟨_, e25, k25⟩ := K.dep 25 rfl rfl rfl;refine zb 41 (.bool false) rfl e25 ?_;exact zr rfl (yy rfl rfl ⟨Below.refl _ _, Left.of ((by rw [decide_eq_false]; omega : (.bool (decide (255 < ((k : Nat) : Int))) : Value) = _))⟩)
   · intro vs X wq K;obtain ⟨_, e25, k25⟩ := K.dep 25 rfl rfl rfl;refine zb 41 (.bool false) rfl e25 ?_;obtain ⟨_, e27, k27⟩ := K.dep 27 rfl rfl rfl;refine zb 43 (.bool false) rfl e27 ?_;exact zh rfl rfl ⟨Below.refl _ _, Left.of rfl⟩
   · intro vs X wq K;obtain ⟨_, e28, k28⟩ := K.dep 28 rfl rfl rfl;refine zb 44 (.bool false) rfl e28 ?_;exact zj rfl ⟨Below.refl _ _, Left.of rfl⟩
   · intro vs X wq K;obtain ⟨_, e29, k29⟩ := K.dep 29 rfl rfl rfl;refine zb 45 (.bool false) rfl e29 ?_;exact zr rfl (zj rfl ⟨Below.refl _ _, Left.of rfl⟩)
   · intro vs X wq K;obtain ⟨_, e30, k30⟩ := K.dep 30 rfl rfl rfl;refine zb 46 (.int .i64 ((t : Nat) : Int)) rfl e30 ?_;obtain ⟨_, e29, k29⟩ := K.dep 29 rfl rfl rfl;refine zb 45 (.bool false) rfl e29 ?_;exact zr rfl (yp rfl rfl ⟨Below.refl _ _, Left.of ((by rw [decide_eq_false]; omega : (.bool (decide (((t : Nat) : Int) < 0)) : Value) = _))⟩)
   · intro vs X wq K;obtain ⟨_, e29, k29⟩ := K.dep 29 rfl rfl rfl;refine zb 45 (.bool false) rfl e29 ?_;obtain ⟨_, e31, k31⟩ := K.dep 31 rfl rfl rfl;refine zb 47 (.bool false) rfl e31 ?_;exact zh rfl rfl ⟨Below.refl _ _, Left.of rfl⟩
   · intro vs X wq K;obtain ⟨_, e32, k32⟩ := K.dep 32 rfl rfl rfl;refine zb 48 (.bool false) rfl e32 ?_;exact zj rfl ⟨Below.refl _ _, Left.of rfl⟩
   · intro vs X wq K;obtain ⟨_, e33, k33⟩ := K.dep 33 rfl rfl rfl;refine zb 49 (.bool false) rfl e33 ?_;exact zr rfl (zj rfl ⟨Below.refl _ _, Left.of rfl⟩)
   · intro vs X wq K;obtain ⟨_, e34, k34⟩ := K.dep 34 rfl rfl rfl;refine zb 50 (.int .i64 ((r : Nat) : Int)) rfl e34 ?_;obtain ⟨_, e33, k33⟩ := K.dep 33 rfl rfl rfl;refine zb 49 (.bool false) rfl e33 ?_;exact zr rfl (yp rfl rfl ⟨Below.refl _ _, Left.of ((by rw [decide_eq_false]; omega : (.bool (decide (((r : Nat) : Int) < 0)) : Value) = _))⟩)
   · intro vs X wq K;obtain ⟨_, e33, k33⟩ := K.dep 33 rfl rfl rfl;refine zb 49 (.bool false) rfl e33 ?_;obtain ⟨_, e35, k35⟩ := K.dep 35 rfl rfl rfl;refine zb 51 (.bool false) rfl e35 ?_;exact zh rfl rfl ⟨Below.refl _ _, Left.of rfl⟩
   · intro vs X wq K;obtain ⟨_, e36, k36⟩ := K.dep 36 rfl rfl rfl;refine zb 52 (.bool false) rfl e36 ?_;exact zj rfl ⟨Below.refl _ _, Left.of rfl⟩
   · intro vs X wq K;obtain ⟨_, e37, k37⟩ := K.dep 37 rfl rfl rfl;refine zb 53 (.bool false) rfl e37 ?_;exact zr rfl (zj rfl ⟨Below.refl _ _, Left.of rfl⟩)
   · intro vs X wq K;obtain ⟨_, e38, k38⟩ := K.dep 38 rfl rfl rfl;refine zb 54 (.int .i64 ((t : Nat) : Int)) rfl e38 ?_;obtain ⟨_, e37, k37⟩ := K.dep 37 rfl rfl rfl;refine zb 53 (.bool false) rfl e37 ?_;exact zr rfl (yy rfl rfl ⟨Below.refl _ _, Left.of ((by rw [decide_eq_false]; omega : (.bool (decide (1048576 < ((t : Nat) : Int))) : Value) = _))⟩)
   · intro vs X wq K;obtain ⟨_, e37, k37⟩ := K.dep 37 rfl rfl rfl;refine zb 53 (.bool false) rfl e37 ?_;obtain ⟨_, e39, k39⟩ := K.dep 39 rfl rfl rfl;refine zb 55 (.bool false) rfl e39 ?_;exact zh rfl rfl ⟨Below.refl _ _, Left.of rfl⟩
   · intro vs X wq K;obtain ⟨_, e40, k40⟩ := K.dep 40 rfl rfl rfl;refine zb 56 (.bool false) rfl e40 ?_;exact zj rfl ⟨Below.refl _ _, Left.of rfl⟩
   · intro vs X wq K;obtain ⟨_, e41, k41⟩ := K.dep 41 rfl rfl rfl;refine zb 57 (.bool false) rfl e41 ?_;exact zr rfl (zj rfl ⟨Below.refl _ _, Left.of rfl⟩)
   · intro vs X wq K;obtain ⟨_, e42, k42⟩ := K.dep 42 rfl rfl rfl;refine zb 58 (.int .i64 ((r : Nat) : Int)) rfl e42 ?_;obtain ⟨_, e41, k41⟩ := K.dep 41 rfl rfl rfl;refine zb 57 (.bool false) rfl e41 ?_;exact zr rfl (yy rfl rfl ⟨Below.refl _ _, Left.of ((by rw [decide_eq_false]; omega : (.bool (decide (1048576 < ((r : Nat) : Int))) : Value) = _))⟩)
   · intro vs X wq K;obtain ⟨_, e41, k41⟩ := K.dep 41 rfl rfl rfl;refine zb 57 (.bool false) rfl e41 ?_;obtain ⟨_, e43, k43⟩ := K.dep 43 rfl rfl rfl;refine zb 59 (.bool false) rfl e43 ?_;exact zh rfl rfl ⟨Below.refl _ _, Left.of rfl⟩
 intro vs w1 LE AO AL AF AA;have hbd : Below (w).heap.size (w) w1 := (((Ext.refl No (w)).drew).trans LE).toBelow;obtain ⟨_, e44, k44⟩ := AL.2.2.2.2.2.2.2.2.2.2.2.2.2.2.2.2.2.2.2.2.2.2.2.2.2.2.2.2.2.2.2.2.2.2.2.2.2.2.2.2.2.2.2.2.1;refine vb (τ := [(0, _), (1, _), (2, _), (3, _), (8, _), (9, _), (60, .bool false)]) ⟨rfl, rfl, rfl, rfl, rfl, rfl, congrArg some e44, trivial⟩ ?_;clear AL AF AA AO
 have E1 := Ext.of_below hbd No;obtain ⟨wu1, hwu1⟩ : ∃ wu1, wu1 = w1 := ⟨_, rfl⟩;subst hwu1;have hM1 := hM.ext E1 (fun h => h) (fun h => h);refine zi (zw rfl (zo (zi (srx (mvx rfl (za rfl (yg rfl rfl (zt (by omega)) (mvx rfl (za rfl (yg rfl rfl (zt (by omega)) (anx rfl (zm (zm ?_)))))))))))))
 refine vg (No) Mut.none_ [] [] (jx [Fx.of (.int .i64 ((2 + ((t : Nat) : Int)) + ((r : Nat) : Int))),
  Fx.of (.bool false),
  Fx.of (.bool false),
  Fx.of (.int .i64 ((2 + ((t : Nat) : Int)) + ((r : Nat) : Int))),
  Fx.of (.pointer (some ⟨gm, 0, none⟩)),
  Fx.of (.pointer (some ⟨gm, 0, none⟩)),
  Fx.of (.pointer (some ⟨gm, 0, none⟩)),
  Fx.of (.slice (some ⟨gW, 0, none⟩) W.length cap),
  Fx.of (.int .i64 (((W.length : Nat)) : Int)),
  Fx.of (.pointer (some ⟨gm, 0, none⟩)),
  Fx.of (.pointer (some ⟨gm, 0, none⟩)),
  Fx.of (.pointer (some ⟨gm, 1, none⟩)),
  Fx.of (.int .i64 ((top : Nat) : Int)),
  Fx.of (.int .i64 ((((W.length : Nat)) : Int) - ((top : Nat) : Int))),
  Fx.of (.bool true),
  Fx.of (.bool true)]) vo rfl trivial (fun _ h => by cases h) ?_ ?_
 · refine ⟨?_, ?_, ?_, ?_, ?_, ?_, ?_, ?_, ?_, ?_, ?_, ?_, ?_, ?_, ?_, ?_, trivial⟩
   · intro vs X wq K;exact zj rfl ⟨Below.refl _ _, Left.of rfl⟩
   · intro vs X wq K;obtain ⟨_, e0, k0⟩ := K.dep 0 rfl rfl rfl;refine zb 65 (.int .i64 ((2 + ((t : Nat) : Int)) + ((r : Nat) : Int))) rfl e0 ?_;exact jb rfl rfl ⟨Below.refl _ _, Left.of ((by rw [decide_eq_false]; omega : (.bool (decide (16777216 ≤ ((2 + ((t : Nat) : Int)) + ((r : Nat) : Int)))) : Value) = _))⟩
   · intro vs X wq K;obtain ⟨_, e1, k1⟩ := K.dep 1 rfl rfl rfl;refine zb 66 (.bool false) rfl e1 ?_;exact zj rfl ⟨Below.refl _ _, Left.of rfl⟩
   · intro vs X wq K;obtain ⟨_, e2, k2⟩ := K.dep 2 rfl rfl rfl;refine zb 67 (.bool false) rfl e2 ?_;exact zr rfl (zj rfl ⟨Below.refl _ _, Left.of rfl⟩)
   · intro vs X wq K;obtain ⟨_, e2, k2⟩ := K.dep 2 rfl rfl rfl;refine zb 67 (.bool false) rfl e2 ?_;exact zr rfl (zj rfl ⟨Below.refl _ _, Left.of rfl⟩)
   · intro vs X wq K;obtain ⟨_, e4, k4⟩ := K.dep 4 rfl rfl rfl;refine zb 69 (.pointer (some ⟨gm, 0, none⟩)) rfl e4 ?_;obtain ⟨_, e2, k2⟩ := K.dep 2 rfl rfl rfl;refine zb 67 (.bool false) rfl e2 ?_;exact zr rfl (yv rfl ⟨Below.refl _ _, Left.of rfl⟩)
   · intro vs X wq K;obtain ⟨_, e5, k5⟩ := K.dep 5 rfl rfl rfl;refine zb 70 (.pointer (some ⟨gm, 0, none⟩)) rfl e5 ?_;obtain ⟨_, e2, k2⟩ := K.dep 2 rfl rfl rfl;refine zb 67 (.bool false) rfl e2 ?_;exact zr rfl (zc Try.underlying24 rfl qy (by decide) rfl ⟨Below.refl _ _, Left.of rfl⟩)
   · intro vs X wq K;have LE := K.1;obtain ⟨_, e6, k6⟩ := K.dep 6 rfl rfl rfl;refine zb 71 (.pointer (some ⟨gm, 0, none⟩)) rfl e6 ?_;obtain ⟨_, e2, k2⟩ := K.dep 2 rfl rfl rfl;refine zb 67 (.bool false) rfl e2 ?_;exact zr rfl (ze Try.underlying22 rfl rfl (qe LE hM1.mb) rfl ⟨Below.refl _ _, Left.of rfl⟩)
   · intro vs X wq K;obtain ⟨_, e7, k7⟩ := K.dep 7 rfl rfl rfl;refine zb 72 (.slice (some ⟨gW, 0, none⟩) W.length cap) rfl e7 ?_;obtain ⟨_, e2, k2⟩ := K.dep 2 rfl rfl rfl;refine zb 67 (.bool false) rfl e2 ?_;exact zr rfl (yq Try.underlying22 rfl ⟨Below.refl _ _, Left.of rfl⟩)
   · intro vs X wq K;obtain ⟨_, e2, k2⟩ := K.dep 2 rfl rfl rfl;refine zb 67 (.bool false) rfl e2 ?_;exact zr rfl (zj rfl ⟨Below.refl _ _, Left.of rfl⟩)
   · intro vs X wq K;obtain ⟨_, e9, k9⟩ := K.dep 9 rfl rfl rfl;refine zb 74 (.pointer (some ⟨gm, 0, none⟩)) rfl e9 ?_;obtain ⟨_, e2, k2⟩ := K.dep 2 rfl rfl rfl;refine zb 67 (.bool false) rfl e2 ?_;exact zr rfl (yv rfl ⟨Below.refl _ _, Left.of rfl⟩)
   · intro vs X wq K;obtain ⟨_, e10, k10⟩ := K.dep 10 rfl rfl rfl;refine zb 75 (.pointer (some ⟨gm, 0, none⟩)) rfl e10 ?_;obtain ⟨_, e2, k2⟩ := K.dep 2 rfl rfl rfl;refine zb 67 (.bool false) rfl e2 ?_;exact zr rfl (zc Try.underlying24 rfl sz3 (by decide) rfl ⟨Below.refl _ _, Left.of rfl⟩)
   · intro vs X wq K;have LE := K.1;obtain ⟨_, e11, k11⟩ := K.dep 11 rfl rfl rfl;refine zb 76 (.pointer (some ⟨gm, 1, none⟩)) rfl e11 ?_;obtain ⟨_, e2, k2⟩ := K.dep 2 rfl rfl rfl;refine zb 67 (.bool false) rfl e2 ?_;exact zr rfl (ze Try.underlying3 rfl rfl (qe LE hM1.mb) rfl ⟨Below.refl _ _, Left.of rfl⟩)
   · intro vs X wq K;obtain ⟨_, e8, k8⟩ := K.dep 8 rfl rfl rfl;refine zb 73 (.int .i64 (((W.length : Nat)) : Int)) rfl e8 ?_;obtain ⟨_, e12, k12⟩ := K.dep 12 rfl rfl rfl;refine zb 77 (.int .i64 ((top : Nat) : Int)) rfl e12 ?_;obtain ⟨_, e2, k2⟩ := K.dep 2 rfl rfl rfl;refine zb 67 (.bool false) rfl e2 ?_
     exact zr rfl (vu rfl rfl (zt (by omega)) ⟨Below.refl _ _, Left.of rfl⟩)
   · intro vs X wq K;obtain ⟨_, e3, k3⟩ := K.dep 3 rfl rfl rfl;refine zb 68 (.int .i64 ((2 + ((t : Nat) : Int)) + ((r : Nat) : Int))) rfl e3 ?_;obtain ⟨_, e13, k13⟩ := K.dep 13 rfl rfl rfl;refine zb 78 (.int .i64 ((((W.length : Nat)) : Int) - ((top : Nat) : Int))) rfl e13 ?_;obtain ⟨_, e2, k2⟩ := K.dep 2 rfl rfl rfl;refine zb 67 (.bool false) rfl e2 ?_
     exact zr rfl (yy rfl rfl ⟨Below.refl _ _, Left.of ((by rw [decide_eq_true]; omega : (.bool (decide (((((W.length : Nat)) : Int) - ((top : Nat) : Int)) < ((2 + ((t : Nat) : Int)) + ((r : Nat) : Int)))) : Value) = _))⟩)
   · intro vs X wq K;obtain ⟨_, e2, k2⟩ := K.dep 2 rfl rfl rfl;refine zb 67 (.bool false) rfl e2 ?_;obtain ⟨_, e14, k14⟩ := K.dep 14 rfl rfl rfl;refine zb 79 (.bool true) rfl e14 ?_;exact zh rfl rfl ⟨Below.refl _ _, Left.of rfl⟩
 intro vs w2 LE AO AL AF AA;have hbd : Below (wu1).heap.size (wu1) w2 := (((Ext.refl No (wu1)).drew).trans LE).toBelow;obtain ⟨_, e15, k15⟩ := AL.2.2.2.2.2.2.2.2.2.2.2.2.2.2.2.1;refine vb (τ := [(0, _), (1, _), (2, _), (8, _), (9, _), (10, _), (80, .bool true)]) ⟨rfl, rfl, rfl, rfl, rfl, rfl, congrArg some e15, trivial⟩ ?_;clear AL AF AA AO
 refine zi (yd rfl (srx (avx rfl (anx rfl (zl (zf (zk (rs := [.tmp 8, .tmp 9]) (vs := [_, _]) rfl ⟨rfl, rfl, trivial⟩ ?_)))))));exact ⟨rfl, (E1.trans (Ext.of_below hbd No)).toBelow⟩
end
end Go.Proofs.Ytjhmifebmplahaa
namespace Go.Proofs.Ytjhmifebmplahaa
open Go.RowKit
set_option maxRecDepth 100000
theorem laid_set {W : List Nat} {top k i x : Nat} {tg raw : List Nat} (h : top + (2 + tg.length + raw.length) ≤ W.length) (hi : i < tg.length) : (laid W top k tg raw).set (top + 2 + i) x = laid W top k (tg.set i x) raw := by
 have h' : top + (2 + (tg.set i x).length + raw.length) ≤ W.length := by rw [List.length_set]; exact h
 apply List.ext_getElem?
 intro j;rw [List.getElem?_set, jq h', jq h, vi h, List.length_set];by_cases e : top + 2 + i = j
 · subst e;rw [if_pos rfl, if_pos (by omega), if_neg (by omega), if_pos (by omega), show top + 2 + i - top = i + 1 + 1 by omega, List.getElem?_cons_succ, List.getElem?_cons_succ, List.getElem?_append_left (by rw [List.length_set]; exact hi), List.getElem?_set_self hi]
 · rw [if_neg e];split
   · rfl
   · split
     · obtain ⟨m, rfl⟩ : ∃ m, j = top + m := ⟨j - top, by omega⟩;rw [show top + m - top = m by omega];match m with
       | 0 => rfl
       | 1 => rfl
       | m + 2 =>
        rw [List.getElem?_cons_succ, List.getElem?_cons_succ, List.getElem?_cons_succ, List.getElem?_cons_succ];by_cases e2 : m < tg.length
        · rw [List.getElem?_append_left e2, List.getElem?_append_left (by rw [List.length_set]; exact e2), List.getElem?_set_ne (by omega)]
        · rw [List.getElem?_append_right (by omega), List.getElem?_append_right (by rw [List.length_set]; omega), List.length_set]
     · rfl
theorem laid_setR {W : List Nat} {top k i x : Nat} {tg raw : List Nat} (h : top + (2 + tg.length + raw.length) ≤ W.length) (hi : i < raw.length) : (laid W top k tg raw).set (top + 2 + (tg.length + i)) x = laid W top k tg (raw.set i x) := by
 have h' : top + (2 + tg.length + (raw.set i x).length) ≤ W.length := by rw [List.length_set]; exact h
 apply List.ext_getElem?
 intro j;rw [List.getElem?_set, jq h', jq h, vi h, List.length_set];by_cases e : top + 2 + (tg.length + i) = j
 · subst e;rw [if_pos rfl, if_pos (by omega), if_neg (by omega), if_pos (by omega), show top + 2 + (tg.length + i) - top = tg.length + i + 1 + 1 by omega, List.getElem?_cons_succ, List.getElem?_cons_succ, List.getElem?_append_right (by omega), show tg.length + i - tg.length = i by omega, List.getElem?_set_self hi]
 · rw [if_neg e];split
   · rfl
   · split
     · obtain ⟨m, rfl⟩ : ∃ m, j = top + m := ⟨j - top, by omega⟩;rw [show top + m - top = m by omega];match m with
       | 0 => rfl
       | 1 => rfl
       | m + 2 =>
        rw [List.getElem?_cons_succ, List.getElem?_cons_succ, List.getElem?_cons_succ, List.getElem?_cons_succ];by_cases e2 : m < tg.length
        · rw [List.getElem?_append_left e2, List.getElem?_append_left e2]
        · rw [List.getElem?_append_right (by omega), List.getElem?_append_right (by omega), List.getElem?_set_ne (by omega)]
     · rfl
def qa (T : List Nat) (v i : Nat) : List Nat := T.take i ++ List.replicate (T.length - i) v
theorem jc {T : List Nat} {v i : Nat} (hi : i ≤ T.length) : (qa T v i).length = T.length := by unfold qa; rw [List.length_append, List.length_take, List.length_replicate]; omega
theorem zbq (T : List Nat) (v : Nat) : qa T v 0 = List.replicate T.length v := by unfold qa; simp
theorem ko (T : List Nat) (v : Nat) : qa T v T.length = T := by unfold qa; simp
theorem km {T : List Nat} {v i x : Nat} (h : T[i]? = some x) : (qa T v i).set i x = qa T v (i + 1) := by
 have hi := (List.getElem?_eq_some_iff.1 h).1;unfold qa;rw [List.set_append_right _ _ (by rw [List.length_take]; omega), List.length_take, show i - min i T.length = 0 by omega, show T.length - i = (T.length - (i + 1)) + 1 by omega, List.replicate_succ, List.set_cons_zero, List.take_add_one, h];simp
end Go.Proofs.Ytjhmifebmplahaa
namespace Go.Proofs.Ytjhmifebmplahaa
open Go.RowKit
set_option maxRecDepth 100000
attribute [local irreducible] OW RS
theorem addr_any (w : World) (a : Nat) (h1 : 1 ≤ a) (h2 : a < 1048576) : Calls Try.prog 54 #[.int .i64 ((a : Nat) : Int)] w fun e w' => e = .returned (.tuple #[.int .u64 ((4 * a : Nat) : Int), .int .i64 0]) ∧ Below w.heap.size w w' := by
 refine yc Try.func54 rfl Try.ntmps54 rfl (srx (avx rfl (anx rfl (zm (srx (mvx rfl (za rfl (yp rfl rfl (zq 5 (.bool false) rfl ((by rw [decide_eq_false]; omega : (.bool (decide (((a : Nat) : Int) < 1)) : Value) = _)) (mvx rfl (onx rfl (zj rfl (onx rfl (jb rfl rfl (zq 8 (.bool false) rfl ((by rw [decide_eq_false]; omega : (.bool (decide ((1048576 : Int) ≤ ((a : Nat) : Int))) : Value) = _)) (za rfl (zh rfl rfl (rnx (zw rfl (zo (zi (srx (mvx rfl (za rfl (qc Try.underlying27 Try.underlying3 rfl (yi (by omega)) (za rfl (xf rfl rfl (by decide) (shl_O (x := a) (k := 2) (by decide) (by omega)) (zq 12 (.int .u64 ((4 * a : Nat) : Int)) rfl ((by congr 1; omega : (.int .u64 ((a * 2 ^ 2 : Nat) : Int) : Value) = _)) (avx rfl (anx rfl (zl (zk (rs := [.tmp 2, .tmp 3]) (vs := [_, _]) rfl ⟨rfl, rfl, trivial⟩ ?_))))))))))))))))))))))))))))))))
 exact ⟨rfl, Below.refl _ _⟩
section
variable (lo gm gW cap top k c d n : Nat) (w : World) (W T R : List Nat) (B C : Option Addr) (hM : OwnM lo w gm gW cap W top) (hk : 1 ≤ k ∧ k < 256) (ht : T.length ≤ 1048576) (hr : R.length ≤ 1048576) (hmW : gm ≠ gW) (hT : ∀ z, Ext (Mut [some gm, some gW]) w z → WordsA n z B T) (hR : ∀ z, Ext (Mut [some gm, some gW]) w z → WordsA n z C R) (hg : ∀ x ∈ T, qp x ≠ 3)
include hM hk ht hr hmW hT hR hg
theorem gg (hz : ∀ i, top ≤ i → wat W i = 0) (hf : top + (2 + T.length + R.length) ≤ W.length) : Calls Try.prog 32 #[.pointer (some ⟨gm, 0, none⟩), .int .i64 ((k : Nat) : Int), .slice B T.length c, .slice C R.length d] w fun e w' => e = .returned (.tuple #[.int .u64 ((4 * top : Nat) : Int), .int .i64 0]) ∧ OwnM lo w' gm gW cap (laid W top k T R) (top + (2 + T.length + R.length)) ∧ Ext (Mut [some gm, some gW]) w w' := by
 have h1 := hM.one;have h3 := hM.len;have h4 := hM.most;have hXw : ∀ q, Mut [some gW] q → Mut [some gm, some gW] q := fun q hq => Or.inr (Or.inl (by rw [yx hq]));have hlT : ∀ i, i ≤ T.length → top + (2 + (qa T 2 i).length + (List.replicate R.length 0).length) ≤ W.length := fun i hi => by rw [jc hi, List.length_replicate]; exact hf
 have hlR : ∀ i, i ≤ R.length → top + (2 + T.length + (qa R 0 i).length) ≤ W.length := fun i hi => by rw [jc hi]; exact hf
 refine yc Try.func32 rfl Try.ntmps32 rfl (srx (avx rfl (anx rfl (srx (mvx rfl (mvx rfl (mvx rfl (za rfl (yq Try.underlying22 rfl (mvx rfl (za rfl (yq Try.underlying22 rfl (za rfl (zp en52 rfl ((aalloc_ok lo gm gW cap top k T.length R.length _ W hM hk ht hr hmW hz hf).mono ?_)))))))))))))));rintro e w1 ⟨rfl, hMA, hEA⟩;refine ⟨_, rfl, ?_⟩;rw [← zbq T 2] at hMA
 refine mvx rfl (za rfl (zg rfl rfl (za rfl (zg rfl rfl (avx rfl (anx rfl (zm (srx (mvx rfl (za rfl (yw rfl rfl (rnx (zw rfl (zo (zi (zm (srx (mvx rfl (za rfl (yq Try.underlying22 rfl (mvx rfl (rnx (yk (vd (ι := Nat) (fun i => [(0, .pointer (some ⟨gm, 0, none⟩)), (2, .slice B T.length c), (3, .slice C R.length d), (10, .int .i64 ((top : Nat) : Int)), (29, .slice B T.length c), (30, .int .i64 ((T.length : Nat) : Int)), (31, .int .i64 ((i : Nat) : Int))]) (fun i w' => i ≤ T.length ∧ OwnM lo w' gm gW cap (laid W top k (qa T 2 i) (List.replicate R.length 0)) (top + (2 + T.length + R.length)) ∧ Ext (Mut [some gm, some gW]) w w') (fun i => T.length - i) 0 ⟨rfl, rfl, rfl, rfl, rfl, rfl, rfl, trivial⟩ (⟨Nat.zero_le _, hMA, hEA⟩) ?_))))))))))))))))))))))))
 rintro i w3 ⟨hi0, hMi, hEi⟩;refine srx (za rfl (yp rfl rfl (rnx (zm (yl rfl (fun hc => ?_) (fun hc => ?_))))))
 ·
  have hc := of_decide_eq_true hc;have hlt : i < T.length := by omega
  obtain ⟨x, hx⟩ : ∃ x, T[i]? = some x := ⟨_, List.getElem?_eq_getElem hlt⟩;have hxm := List.mem_of_getElem? hx;obtain ⟨g, o, hB, hgb, hcx⟩ := (hT _ hEi).cell hx;have hLi := hlT i hi0;have hpl := jc (v := 2) hi0;have hhd : wat (laid W top k (qa T 2 i) (List.replicate R.length 0)) top = qx k T.length (2 + T.length + R.length) := by rw [ou hLi, hpl, List.length_replicate]
  have hS : Seen (laid W top k (qa T 2 i) (List.replicate R.length 0)) (top + (2 + T.length + R.length)) top := ⟨h1, by omega, by rw [vi hLi]; omega, by rw [hhd, hkind_of hk.2]; omega, by rw [hhd, zlq hk.2 (by omega), kc hk.2 (by omega) (by omega)]; omega, by rw [hhd, kc hk.2 (by omega) (by omega)]; omega⟩
  refine zo (zi (zm (yk (srx (mvx rfl (za rfl (zx (j := i) Try.underlying22 qk (congrArg (fun z ↦ some (Value.slice z T.length c)) hB) rfl rfl hlt (za rfl (qo Try.underlying27 rfl rfl hcx (avx rfl (anx rfl (yh (mvx rfl (mvx rfl (mvx rfl (mvx rfl (za rfl (zp en53 rfl ((aset_any lo gm gW cap _ top i x _ _ hMi hS (by rw [hhd, kc hk.2 (by omega) (by omega)]; omega) ((hT _ hEi).in_ x hxm) (fun _ => hg x hxm)).mono ?_)))))))))))))))))))
  rintro e w4 ⟨rfl, hMS, hES⟩;refine ⟨_, rfl, (qi (zv (zi (yh (za rfl (yg rfl rfl (zt (by omega)) (mvx rfl (qi ?_))))))))⟩
  exact qr (i + 1) (by show T.length - (i + 1) < T.length - i; omega) ⟨rfl, rfl, rfl, rfl, rfl, rfl, rfl, trivial⟩ (⟨hlt, by rw [laid_set hLi (by rw [hpl]; exact hlt), km hx] at hMS; exact hMS, hEi.step hES (fun q hq => Or.inl (hXw q hq))⟩)
 ·
  have hc := of_decide_eq_false hc;have hie : i = T.length := by omega
  rw [hie, ko, ← zbq R 0] at hMi
  refine ve (zy (zy (yu (zi (zm (srx (mvx rfl (za rfl (yq Try.underlying22 rfl (mvx rfl (rnx (yk (vd (ι := Nat) (fun j => [(0, .pointer (some ⟨gm, 0, none⟩)), (2, .slice B T.length c), (10, .int .i64 ((top : Nat) : Int)), (42, .slice C R.length d), (43, .int .i64 ((R.length : Nat) : Int)), (44, .int .i64 ((j : Nat) : Int))]) (fun j w' => j ≤ R.length ∧ OwnM lo w' gm gW cap (laid W top k T (qa R 0 j)) (top + (2 + T.length + R.length)) ∧ Ext (Mut [some gm, some gW]) w w') (fun j => R.length - j) 0 ⟨rfl, rfl, rfl, rfl, rfl, rfl, trivial⟩ (⟨Nat.zero_le _, hMi, hEi⟩) ?_)))))))))))))
  rintro j w6 ⟨hj0, hMj, hEj⟩;refine srx (za rfl (yp rfl rfl (rnx (zm (yl rfl (fun hc2 => ?_) (fun hc2 => ?_))))))
  ·
   have hc2 := of_decide_eq_true hc2;have hlt : j < R.length := by omega
   obtain ⟨x, hx⟩ : ∃ x, R[j]? = some x := ⟨_, List.getElem?_eq_getElem hlt⟩;have hxm := List.mem_of_getElem? hx;obtain ⟨g, o, hB, hgb, hcx⟩ := (hR _ hEj).cell hx;have hLj := hlR j hj0;have hpl := jc (v := 0) hj0;have hhd : wat (laid W top k T (qa R 0 j)) top = qx k T.length (2 + T.length + R.length) := by rw [ou hLj, hpl]
   have hS : Seen (laid W top k T (qa R 0 j)) (top + (2 + T.length + R.length)) top := ⟨h1, by omega, by rw [vi hLj]; omega, by rw [hhd, hkind_of hk.2]; omega, by rw [hhd, zlq hk.2 (by omega), kc hk.2 (by omega) (by omega)]; omega, by rw [hhd, kc hk.2 (by omega) (by omega)]; omega⟩
   refine zo (zi (zm (yk (srx (mvx rfl (za rfl (zx (j := j) Try.underlying22 qk (congrArg (fun z ↦ some (Value.slice z R.length d)) hB) rfl rfl hlt (za rfl (qo Try.underlying27 rfl rfl hcx (avx rfl (anx rfl (yh (mvx rfl (mvx rfl (mvx rfl (za rfl (yq Try.underlying22 rfl (mvx rfl (za rfl (yg rfl rfl (zt (by omega)) (mvx rfl (zq 54 (.int .i64 ((T.length + j : Nat) : Int)) rfl ((by first | rfl | (congr 1; omega) : (.int .i64 ((((T.length : Nat)) : Int) + ((j : Nat) : Int)) : Value) = _)) (za rfl (zp en53 rfl ((aset_any lo gm gW cap _ top (T.length + j) x _ _ hMj hS (by rw [hhd, kc hk.2 (by omega) (by omega)]; omega) ((hR _ hEj).in_ x hxm) (fun h => by rw [hhd, zlq hk.2 (by omega)] at h; omega)).mono ?_)))))))))))))))))))))))))
   rintro e w7 ⟨rfl, hMS, hES⟩;refine ⟨_, rfl, (qi (zv (zi (yh (za rfl (yg rfl rfl (zt (by omega)) (mvx rfl (qi ?_))))))))⟩
   exact qr (j + 1) (by show R.length - (j + 1) < R.length - j; omega) ⟨rfl, rfl, rfl, rfl, rfl, rfl, trivial⟩ (⟨hlt, by rw [laid_setR hLj (by rw [hpl]; exact hlt), km hx] at hMS; exact hMS, hEj.step hES (fun q hq => Or.inl (hXw q hq))⟩)
  ·
   have hc2 := of_decide_eq_false hc2;have hje : j = R.length := by omega
   rw [hje, ko] at hMj;refine ve (zy (zy (yu (zi (srx (mvx rfl (za rfl (zp en54 rfl ((addr_any _ top h1 (by omega)).mono ?_)))))))));rintro e w8 ⟨rfl, hb⟩;refine ⟨_, rfl, ?_⟩;have EZ := Ext.of_below hb No
   refine za rfl (zg rfl rfl (za rfl (zg rfl rfl (avx rfl (anx rfl (zl (zk (rs := [.tmp 8, .tmp 9]) (vs := [_, _]) rfl ⟨rfl, rfl, trivial⟩ ?_)))))));exact ⟨rfl, hMj.ext EZ (fun h => h) (fun h => h), hEj.step EZ (fun _ h => h.elim)⟩
theorem xh (hf : W.length < top + (2 + T.length + R.length)) : Calls Try.prog 32 #[.pointer (some ⟨gm, 0, none⟩), .int .i64 ((k : Nat) : Int), .slice B T.length c, .slice C R.length d] w fun e w' => e = .returned (.tuple #[.int .u64 0, .int .i64 5]) ∧ Below w.heap.size w w' := by
 have _ := hT;have _ := hR;have _ := hg;refine yc Try.func32 rfl Try.ntmps32 rfl (srx (avx rfl (anx rfl (srx (mvx rfl (mvx rfl (mvx rfl (za rfl (yq Try.underlying22 rfl (mvx rfl (za rfl (yq Try.underlying22 rfl (za rfl (zp en52 rfl ((aalloc_full lo gm gW cap top k T.length R.length _ W hM hk ht hr hmW hf).mono ?_)))))))))))))));rintro e w1 ⟨rfl, hb⟩
 refine ⟨_, rfl, (mvx rfl (za rfl (zg rfl rfl (za rfl (zg rfl rfl (avx rfl (anx rfl (zm (srx (mvx rfl (za rfl (yw rfl rfl (rnx (yd rfl (srx (mvx rfl (avx rfl (anx rfl (zl (zf (zk (rs := [.tmp 8, .tmp 9]) (vs := [_, _]) rfl ⟨rfl, rfl, trivial⟩ ?_)))))))))))))))))))))⟩;exact ⟨rfl, hb⟩
end
end Go.Proofs.Ytjhmifebmplahaa
namespace Go.Proofs.Ytjhmifebmplahaa
open Go.RowKit
set_option maxRecDepth 100000
attribute [local irreducible] OW RS
theorem same_words (w : World) (A A' : Option Addr) (c c' n n' : Nat) (xs : List Nat) (h : WordsA n w A xs) (h' : WordsA n' w A' xs) : Calls Try.prog 18 #[.slice A xs.length c, .slice A' xs.length c'] w fun e w' => e = .returned (.bool true) ∧ Below w.heap.size w w' := by
 obtain ⟨w0, hw0⟩ : ∃ w0, w0 = w := ⟨_, rfl⟩;have hlen := h.len
 refine yc Try.func18 rfl Try.ntmps18 rfl (srx (anx rfl (zm (srx (mvx rfl (za rfl (yq Try.underlying22 rfl (mvx rfl (za rfl (yq Try.underlying22 rfl (za rfl (yw rfl rfl (rnx (ye 10 (.bool false) rfl ((by rw [bne_self_eq_false] : (.bool ((((xs.length : Nat)) : Int) != (((xs.length : Nat)) : Int)) : Value) = _)) (zw rfl (zo (zi (zm (srx (anx rfl (yk (vd (ι := Nat) (fun i => [(0, .slice A xs.length c), (1, .slice A' xs.length c'), (5, .int .i64 ((i : Nat) : Int))]) (fun i w' => i ≤ xs.length ∧ Ext No w0 w') (fun i => xs.length - i) 0 ⟨rfl, rfl, rfl, trivial⟩ (⟨Nat.zero_le _, by rw [hw0]; exact Ext.refl _ _⟩) ?_))))))))))))))))))))))
 rintro i w2 ⟨hi0, hEi⟩;refine zm (srx (mvx rfl (mvx rfl (za rfl (yq Try.underlying22 rfl (za rfl (yp rfl rfl (rnx (yl rfl (fun hi => ?_) (fun hi => ?_))))))))))
 ·
  have hi := of_decide_eq_true hi;have hil : i < xs.length := by omega
  obtain ⟨x, hx⟩ : ∃ x, xs[i]? = some x := ⟨_, List.getElem?_eq_getElem hil⟩;rw [hw0] at hEi;obtain ⟨g, o, hA, hg, hc⟩ := (h.no hEi).cell hx;obtain ⟨g', o', hA', hg', hc'⟩ := (h'.no hEi).cell hx;refine zo (zi (zm (yk (zm ?_))));refine vg (No) Mut.none_ [] [] (jx [Fx.of (.slice A xs.length c),
   Fx.of (.int .i64 ((i : Nat) : Int)),
   Fx.of (.pointer (some ⟨g, o + i, none⟩)),
   Fx.of (.int .u64 ((x : Nat) : Int)),
   Fx.of (.slice A' xs.length c'),
   Fx.of (.int .i64 ((i : Nat) : Int)),
   Fx.of (.pointer (some ⟨g', o' + i, none⟩)),
   Fx.of (.int .u64 ((x : Nat) : Int)),
   Fx.of (.bool false)]) vo rfl trivial (fun _ h => by cases h) ?_ ?_
  · refine ⟨?_, ?_, ?_, ?_, ?_, ?_, ?_, ?_, ?_, trivial⟩
    · intro vs X wq K;exact zj rfl ⟨Below.refl _ _, Left.of rfl⟩
    · intro vs X wq K;exact zj rfl ⟨Below.refl _ _, Left.of rfl⟩
    · intro vs X wq K;obtain ⟨_, e0, k0⟩ := K.dep 0 rfl rfl rfl;refine zb 17 (.slice A xs.length c) rfl e0 ?_;obtain ⟨_, e1, k1⟩ := K.dep 1 rfl rfl rfl;refine zb 18 (.int .i64 ((i : Nat) : Int)) rfl e1 ?_;exact zx (j := i) Try.underlying22 qk (congrArg (fun z ↦ some (Value.slice z xs.length c)) hA) rfl rfl hil ⟨Below.refl _ _, Left.of rfl⟩
    · intro vs X wq K;have LE := K.1;obtain ⟨_, e2, k2⟩ := K.dep 2 rfl rfl rfl;refine zb 19 (.pointer (some ⟨g, o + i, none⟩)) rfl e2 ?_;exact qo Try.underlying27 rfl rfl (cell_z LE (fun h ↦ h) hc) ⟨Below.refl _ _, Left.of rfl⟩
    · intro vs X wq K;exact zj rfl ⟨Below.refl _ _, Left.of rfl⟩
    · intro vs X wq K;exact zj rfl ⟨Below.refl _ _, Left.of rfl⟩
    · intro vs X wq K;obtain ⟨_, e4, k4⟩ := K.dep 4 rfl rfl rfl;refine zb 21 (.slice A' xs.length c') rfl e4 ?_;obtain ⟨_, e5, k5⟩ := K.dep 5 rfl rfl rfl;refine zb 22 (.int .i64 ((i : Nat) : Int)) rfl e5 ?_;exact zx (j := i) Try.underlying22 qk (congrArg (fun z ↦ some (Value.slice z xs.length c')) hA') rfl rfl hil ⟨Below.refl _ _, Left.of rfl⟩
    · intro vs X wq K;have LE := K.1;obtain ⟨_, e6, k6⟩ := K.dep 6 rfl rfl rfl;refine zb 23 (.pointer (some ⟨g', o' + i, none⟩)) rfl e6 ?_;exact qo Try.underlying27 rfl rfl (cell_z LE (fun h ↦ h) hc') ⟨Below.refl _ _, Left.of rfl⟩
    · intro vs X wq K;obtain ⟨_, e3, k3⟩ := K.dep 3 rfl rfl rfl;refine zb 20 (.int .u64 ((x : Nat) : Int)) rfl e3 ?_;obtain ⟨_, e7, k7⟩ := K.dep 7 rfl rfl rfl;refine zb 24 (.int .u64 ((x : Nat) : Int)) rfl e7 ?_;exact yw rfl rfl ⟨Below.refl _ _, Left.of ((by rw [bne_self_eq_false] : (.bool (((x : Nat) : Int) != ((x : Nat) : Int)) : Value) = _))⟩
  intro vs w3 LE AO AL AF AA;have hbd : Below (w2).heap.size (w2) w3 := (((Ext.refl No (w2)).drew).trans LE).toBelow;obtain ⟨_, e8, k8⟩ := AL.2.2.2.2.2.2.2.2.1;refine vb (τ := [(0, _), (1, _), (5, _), (25, .bool false)]) ⟨rfl, rfl, rfl, congrArg some e8, trivial⟩ ?_;clear AL AF AA AO
  refine zi (zw rfl (zo (zv (zi (yh (mvx rfl (za rfl (yg rfl rfl (zt (by omega)) (avx rfl (qi ?_))))))))));exact qr (i + 1) (by show xs.length - (i + 1) < xs.length - i; omega) ⟨rfl, rfl, rfl, trivial⟩ (⟨hil, by rw [hw0]; exact hEi.trans (Ext.of_below hbd No)⟩)
 ·
  refine ve (zy (zy (yu (zi (srx (anx rfl (zl (zk (rs := [.tmp 4]) (vs := [_]) rfl ⟨rfl, trivial⟩ ?_))))))));exact ⟨rfl, by rw [hw0] at hEi; exact hEi.toBelow⟩
section
variable (lo gm gW cap top c n : Nat) (w : World) (W T : List Nat) (B : Option Addr) (l : List Nat) (hM : OwnM lo w gm gW cap W top) (hF : FormL W top l) (hmW : gm ≠ gW) (hT : ∀ z, Ext (Mut [some gm, some gW]) w z → WordsA n z B T) (hn : n ≤ w.heap.size) (hg : ∀ x ∈ T, WordOk l x)
include hM hF hmW hT hn hg
end
end Go.Proofs.Ytjhmifebmplahaa
namespace Go.Proofs.Ytjhmifebmplahaa
open Go.RowKit
set_option maxRecDepth 100000
attribute [local irreducible] OW RS
theorem oroom_any (lo gm gW cap top j : Nat) (w : World) (W : List Nat) (hM : OwnM lo w gm gW cap W top) : Calls Try.prog 41 #[.pointer (some ⟨gm, 0, none⟩), .int .i64 ((j : Nat) : Int)] w fun e w' => e = .returned (.bool (decide (top + j ≤ W.length))) ∧ Below w.heap.size w w' := by
 have h3 := hM.len;have h4 := hM.most;refine yc Try.func41 rfl Try.ntmps41 rfl (srx (anx rfl (zm ?_)));refine vg (No) Mut.none_ [] [] (jx [Fx.of (.int .i64 ((j : Nat) : Int)),
  Fx.of (.pointer (some ⟨gm, 0, none⟩)),
  Fx.of (.pointer (some ⟨gm, 0, none⟩)),
  Fx.of (.pointer (some ⟨gm, 0, none⟩)),
  Fx.of (.slice (some ⟨gW, 0, none⟩) W.length cap),
  Fx.of (.int .i64 (((W.length : Nat)) : Int)),
  Fx.of (.pointer (some ⟨gm, 0, none⟩)),
  Fx.of (.pointer (some ⟨gm, 0, none⟩)),
  Fx.of (.pointer (some ⟨gm, 1, none⟩)),
  Fx.of (.int .i64 ((top : Nat) : Int)),
  Fx.of (.int .i64 ((((W.length : Nat)) : Int) - ((top : Nat) : Int))),
  Fx.of (.bool (decide (top + j ≤ W.length))),
  Fx.of (.bool (decide (top + j ≤ W.length)))]) vo rfl trivial (fun _ h => by cases h) ?_ ?_
 · refine ⟨?_, ?_, ?_, ?_, ?_, ?_, ?_, ?_, ?_, ?_, ?_, ?_, ?_, trivial⟩
   · intro vs X wq K;exact zj rfl ⟨Below.refl _ _, Left.of rfl⟩
   · intro vs X wq K;exact zj rfl ⟨Below.refl _ _, Left.of rfl⟩
   · intro vs X wq K;obtain ⟨_, e1, k1⟩ := K.dep 1 rfl rfl rfl;refine zb 6 (.pointer (some ⟨gm, 0, none⟩)) rfl e1 ?_;exact yv rfl ⟨Below.refl _ _, Left.of rfl⟩
   · intro vs X wq K;obtain ⟨_, e2, k2⟩ := K.dep 2 rfl rfl rfl;refine zb 7 (.pointer (some ⟨gm, 0, none⟩)) rfl e2 ?_;exact zc Try.underlying24 rfl qy (by decide) rfl ⟨Below.refl _ _, Left.of rfl⟩
   · intro vs X wq K;have LE := K.1;obtain ⟨_, e3, k3⟩ := K.dep 3 rfl rfl rfl;refine zb 8 (.pointer (some ⟨gm, 0, none⟩)) rfl e3 ?_;exact ze Try.underlying22 rfl rfl (qe LE hM.mb) rfl ⟨Below.refl _ _, Left.of rfl⟩
   · intro vs X wq K;obtain ⟨_, e4, k4⟩ := K.dep 4 rfl rfl rfl;refine zb 9 (.slice (some ⟨gW, 0, none⟩) W.length cap) rfl e4 ?_;exact yq Try.underlying22 rfl ⟨Below.refl _ _, Left.of rfl⟩
   · intro vs X wq K;exact zj rfl ⟨Below.refl _ _, Left.of rfl⟩
   · intro vs X wq K;obtain ⟨_, e6, k6⟩ := K.dep 6 rfl rfl rfl;refine zb 11 (.pointer (some ⟨gm, 0, none⟩)) rfl e6 ?_;exact yv rfl ⟨Below.refl _ _, Left.of rfl⟩
   · intro vs X wq K;obtain ⟨_, e7, k7⟩ := K.dep 7 rfl rfl rfl;refine zb 12 (.pointer (some ⟨gm, 0, none⟩)) rfl e7 ?_;exact zc Try.underlying24 rfl sz3 (by decide) rfl ⟨Below.refl _ _, Left.of rfl⟩
   · intro vs X wq K;have LE := K.1;obtain ⟨_, e8, k8⟩ := K.dep 8 rfl rfl rfl;refine zb 13 (.pointer (some ⟨gm, 1, none⟩)) rfl e8 ?_;exact ze Try.underlying3 rfl rfl (qe LE hM.mb) rfl ⟨Below.refl _ _, Left.of rfl⟩
   · intro vs X wq K;obtain ⟨_, e5, k5⟩ := K.dep 5 rfl rfl rfl;refine zb 10 (.int .i64 (((W.length : Nat)) : Int)) rfl e5 ?_;obtain ⟨_, e9, k9⟩ := K.dep 9 rfl rfl rfl;refine zb 14 (.int .i64 ((top : Nat) : Int)) rfl e9 ?_;exact vu rfl rfl (zt (by omega)) ⟨Below.refl _ _, Left.of rfl⟩
   · intro vs X wq K;obtain ⟨_, e0, k0⟩ := K.dep 0 rfl rfl rfl;refine zb 5 (.int .i64 ((j : Nat) : Int)) rfl e0 ?_;obtain ⟨_, e10, k10⟩ := K.dep 10 rfl rfl rfl;refine zb 15 (.int .i64 ((((W.length : Nat)) : Int) - ((top : Nat) : Int))) rfl e10 ?_
     exact jk rfl rfl ⟨Below.refl _ _, Left.of ((by congr 1; rw [decide_eq_decide]; omega : (.bool (decide (((j : Nat) : Int) ≤ ((((W.length : Nat)) : Int) - ((top : Nat) : Int)))) : Value) = _))⟩
   · intro vs X wq K;obtain ⟨_, e11, k11⟩ := K.dep 11 rfl rfl rfl;refine zb 16 (.bool (decide (top + j ≤ W.length))) rfl e11 ?_;exact qu rfl ⟨Below.refl _ _, Left.of rfl⟩
 intro vs w1 LE AO AL AF AA;have hbd : Below (w).heap.size (w) w1 := (((Ext.refl No (w)).drew).trans LE).toBelow;obtain ⟨_, e12, k12⟩ := AL.2.2.2.2.2.2.2.2.2.2.2.2.1;refine vb (τ := [(4, .bool (decide (top + j ≤ W.length)))]) ⟨congrArg some e12, trivial⟩ ?_;clear AL AF AA AO;refine zi (zl (zk (rs := [.tmp 4]) (vs := [_]) rfl ⟨rfl, trivial⟩ ?_));exact ⟨rfl, hbd⟩
theorem small_any (w : World) (n : Nat) (hn : n ≤ 20000) : Calls Try.prog 36 #[.int .i64 ((n : Nat) : Int)] w fun e w' => e = .returned (.tuple #[.int .u64 ((4 * n + 1 : Nat) : Int), .int .i64 0]) ∧ Below w.heap.size w w' := by
 refine yc Try.func36 rfl Try.ntmps36 rfl (srx (avx rfl (anx rfl (zm (srx (mvx rfl (za rfl (yp rfl rfl (zq 5 (.bool false) rfl ((by rw [decide_eq_false]; omega : (.bool (decide (((n : Nat) : Int) < -999999999999999999)) : Value) = _)) (mvx rfl (onx rfl (zj rfl (onx rfl (yy rfl rfl (zq 8 (.bool false) rfl ((by rw [decide_eq_false]; omega : (.bool (decide ((999999999999999999 : Int) < ((n : Nat) : Int))) : Value) = _)) (za rfl (zh rfl rfl (rnx (zw rfl (zo (zi (srx (mvx rfl (za rfl (qc Try.underlying27 Try.underlying3 rfl (yi (by omega)) (za rfl (xf rfl rfl (by decide) (shl_O (x := n) (k := 2) (by decide) (by omega)) (za rfl (zjz rfl rfl (or_maskO (x := n * 2 ^ 2) (y := 1) (k := 2) (by omega) (by decide) (by decide) (by omega)) (zq 13 (.int .u64 ((4 * n + 1 : Nat) : Int)) rfl ((by congr 1; omega : (.int .u64 ((n * 2 ^ 2 + 1 : Nat) : Int) : Value) = _)) (avx rfl (anx rfl (zl (zk (rs := [.tmp 2, .tmp 3]) (vs := [_, _]) rfl ⟨rfl, rfl, trivial⟩ ?_))))))))))))))))))))))))))))))))))
 exact ⟨rfl, Below.refl _ _⟩
theorem num_any (w : World) (x : Nat) (hx : U64 x) (hk : qp x = 1) (h4 : x % 4 = 1) : Calls Try.prog 64 #[.int .u64 ((x : Nat) : Int)] w fun e w' => e = .returned (.tuple #[.int .i64 (wnum x), .int .i64 0]) ∧ Below w.heap.size w w' := by
 have hx' : x < 18446744073709551616 := hx;refine yc Try.func64 rfl Try.ntmps64 rfl (srx (avx rfl (anx rfl (zm (srx (mvx rfl (za rfl (zp en60 rfl ((kk _ x hx).mono ?_)))))))));rintro e w1 ⟨rfl, hb⟩
 refine ⟨_, rfl, (za rfl (yw rfl rfl (zq 6 (.bool false) rfl ((by rw [hk]; rfl : (.bool (((qp x : Nat) : Int) != 1) : Value) = _)) (rnx (zw rfl (zo (zi (srx (mvx rfl (za rfl (qc Try.underlying2 Try.underlying27 rfl rfl (za rfl (zbv rfl rfl (by decide) (zjq hx' h4) (avx rfl (anx rfl (zl (zk (rs := [.tmp 2, .tmp 3]) (vs := [_, _]) rfl ⟨rfl, rfl, trivial⟩ ?_)))))))))))))))))⟩
 exact ⟨rfl, hb⟩
theorem small_kind {n b x : Nat} (hn : n ≤ 20000) (hx : x ∈ [4 * n + 1, b]) (hb : b = 2 ∨ (b % 4 = 0 ∧ 1 ≤ b / 4 ∧ b / 4 < 1048576)) : qp x ≠ 3 := by
 simp only [List.mem_cons, List.not_mem_nil, or_false] at hx
 rcases hx with rfl | rfl
 · rw [kg (by omega), xa (by omega), if_pos (by omega)]; decide
 · rcases hb with rfl | ⟨h1, h2⟩
   · decide
   · rw [xb h1, if_pos h2]; decide
theorem kl (w : World) {g n a b : Nat} (hb : Blk w g 27 #[.int .u64 ((a : Nat) : Int), .int .u64 ((b : Nat) : Int)]) (hg : g < n) (ha : U64 a) (hb2 : U64 b) : WordsA n w (some ⟨g, 0, none⟩) [a, b] :=
 zck (W := [a, b]) hb hg (by show 8 * 2 ≤ _; decide) (fun x hx => by
  simp only [List.mem_cons, List.not_mem_nil, or_false] at hx
  rcases hx with rfl | rfl
  · exact ha
  · exact hb2)
section
variable (lo gm gW cap top c n : Nat) (w : World) (W T : List Nat) (B : Option Addr) (l : List Nat) (hM : OwnM lo w gm gW cap W top) (hF : FormL W top l) (hmW : gm ≠ gW) (hT : ∀ z, Ext (Mut [some gm, some gW]) w z → WordsA n z B T) (hn : n ≤ w.heap.size) (hg : ∀ x ∈ T, WordOk l x)
include hM hF hmW hT hn hg
theorem olist_any : Calls Try.prog 14 #[.pointer (some ⟨gm, 0, none⟩), .slice B T.length c] w fun e w' => ((∃ er : Int, er ≠ 0 ∧ e = .returned (.tuple #[.int .u64 0, .int .i64 er]) ∧ Below w.heap.size w w' ∧ (T.length ≤ 20000 → W.length < top + 6 + T.length)) ∨
 (∃ W1 top1 bk, e = .returned (.tuple #[.int .u64 ((4 * top1 : Nat) : Int), .int .i64 0]) ∧ T.length ≤ 20000 ∧ ((T = [] ∧ W1 = W ∧ top1 = top ∧ bk = 2) ∨ (T ≠ [] ∧ W1 = laid W top 11 T [] ∧ top1 = top + (2 + T.length + 0) ∧ bk = 4 * top)) ∧ top1 + 4 ≤ W1.length ∧ OwnM lo w' gm gW cap (laid W1 top1 5 [4 * T.length + 1, bk] []) (top1 + (2 + 2 + 0)) ∧ Ext (Mut [some gm, some gW]) w w')) := by
 have hT0 := hT w (Ext.refl _ _);have hTl := hT0.len;have hgs : ∀ x ∈ T, qp x ≠ 3 ∧ (qp x = 0 → Seen W top (x / 4)) := fun x hx => ⟨(hg x hx).1, fun h0 => hF.seen ((hg x hx).2 h0)⟩;have hlt := hM.lt;have hm4 := hM.most
 refine yc Try.func14 rfl Try.ntmps14 rfl (srx (avx rfl (anx rfl (zm (yk (srx (mvx rfl (za rfl (kp Try.underlying39 rfl rfl (mvx rfl (onx rfl (zj rfl (onx rfl (yv rfl (onx rfl (yb Try.underlying24 rfl qb rfl hM.mb rfl (onx rfl (zj rfl (onx rfl (zp en40 rfl ((oall_any _ (some ⟨gW, 0, none⟩) B W T cap c _ top hM.mem (hT0.up hn) hgs).mono ?_)))))))))))))))))))))
 rintro e w1 ⟨rfl, hb⟩;refine ⟨_, rfl, ?_⟩;have E1 := Ext.of_below hb No;have hM1 := hM.ext E1 (fun h => h) (fun h => h);have hT1 : ∀ z, Ext (Mut [some gm, some gW]) w1 z → WordsA n z B T := fun z hz => hT z ((E1.mono (Y := Mut [some gm, some gW]) (fun _ h _ => h.elim)).step hz (fun q hq => Or.inl hq))
 refine onx rfl (qd rfl (za rfl (zh rfl rfl (anx rfl (zw rfl (srx (mvx rfl (za rfl (yq Try.underlying22 rfl (za rfl (yy rfl rfl (anx rfl ?_))))))))))));by_cases hlen : T.length ≤ 20000
 ·
  refine ye 20 (.bool false) rfl ((by rw [decide_eq_false]; omega : (.bool (decide (20000 < (((T.length : Nat)) : Int))) : Value) = _)) (zw rfl (zm (srx (mvx rfl (za rfl (yq Try.underlying22 rfl (za rfl (yr rfl rfl ?_))))))));by_cases h0 : T.length = 0
  ·
   refine zq 27 (.bool true) rfl ((by rw [h0]; rfl : (.bool (((T.length : Nat) : Int) == 0) : Value) = _)) (mvx rfl (onx rfl (zj rfl (onx rfl (zp en41 rfl ((oroom_any lo gm gW cap top 4 _ W hM1).mono ?_))))));rintro e w2 ⟨rfl, hb⟩;refine ⟨_, rfl, ?_⟩;have E2 := E1.trans (Ext.of_below hb No);have hM2 := hM.ext E2 (fun h => h) (fun h => h);by_cases hr : top + 4 ≤ W.length
   ·
    refine zq 30 (.bool true) rfl ((by rw [decide_eq_true hr] : (.bool (decide (top + 4 ≤ W.length)) : Value) = _)) (onx rfl (qd rfl (za rfl (zu rfl rfl (anx rfl (zw rfl (yh (mvx rfl (za rfl (yq Try.underlying22 rfl (za rfl (yy rfl rfl (zq 35 (.bool false) rfl ((by rw [decide_eq_false]; omega : (.bool (decide ((0 : Int) < ((T.length : Nat) : Int))) : Value) = _)) (mvx rfl (za rfl (zd rfl (za rfl (zd rfl (za rfl (zd rfl (za rfl (zd rfl (za rfl (zd rfl (za rfl (zd rfl (za rfl (zh rfl rfl (anx rfl (zw rfl (zo (zv (zi (srx (mvx rfl (za rfl (yq Try.underlying22 rfl (za rfl (zp en36 rfl ((small_any _ T.length hlen).mono ?_))))))))))))))))))))))))))))))))))))))))
    rintro e w3 ⟨rfl, hb⟩;refine ⟨_, rfl, ?_⟩;have E3 := E2.trans (Ext.of_below hb No)
    refine mvx rfl (za rfl (zg rfl rfl (za rfl (zg rfl rfl (avx rfl (anx rfl (srx (anx rfl (zm (srx (mvx rfl (za rfl (yq Try.underlying22 rfl (za rfl (yy rfl rfl (zq 52 (.bool false) rfl ((by rw [decide_eq_false]; omega : (.bool (decide ((0 : Int) < ((T.length : Nat) : Int))) : Value) = _)) (rnx (zw rfl (zo (zi (srx (mvx rfl (mvx rfl (mvx rfl (za rfl (qn (cs := #[.int .u64 ((4 * T.length + 1 : Nat) : Int), .int .u64 2]) Try.underlying22 qk zr27 (by decide) rfl (by rw [vf]; rfl) ?_))))))))))))))))))))))))))
    rintro gx wX Bx Ex Gx;have E4 := E3.trans Ex;have hM4 := hM.ext E4 (fun h => h) (fun h => h);have hl4 := E3.size;have hxg : ∀ q, Mut [some gm, some gW] q → q ≠ gx := fun q hq => by
     rcases hq with h | h | h
     · have : q = gm := Option.some.inj h;omega
     · have : q = gW := Option.some.inj h;omega
     · exact h.elim
    refine za rfl (zp en32 rfl ((gg lo gm gW cap top 5 2 0 (gx + 1) _ W [4 * T.length + 1, 2] [] (some ⟨gx, 0, none⟩) none hM4 (by omega) (by show 2 ≤ 1048576; decide) (Nat.zero_le _) hmW (fun z hz => kl z (Bx.ext hz (fun h => hxg gx h rfl)) (Nat.lt_succ_self gx) (by unfold U64; omega) (by unfold U64; omega)) (fun z hz => .nil _ _ _) (fun x hx => small_kind hlen hx (Or.inl rfl)) hF.rest (by show top + (2 + 2 + 0) ≤ W.length; omega)).mono ?_))
    rintro e w4 ⟨rfl, hMT, hET⟩;refine ⟨_, rfl, (za rfl (zg rfl rfl (za rfl (zg rfl rfl (avx rfl (anx rfl (zl (zk (rs := [.tmp 4, .tmp 5]) (vs := [_, _]) rfl ⟨rfl, rfl, trivial⟩ ?_))))))))⟩
    exact Or.inr ⟨W, top, 2, rfl, hlen, Or.inl ⟨List.eq_nil_of_length_eq_zero h0, rfl, rfl, rfl⟩, hr, hMT, (E4.mono (Y := Mut [some gm, some gW]) (fun _ h _ => h.elim)).step hET (fun q hq => Or.inl hq)⟩
   ·
    refine zq 30 (.bool false) rfl ((by rw [decide_eq_false hr] : (.bool (decide (top + 4 ≤ W.length)) : Value) = _)) (onx rfl (qd rfl (za rfl (zu rfl rfl (anx rfl (yd rfl (zo (zi (yd rfl (srx (avx rfl (anx rfl (zl (zn (zf (zk (rs := [.tmp 4, .tmp 5]) (vs := [_, _]) rfl ⟨rfl, rfl, trivial⟩ ?_))))))))))))))))
    exact Or.inl ⟨5, by decide, rfl, E2.toBelow, fun _ => by omega⟩
  ·
   refine zq 27 (.bool false) rfl ((by congr 1; rw [beq_eq_false_iff_ne]; omega : (.bool (((T.length : Nat) : Int) == 0) : Value) = _)) (mvx rfl (za rfl (zd rfl (za rfl (zd rfl (za rfl (zd rfl (za rfl (zh rfl rfl (anx rfl (zw rfl (yh (mvx rfl (za rfl (yq Try.underlying22 rfl (za rfl (yy rfl rfl (zq 35 (.bool true) rfl ((by rw [decide_eq_true]; omega : (.bool (decide ((0 : Int) < ((T.length : Nat) : Int))) : Value) = _)) (mvx rfl (onx rfl (zj rfl (onx rfl (zj rfl (onx rfl (yq Try.underlying22 rfl (onx rfl (yg rfl rfl (zt (by omega)) (zq 40 (.int .i64 ((6 + T.length : Nat) : Int)) rfl ((by first | rfl | (congr 1; omega) : (.int .i64 (6 + (((T.length : Nat)) : Int)) : Value) = _)) (onx rfl (zp en41 rfl ((oroom_any lo gm gW cap top (6 + T.length) _ W hM1).mono ?_)))))))))))))))))))))))))))))))
   rintro e w5 ⟨rfl, hb⟩;refine ⟨_, rfl, ?_⟩;have E2 := E1.trans (Ext.of_below hb No);by_cases hr : top + (6 + T.length) ≤ W.length
   ·
    have hfit : top + (2 + T.length + ([] : List Nat).length) ≤ W.length := by show top + (2 + T.length + 0) ≤ W.length; omega
    have h1 := hM.one;refine zq 41 (.bool true) rfl ((by rw [decide_eq_true hr] : (.bool (decide (top + (6 + T.length) ≤ W.length)) : Value) = _)) (onx rfl (qd rfl (za rfl (zu rfl rfl (anx rfl (zw rfl (zo (zv (zi (srx (mvx rfl (za rfl (yq Try.underlying22 rfl (za rfl (zp en36 rfl ((small_any _ T.length hlen).mono ?_))))))))))))))))
    rintro e w6 ⟨rfl, hb⟩;refine ⟨_, rfl, ?_⟩;have E3 := E2.trans (Ext.of_below hb No);have hM3 := hM.ext E3 (fun h => h) (fun h => h);have hT3 : ∀ z, Ext (Mut [some gm, some gW]) w6 z → WordsA n z B T := fun z hz => hT z ((E3.mono (Y := Mut [some gm, some gW]) (fun _ h _ => h.elim)).step hz (fun q hq => Or.inl hq))
    refine mvx rfl (za rfl (zg rfl rfl (za rfl (zg rfl rfl (avx rfl (anx rfl (srx (anx rfl (zm (srx (mvx rfl (za rfl (yq Try.underlying22 rfl (za rfl (yy rfl rfl (zq 52 (.bool true) rfl ((by rw [decide_eq_true]; omega : (.bool (decide ((0 : Int) < ((T.length : Nat) : Int))) : Value) = _)) (rnx (yd rfl (yh (mvx rfl (mvx rfl (za rfl (zp en32 rfl ((gg lo gm gW cap top 11 c 0 n _ W T [] B none hM3 (by omega) (by omega) (Nat.zero_le _) hmW hT3 (fun z hz => .nil _ _ _) (fun x hx => (hg x hx).1) hF.rest hfit).mono ?_))))))))))))))))))))))))
    rintro e w7 ⟨rfl, hMA, hEA⟩;refine ⟨_, rfl, ?_⟩;have hEA2 := (E3.mono (Y := Mut [some gm, some gW]) (fun _ h _ => h.elim)).step hEA (fun q hq => Or.inl hq);have hll := vi (k := 11) hfit
    refine mvx rfl (za rfl (zg rfl rfl (za rfl (zg rfl rfl (anx rfl (srx (mvx rfl (mvx rfl (mvx rfl (za rfl (qn (cs := #[.int .u64 ((4 * T.length + 1 : Nat) : Int), .int .u64 ((4 * top : Nat) : Int)]) Try.underlying22 qk zr27 (by decide) rfl (by rw [vf]; rfl) ?_)))))))))));rintro gx wX Bx Ex Gx;have hl4 := hEA2.size
    have hM4 := hMA.ext Ex (fun h => h) (fun h => h);have hxg : ∀ q, Mut [some gm, some gW] q → q ≠ gx := fun q hq => by
     rcases hq with h | h | h
     · have : q = gm := Option.some.inj h;omega
     · have : q = gW := Option.some.inj h;omega
     · exact h.elim
    refine za rfl (zp en32 rfl ((gg lo gm gW cap (top + (2 + T.length + 0)) 5 2 0 (gx + 1) _ (laid W top 11 T []) [4 * T.length + 1, 4 * top] [] (some ⟨gx, 0, none⟩) none hM4 (by omega) (by show 2 ≤ 1048576; decide) (Nat.zero_le _) hmW (fun z hz => kl z (Bx.ext hz (fun h => hxg gx h rfl)) (Nat.lt_succ_self gx) (by unfold U64; omega) (by unfold U64; omega)) (fun z hz => .nil _ _ _) (fun x hx => small_kind hlen hx (Or.inr (by omega))) (fun i hi => by rw [zhq hfit hi]; exact hF.rest i (by omega)) (by rw [hll]; show top + (2 + T.length + 0) + (2 + 2 + 0) ≤ W.length; omega)).mono ?_))
    rintro e w8 ⟨rfl, hMT, hET⟩;refine ⟨_, rfl, (za rfl (zg rfl rfl (za rfl (zg rfl rfl (avx rfl (anx rfl (zl (zk (rs := [.tmp 4, .tmp 5]) (vs := [_, _]) rfl ⟨rfl, rfl, trivial⟩ ?_))))))))⟩
    exact Or.inr ⟨laid W top 11 T [], top + (2 + T.length + 0), 4 * top, rfl, hlen, Or.inr ⟨fun e => h0 (by rw [e]; rfl), rfl, rfl, rfl⟩, by rw [hll]; omega, hMT, (hEA2.step Ex (fun _ h => h.elim)).step hET (fun q hq => Or.inl hq)⟩
   ·
    refine zq 41 (.bool false) rfl ((by rw [decide_eq_false hr] : (.bool (decide (top + (6 + T.length) ≤ W.length)) : Value) = _)) (onx rfl (qd rfl (za rfl (zu rfl rfl (anx rfl (yd rfl (srx (avx rfl (anx rfl (zl (zn (zf (zk (rs := [.tmp 4, .tmp 5]) (vs := [_, _]) rfl ⟨rfl, rfl, trivial⟩ ?_)))))))))))))
    exact Or.inl ⟨5, by decide, rfl, E2.toBelow, fun _ => by omega⟩
 ·
  refine ye 20 (.bool true) rfl ((by rw [decide_eq_true]; omega : (.bool (decide (20000 < (((T.length : Nat)) : Int))) : Value) = _)) (yd rfl (srx (avx rfl (anx rfl (zl (zn (zf (zk (rs := [.tmp 4, .tmp 5]) (vs := [_, _]) rfl ⟨rfl, rfl, trivial⟩ ?_))))))));exact Or.inl ⟨2, by decide, rfl, E1.toBelow, fun h => absurd h hlen⟩
end
end Go.Proofs.Ytjhmifebmplahaa
namespace Go.Proofs.Ytjhmifebmplahaa
open Go.RowKit
set_option maxRecDepth 100000
attribute [local irreducible] OW RS
theorem new_any (w : World) (n : Nat) (h2 : 2 ≤ n) (hn : n ≤ 1048576) : Calls Try.prog 20 #[.int .i64 ((n : Nat) : Int)] w fun e w' => (∃ g, e = .returned (.tuple #[.agg #[.slice (some ⟨g, 0, none⟩) n n, .int .i64 1], .int .i64 0]) ∧ Blk w' g 27 (List.replicate n (Value.int .u64 0)).toArray ∧ w.heap.size ≤ g) ∧ Below w.heap.size w w' := by
 refine yc Try.func20 rfl Try.ntmps20 rfl (srx (za rfl (yo gu ?_)));rintro g2 wA B2 E1 G2
 refine anx rfl (zm (srx (mvx rfl (za rfl (yp rfl rfl (zq 5 (.bool false) rfl ((by rw [decide_eq_false]; omega : (.bool (decide (((n : Nat) : Int) < 2)) : Value) = _)) (mvx rfl (onx rfl (zj rfl (onx rfl (yy rfl rfl (zq 8 (.bool false) rfl ((by rw [decide_eq_false]; omega : (.bool (decide ((1048576 : Int) < ((n : Nat) : Int))) : Value) = _)) (za rfl (zh rfl rfl (rnx (zw rfl (zo (zi (srx (mvx rfl (za rfl (zdv (n := n) Try.underlying22 zaq rfl rfl rfl rfl rfl (by omega) (by omega) ?_))))))))))))))))))))))
 rintro gs wB Bs E2 Gs;have B2b := B2.ext E2 (fun h => h.elim);have hs1 := E1.size;have h2l := B2.lt;refine za rfl (vv (cs := #[.slice (some ⟨gs, 0, none⟩) n n, .int .i64 1]) pl24 gu rfl rfl (ym (ya qb rfl rfl B2b rfl rfl rfl ?_)));rintro wC Bz E3
 refine anx rfl (zl (zk (rs := [.cell 2 24, .tmp 3]) (vs := [_, _]) rfl ⟨⟨_, rfl, qm Try.underlying24 rfl qb Bz rfl⟩, rfl, trivial⟩ ?_));exact ⟨⟨gs, rfl, Bs.ext E3 (fun h => by have := yx h; omega), by omega⟩, (((E1.trans E2).noL w.heap.size).step E3 (fun q hq => Or.inl (show w.heap.size ≤ q by have := yx hq; omega))).below (fun _ h => h)⟩
end Go.Proofs.Ytjhmifebmplahaa
namespace Go.Proofs.Ytjhmifebmplahaa
open Go.RowKit
set_option maxRecDepth 100000
section
variable {P : Program} {N : Nat} {ops : Array Oper} {Q : Exit → Act → World → Prop} {σ : Env} {w : World} {ty : TypeId} {pos : String} {af : Array Edge} {dst : Option Nat} {Post : Value → World → Prop}
end
end Go.Proofs.Ytjhmifebmplahaa
namespace Go.Proofs.Ytjhmifebmplahaa
theorem ex56 : Ext_ Try.prog 56 Extern.MathFloatBits.float64frombits := ⟨_, Try.func56, by kernel_rfl, by kernel_rfl, by kernel_rfl, by kernel_rfl⟩
theorem ex67 : Ext_ Try.prog 67 Extern.MathFloatBits.float64bits := ⟨_, Try.func67, by kernel_rfl, by kernel_rfl, by kernel_rfl, by kernel_rfl⟩
end Go.Proofs.Ytjhmifebmplahaa
namespace Go.Proofs.Ytjhmifebmplahaa
open Go.RowKit
set_option maxRecDepth 100000
def vq (m : Nat) : Nat := if isN m then 9221120237041090560 else m
def ansF (z : Option Nat) : Nat := z.getD 9221120237041090560
theorem FRes.bare {op : BinOp} {a b r : Nat} {w w' : World} (h : FRes (fop op a b) r w w') : vq r = ansF (fop op a b) := by
 rcases h with ⟨hz, _⟩ | ⟨hz, hn, _⟩
 · rw [hz]; unfold vq ansF; rw [(fop_num hz).1]; rfl
 · rw [hz]; unfold vq ansF; rw [nan_isN hn]; rfl
theorem bareN_lt {m : Nat} (h : m < 18446744073709551616) : vq m < 18446744073709551616 := by unfold vq; split <;> omega
theorem ford_self (m : Nat) : (ford m m != some .eq) = isN m := by
 cases h : isN m with
 | true => rw [ford_nan (.inl h)]; rfl
 | false => rw [ford_val h h, zix]; rfl
theorem ofInt_nat (m : Nat) (h : m < 18446744073709551616) : (BitVec.ofInt 64 (m : Int)).toNat = m := by
 rw [BitVec.toNat_ofInt];omega
theorem wrap_nat {m : Nat} (h : m < 18446744073709551616) : IntKind.u64.wrap (m : Int) = (m : Int) := yi (by omega)
theorem and_bits {m n : Nat} (hm : m < 18446744073709551616) (hn : n < 18446744073709551616) : IntKind.u64.wrap (BitVec.ofInt IntKind.u64.bits (m : Int) &&& BitVec.ofInt IntKind.u64.bits (n : Int)).toNat = ((m &&& n : Nat) : Int) := by
 have h1 := ofInt_nat m hm;have h2 := ofInt_nat n hn;show IntKind.u64.wrap (((BitVec.ofInt 64 (m : Int) &&& BitVec.ofInt 64 (n : Int)).toNat : Nat) : Int) = _
 rw [BitVec.toNat_and, h1, h2];exact wrap_nat (Nat.lt_of_le_of_lt Nat.and_le_left hm)
theorem and_low {m : Nat} (hm : m < 18446744073709551616) : IntKind.u64.wrap (BitVec.ofInt IntKind.u64.bits (m : Int) &&& BitVec.ofInt IntKind.u64.bits 9223372036854775807).toNat = ((rg m : Nat) : Int) := by
 have := and_bits (n := 9223372036854775807) hm (by decide);rw [show m &&& 9223372036854775807 = rg m from Nat.and_two_pow_sub_one_eq_mod m 63] at this;exact this
def isZ (b : Nat) : Bool := decide (rg b = 0)
def divV (a b : Nat) : Nat := if isZ b then 0 else ansF (fop .quo a b)
def divE (b : Nat) : Int := if isZ b then 6 else 0
def ordI (x y : Int) : Int := if x < y then -1 else if x > y then 1 else 0
def ordered (a b : Nat) : Bool := !(isN a) && !(isN b)
def cmpF (a b : Nat) : Int := if ordered a b then ordI (pc a) (pc b) else 0
section
variable (w : World)
/-! ### package real -/
theorem bare_any (m : Nat) : Calls Try.prog 55 #[.float .f64 m] w fun e w' => e = .returned (.int .u64 ((vq m : Nat) : Int)) ∧ Below w.heap.size w w' := by
 refine yc Try.func55 rfl Try.ntmps55 rfl ?_;have LW := erx (No) w;have XLW := grx (No) w;have E := erx (No) w;refine srx (anx rfl (zm (srx (mvx rfl (mvx rfl (za rfl (ow_fneq rfl rfl (rnx (ye 5 (.bool (isN m)) rfl ((by rw [ford_self] : (.bool (ford m m != some .eq) : Value) = _)) (yl rfl (fun h => ?_) (fun h => ?_)))))))))))
 ·
  refine srx (anx rfl (zl (zf (zk (rs := [.tmp 2]) (vs := [_]) rfl ⟨rfl, trivial⟩ ?_))));exact ⟨by rw [vq, if_pos h]; rfl, (LW.step E XLW).toBelow⟩
 ·
  refine zo (zi (srx (mvx rfl (za rfl (ow_bits ex67 rfl (anx rfl (zl (zk (rs := [.tmp 2]) (vs := [_]) rfl ⟨rfl, trivial⟩ ?_))))))));exact ⟨by rw [vq, if_neg (by rw [h]; decide)]; rfl, (LW.step E XLW).toBelow⟩
section
variable (a b : Nat)
theorem neg_any_r : Calls Try.prog 33 #[.int .u64 ((a : Nat) : Int)] w fun e w' => e = .returned (.int .u64 ((vq (va a) : Nat) : Int)) ∧ Below w.heap.size w w' := by
 refine yc Try.func33 rfl Try.ntmps33 rfl ?_;have LW := erx (No) w;have XLW := grx (No) w;have E := erx (No) w;refine srx (anx rfl (srx (mvx rfl (za rfl (ow_frombits (b := a) ex56 rfl (za rfl (ow_fneg rfl (za rfl (zp en55 rfl ((bare_any _ (va a)).mono ?_))))))))));rintro e w1 ⟨rfl, hb⟩;refine ⟨_, rfl, ?_⟩;replace E := blx E hb
 refine anx rfl (zl (zk (rs := [.tmp 2]) (vs := [_]) rfl ⟨rfl, trivial⟩ ?_));exact ⟨rfl, (LW.step E XLW).toBelow⟩
end
end
/-! ### the document's -/
section
variable (w : World)
section
variable (a : Nat) (ha : a < 18446744073709551616)
include ha
theorem isnan_any : Calls Try.prog 48 #[.int .u64 ((a : Nat) : Int)] w fun e w' => e = .returned (.bool (isN a)) ∧ Below w.heap.size w w' := by
 refine yc Try.func48 rfl Try.ntmps48 rfl ?_;have LW := erx (No) w;have XLW := grx (No) w;have E := erx (No) w;refine srx (anx rfl (srx (mvx rfl (za rfl (ow_and rfl rfl (and_low ha) (za rfl (yy rfl rfl (anx rfl (zl (zk (rs := [.tmp 2]) (vs := [_]) rfl ⟨rfl, trivial⟩ ?_))))))))))
 exact ⟨by rw [show isN a = decide (((rg a : Nat) : Int) > 9218868437227405312) from by unfold isN; congr 1; apply propext; omega]; rfl, (LW.step E XLW).toBelow⟩
end
section
variable (a b : Nat) (ha : a < 18446744073709551616) (hb : b < 18446744073709551616)
include ha hb
end
end
end Go.Proofs.Ytjhmifebmplahaa

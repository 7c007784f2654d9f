/- Texts of this claim. -/
import Derived.Test.YtebjkmjfcijebaaT9
namespace Go.Proofs.Ytebjkmjfcijebaa
open Go.RowKit
set_option maxRecDepth 100000
attribute [local irreducible] OW RS
section
variable {P : Program} {N : Nat} {ops : Array Oper} {Q : Exit → Act → World → Prop} {σ : Env} {w : World} {ty : TypeId} {pos : String} {af : Array Edge} {dst : Option Nat} {Post : Value → World → Prop}
theorem yiq {x y : Operand} {T U e : TypeId} {a : Addr} (hd : P.underlying T = some (.pointer e)) (hx : ev σ x = some (.pointer (some a))) (hy : ev σ y = some (.pointer none)) (k : Post (.bool false) w) : OW P N ops Q ⟨dst, .binOp .eql T x y U, ty, pos, af, none⟩ σ w Post :=
 qp (fun ρ ha => by
  have e1 : (Op.equal T (.pointer (some a)) (.pointer none)).run P w = .ok false w := by
   unfold Op.equal;rw [show Op.maxDepth = 9999 + 1 from rfl, Op.equalIn];simp only [Sem.run_bind, run_underlying hd, Result.andThen_ok]
   rfl
  simp only [execOp, ha hx, ha hy, eqGuard, binOp]
  simp [e1, go_sem]) k
end
structure OwnM (lo : Nat) (w : World) (gm gW cap : Nat) (W : List Nat) (top : Nat) : Prop where
 mb : Blk w gm 24 #[.slice (some ⟨gW, 0, none⟩) W.length cap, .int .i64 ((top : Nat) : Int)]
 row : w.ownsRow lo 25 1 (.slice (some ⟨gW, 0, none⟩) W.length cap) W.length (qu W)
 in_ : ∀ x ∈ W, U64 x
 one : 1 ≤ top
 len : top ≤ W.length
 most : W.length ≤ 1048576
section
variable {lo gm gW cap top : Nat} {w w' : World} {W : List Nat} {X : Nat → Prop}
theorem OwnM.mem (h : OwnM lo w gm gW cap W top) : MemA w.heap.size w (some ⟨gW, 0, none⟩) W top := ⟨zjv h.row (by have := h.most; omega) h.in_, h.one, h.len, h.most, Nat.le_refl _⟩
theorem OwnM.ext (h : OwnM lo w gm gW cap W top) (k : Ext X w w') (h1 : ¬ X gm) (h2 : ¬ X gW) : OwnM lo w' gm gW cap W top := ⟨h.mb.ext k h1, gf h.row k (fun q hq hx => by cases hq; exact h2 hx), h.in_, h.one, h.len, h.most⟩
theorem OwnM.lt (h : OwnM lo w gm gW cap W top) : gm < w.heap.size ∧ gW < w.heap.size := ⟨h.mb.lt, yvx h.row gW rfl⟩
theorem OwnM.late (h : OwnM lo w gm gW cap W top) (k : Ext X w w') (hX : ∀ q, X q → w.heap.size ≤ q) : OwnM lo w' gm gW cap W top := h.ext k (fun hx => by have := hX _ hx; have := h.lt.1; omega) (fun hx => by have := hX _ hx; have := h.lt.2; omega)
theorem OwnM.put {j x : Nat} (h : OwnM lo w gm gW cap W top) (hx : U64 x) (ho : w'.ownsRow lo 25 1 (.slice (some ⟨gW, 0, none⟩) W.length cap) W.length (qu (W.set j x))) (k : Ext (Mut [some gW]) w w') : OwnM lo w' gm gW cap (W.set j x) top :=
 ⟨by rw [List.length_set]; exact znv h.mb h.row (by decide) k, by rw [List.length_set]; exact ho, fun y hy => by
  rcases List.mem_or_eq_of_mem_set hy with hy | rfl
  · exact h.in_ y hy
  · exact hx, h.one, by rw [List.length_set]; exact h.len, by rw [List.length_set]; exact h.most⟩
theorem Ext.step2w {g : Nat} {w1 w2 w3 : World} (h : Ext (fun q => w1.heap.size ≤ q) w1 w2) (k : Ext (Mut [some g]) w2 w3) : Ext (Mut [some g]) w1 w3 :=
 (h.mono (Y := No) (fun q hq hlt => by have hq : w1.heap.size ≤ q := hq; omega)).mono (Y := Mut [some g]) (fun _ h _ => h.elim) |>.step k fun _ h => Or.inl h
theorem kg {j x : Nat} : (qu W).set j (.int .u64 ((x : Nat) : Int)) = qu (W.set j x) := by unfold qu; rw [List.map_set]
end
theorem aset_any (lo gm gW cap top a i x : Nat) (w : World) (W : List Nat) (hM : OwnM lo w gm gW cap W top) (hS : Seen W top a) (hi : i + 2 < yk (wat W a)) (hx : U64 x) (hk : i < yy (wat W a) → yu x ≠ 3) :
 Calls Try.prog 41 #[.pointer (some ⟨gm, 0, none⟩), .int .i64 ((a : Nat) : Int), .int .i64 ((i : Nat) : Int), .int .u64 ((x : Nat) : Int)] w fun e w' => e = .returned (.int .i64 0) ∧ OwnM lo w' gm gW cap (W.set (a + 2 + i) x) top ∧ Ext (Mut [some gW]) w w' := by
 have h2 := hS.hi;have h7 := hS.room;have h3 := hM.len;have h4 := hM.most;have h10 := zcv (wat W a)
 refine yb Try.func41 rfl Try.ntmps41 rfl (srx (anx rfl (zl (srx (mvx rfl (za rfl (yiq Try.underlying38 rfl rfl (rnx (zw rfl (zt (zj (srx (mvx rfl (za rfl (yo rfl (za rfl (zz Try.underlying24 rfl qx rfl hM.mb rfl (mvx rfl (za rfl (zi en59 rfl ((zuq _ (some ⟨gW, 0, none⟩) W cap _ top a hM.mem hS).mono ?_)))))))))))))))))))))
 rintro e w1 ⟨rfl, hb⟩;refine ⟨_, rfl, ?_⟩;have E1 := Ext.of_below hb No;have hs1 := E1.size;refine mvx rfl (za rfl (zg rfl rfl (za rfl (zg rfl rfl (za rfl (ym zgx ?_))))));rintro g9 wB B90 E2 G9;refine yn (yi kk rfl rfl B90 rfl rfl rfl ?_);rintro wC B9a E3
 have B9 : Blk wC g9 107 #[.int .i64 ((a : Nat) : Int), .int .i64 ((yr (wat W a) : Nat) : Int), .int .i64 ((yy (wat W a) : Nat) : Int), .int .i64 ((yk (wat W a) : Nat) : Int)] := B9a;have hEC : Ext (fun q => w.heap.size ≤ q) w wC := ((E1.trans E2).noL w.heap.size).step E3 (fun q hq => Or.inl (show w.heap.size ≤ q by have := qd hq; omega))
 refine anx rfl (zl (srx (mvx rfl (za rfl (qa rfl (mvx rfl (onx rfl (zz Try.underlying107 rfl kk rfl B9 rfl (onx rfl (zp rfl (onx rfl (zi en60 rfl ((ahas_any _ a _ _ _ i h10 hi).mono ?_)))))))))))));rintro e w2 ⟨rfl, hb⟩;refine ⟨_, rfl, ?_⟩;have E4 := Ext.of_below hb No;have B94 := B9.ext E4 (fun h => h.elim);have hED := hEC.step E4 (fun _ h => h.elim)
 refine onx rfl (qa rfl (za rfl (zm rfl rfl (rnx (zw rfl (zt (zj (zl (srx (mvx rfl (za rfl (zf Try.underlying107 rfl sz3 (by decide) rfl (za rfl (zk Try.underlying3 rfl rfl B94 rfl (za rfl (qo rfl rfl ?_))))))))))))))));by_cases hlt : i < yy (wat W a)
 ·
  refine zq 32 (.bool true) rfl ((by rw [decide_eq_true]; omega : (.bool (decide (((i : Nat) : Int) < ((yy (wat W a) : Nat) : Int))) : Value) = _)) (mvx rfl (onx rfl (zp rfl (onx rfl (zi en33 rfl ((gc _ x hx).mono ?_))))));rintro e w3 ⟨rfl, hb⟩;refine ⟨_, rfl, ?_⟩;have hEE := hED.step (Ext.of_below hb No) (fun _ h => h.elim);have hk3 := hk hlt
  refine onx rfl (yl rfl rfl (zq 36 (.bool false) rfl ((by congr 1; rw [beq_eq_false_iff_ne]; omega : (.bool (((yu x : Nat) : Int) == 3) : Value) = _)) ?_));have hMZ := hM.late hEE (fun _ h => h)
  refine za rfl (ya rfl rfl (rnx (zw rfl (zt (zj (srx (mvx rfl (za rfl (yo rfl (za rfl (zf Try.underlying24 rfl kl (by decide) rfl (za rfl (zk Try.underlying22 rfl rfl hMZ.mb rfl (mvx rfl (za rfl (yp rfl rfl (zy (by omega)) (mvx rfl (za rfl (yp rfl rfl (zy (by omega)) (mvx rfl (za rfl (yc (j := a + 2 + i) Try.underlying22 vc rfl rfl (by omega) (by omega) (yn (zhq (o := 0 + (a + 2 + i)) (xs' := qu (W.set (a + 2 + i) x)) vc rfl rfl hMZ.row (by omega) rfl rfl (by rw [Nat.zero_add, kg]) ?_))))))))))))))))))))))))
  rintro wS OS ES;refine rnx (srx (anx rfl (zo (zn (rs := [.tmp 8]) (vs := [_]) rfl ⟨rfl, trivial⟩ ?_))));exact ⟨rfl, hMZ.put hx OS ES, (hEE.step2w ES)⟩
 ·
  refine zq 32 (.bool false) rfl ((by rw [decide_eq_false]; omega : (.bool (decide (((i : Nat) : Int) < ((yy (wat W a) : Nat) : Int))) : Value) = _)) ?_;have hMZ := hM.late hED (fun _ h => h)
  refine mvx rfl (za rfl (zd rfl (za rfl (zd rfl (za rfl (zd rfl (za rfl (zm rfl rfl (rnx (zw rfl (zt (zj (srx (mvx rfl (za rfl (yo rfl (za rfl (zf Try.underlying24 rfl kl (by decide) rfl (za rfl (zk Try.underlying22 rfl rfl hMZ.mb rfl (mvx rfl (za rfl (yp rfl rfl (zy (by omega)) (mvx rfl (za rfl (yp rfl rfl (zy (by omega)) (mvx rfl (za rfl (yc (j := a + 2 + i) Try.underlying22 vc rfl rfl (by omega) (by omega) (yn (zhq (o := 0 + (a + 2 + i)) (xs' := qu (W.set (a + 2 + i) x)) vc rfl rfl hMZ.row (by omega) rfl rfl (by rw [Nat.zero_add, kg]) ?_)))))))))))))))))))))))))))))))
  rintro wS OS ES;refine rnx (srx (anx rfl (zo (zn (rs := [.tmp 8]) (vs := [_]) rfl ⟨rfl, trivial⟩ ?_))));exact ⟨rfl, hMZ.put hx OS ES, (hED.step2w ES)⟩
end Go.Proofs.Ytebjkmjfcijebaa
namespace Go.Proofs.Ytebjkmjfcijebaa
open Go.RowKit
set_option maxRecDepth 100000
attribute [local irreducible] OW RS
theorem wat_set {W : List Nat} {j x : Nat} (hj : j < W.length) (i : Nat) : wat (W.set j x) i = if i = j then x else wat W i := by
 unfold wat;rw [List.getD_eq_getElem?_getD, List.getD_eq_getElem?_getD, List.getElem?_set];by_cases h : j = i
 · subst h; simp [hj]
 · rw [if_neg h, if_neg (fun e => h e.symm)]
theorem set_zero {W : List Nat} {j : Nat} (hj : j < W.length) (h : wat W j = 0) : W.set j 0 = W := by
 apply List.ext_getElem?
 intro i;rw [List.getElem?_set];split
 · rename_i e; subst e; have h9 := kz hj; rw [h] at h9; rw [h9]
 · rfl
theorem wat_ext {W V : List Nat} (hl : V.length = W.length) (h : ∀ i, i < W.length → wat V i = wat W i) : V = W := by
 apply List.ext_getElem?
 intro i;by_cases hi : i < W.length
 · rw [kz hi, kz (by omega), h i hi]
 · rw [List.getElem?_eq_none (by omega), List.getElem?_eq_none (by omega)]
def NewM (W V : List Nat) (top h i : Nat) : Prop := V.length = W.length ∧ ∀ j, j < W.length → wat V j = if j = top then h else if top + 2 ≤ j ∧ j < top + 2 + i then 2 else wat W j
theorem NewM.zero {W : List Nat} {top h : Nat} (ht : top < W.length) : NewM W (W.set top h) top h 0 := ⟨List.length_set .., fun j hj => by
 rw [wat_set ht];split
 · rfl
 · rw [if_neg (by omega)]⟩
theorem NewM.next {W V : List Nat} {top h i : Nat} (hN : NewM W V top h i) (hi : top + 2 + i < W.length) : NewM W (V.set (top + 2 + i) 2) top h (i + 1) := ⟨by rw [List.length_set]; exact hN.1, fun j hj => by
 rw [wat_set (by rw [hN.1]; exact hi), hN.2 j hj];by_cases e : j = top + 2 + i
 · rw [if_pos e, if_neg (by omega), if_pos (by omega)]
 · rw [if_neg e];by_cases e2 : j = top
   · rw [if_pos e2, if_pos e2]
   · rw [if_neg e2, if_neg e2];by_cases e3 : top + 2 ≤ j ∧ j < top + 2 + i
     · rw [if_pos e3, if_pos (by omega)]
     · rw [if_neg e3, if_neg (by omega)]⟩
theorem NewM.isLaid {W V : List Nat} {top k t r : Nat} (hN : NewM W V top (gu k t (2 + t + r)) t) (hz : ∀ i, top ≤ i → wat W i = 0) (hr : top + (2 + t + r) ≤ W.length) : V = laid W top k (List.replicate t 2) (List.replicate r 0) := by
 have hL : top + (2 + (List.replicate t 2).length + (List.replicate r 0).length) ≤ W.length := by simpa using hr
 have h1 : (laid W top k (List.replicate t 2) (List.replicate r 0)).length = W.length := zix hL;refine wat_ext (by rw [h1, hN.1]) fun i hi => ?_;rw [h1] at hi;rw [hN.2 i hi];by_cases e1 : i < top
 · rw [if_neg (by omega), if_neg (by omega)]; exact (laid_lt hL i e1).symm
 · by_cases e2 : i = top
   · rw [if_pos e2, e2, yaq hL]; simp
   · rw [if_neg e2];by_cases e3 : i = top + 1
     · rw [if_neg (by omega), e3, laid_nil hL]; exact hz _ (by omega)
     · by_cases e4 : i < top + (2 + t + r)
       · obtain ⟨j, rfl⟩ : ∃ j, i = top + 2 + j := ⟨i - top - 2, by omega⟩;by_cases e5 : j < t
         · rw [if_pos (by omega), ypz hL (v := 2) (by rw [List.getElem?_append_left (by simpa using e5), List.getElem?_replicate, if_pos e5])]
         · rw [if_neg (by omega), ypz hL (v := 0) (by rw [List.getElem?_append_right (by simp; omega), List.length_replicate, List.getElem?_replicate, if_pos (by omega)])];exact hz _ (by omega)
       · rw [if_neg (by omega), ypx hL (by simp; omega)]
theorem yok {x y k : Nat} (hx : x < 2 ^ k) (hy : y < 18446744073709551616) (hk : k ≤ 64) (h0 : y % 2 ^ k = 0) : IntKind.u64.wrap (BitVec.ofInt IntKind.u64.bits (x : Int) ||| BitVec.ofInt IntKind.u64.bits (y : Int)).toNat = ((x + y : Nat) : Int) := by
 rw [BitVec.or_comm, Nat.add_comm];exact or_maskO hy hx hk h0
theorem const0_any (w : World) : Calls Try.prog 19 #[.int .i64 0] w fun e w' => e = .returned (.tuple #[.int .u64 2, .int .i64 0]) ∧ Below w.heap.size w w' := by
 refine yb Try.func19 rfl Try.ntmps19 rfl (srx (avx rfl (anx rfl (zl (srx (mvx rfl (za rfl (qo rfl rfl (mvx rfl (onx rfl (zp rfl (onx rfl (vf rfl rfl (za rfl (zm rfl rfl (rnx (zw rfl (zt (zj (srx (mvx rfl (za rfl (qc (z := 0) Try.underlying25 Try.underlying3 rfl (by kernel_rfl) (za rfl (oq (z := 0) rfl rfl (by decide) (by kernel_rfl) (za rfl (ycq (z := 2) rfl rfl (by kernel_rfl) (avx rfl (anx rfl (zo (zn (rs := [.tmp 2, .tmp 3]) (vs := [_, _]) rfl ⟨rfl, rfl, trivial⟩ ?_)))))))))))))))))))))))))))))))
 exact ⟨rfl, Below.refl _ _⟩
section
variable (lo gm gW cap top k t r : Nat) (w : World) (W : List Nat) (hM : OwnM lo w gm gW cap W top) (hk : 1 ≤ k ∧ k < 256) (ht : t ≤ 1048576) (hr : r ≤ 1048576) (hmW : gm ≠ gW)
include hM hk ht hr hmW
theorem aalloc_ok (hz : ∀ i, top ≤ i → wat W i = 0) (hf : top + (2 + t + r) ≤ W.length) : Calls Try.prog 40 #[.pointer (some ⟨gm, 0, none⟩), .int .i64 ((k : Nat) : Int), .int .i64 ((t : Nat) : Int), .int .i64 ((r : Nat) : Int)] w fun e w' => e = .returned (.tuple #[.int .i64 ((top : Nat) : Int), .int .i64 0]) ∧ OwnM lo w' gm gW cap (laid W top k (List.replicate t 2) (List.replicate r 0)) (top + (2 + t + r)) ∧ Ext (Mut [some gm, some gW]) w w' := by
 have h1 := hM.one;have h3 := hM.len;have h4 := hM.most;have hXm : ∀ q, Mut [some gm] q → Mut [some gm, some gW] q := fun q hq => Or.inl (by rw [qd hq]);have hXw : ∀ q, Mut [some gW] q → Mut [some gm, some gW] q := fun q hq => Or.inr (Or.inl (by rw [qd hq]));refine yb Try.func40 rfl Try.ntmps40 rfl (srx (avx rfl (anx rfl (zl (zl ?_)))))
 refine qt (No) Mut.none_ [] [] (gg [Fx.of (.pointer (some ⟨gm, 0, none⟩)),
  Fx.of (.bool false),
  Fx.of (.bool false),
  Fx.of (.pointer (some ⟨gm, 0, none⟩)),
  Fx.of (.pointer (some ⟨gm, 0, none⟩)),
  Fx.of (.pointer (some ⟨gm, 1, none⟩)),
  Fx.of (.int .i64 ((top : Nat) : Int)),
  Fx.of (.bool false),
  Fx.of (.bool false),
  Fx.of (.bool false),
  Fx.of (.pointer (some ⟨gm, 0, none⟩)),
  Fx.of (.pointer (some ⟨gm, 0, none⟩)),
  Fx.of (.pointer (some ⟨gm, 1, none⟩)),
  Fx.of (.int .i64 ((top : Nat) : Int)),
  Fx.of (.pointer (some ⟨gm, 0, none⟩)),
  Fx.of (.pointer (some ⟨gm, 0, none⟩)),
  Fx.of (.pointer (some ⟨gm, 0, none⟩)),
  Fx.of (.slice (some ⟨gW, 0, none⟩) W.length cap),
  Fx.of (.int .i64 (((W.length : Nat)) : Int)),
  Fx.of (.bool false),
  Fx.of (.bool false),
  Fx.of (.bool false),
  Fx.of (.int .i64 ((k : Nat) : Int)),
  Fx.of (.bool false),
  Fx.of (.bool false),
  Fx.of (.bool false),
  Fx.of (.int .i64 ((k : Nat) : Int)),
  Fx.of (.bool false),
  Fx.of (.bool false),
  Fx.of (.bool false),
  Fx.of (.int .i64 ((t : Nat) : Int)),
  Fx.of (.bool false),
  Fx.of (.bool false),
  Fx.of (.bool false),
  Fx.of (.int .i64 ((r : Nat) : Int)),
  Fx.of (.bool false),
  Fx.of (.bool false),
  Fx.of (.bool false),
  Fx.of (.int .i64 ((t : Nat) : Int)),
  Fx.of (.bool false),
  Fx.of (.bool false),
  Fx.of (.bool false),
  Fx.of (.int .i64 ((r : Nat) : Int)),
  Fx.of (.bool false),
  Fx.of (.bool false)]) vu rfl trivial (fun _ h => by cases h) ?_ ?_
 · refine ⟨?_, ?_, ?_, ?_, ?_, ?_, ?_, ?_, ?_, ?_, ?_, ?_, ?_, ?_, ?_, ?_, ?_, ?_, ?_, ?_, ?_, ?_, ?_, ?_, ?_, ?_, ?_, ?_, ?_, ?_, ?_, ?_, ?_, ?_, ?_, ?_, ?_, ?_, ?_, ?_, ?_, ?_, ?_, ?_, ?_, trivial⟩
   · intro vs X wq K;exact zp rfl ⟨Below.refl _ _, Left.of rfl⟩
   · intro vs X wq K;obtain ⟨_, e0, k0⟩ := K.dep 0 rfl rfl rfl;refine zc 16 (.pointer (some ⟨gm, 0, none⟩)) rfl e0 ?_;exact yiq Try.underlying38 rfl rfl ⟨Below.refl _ _, Left.of rfl⟩
   · intro vs X wq K;obtain ⟨_, e1, k1⟩ := K.dep 1 rfl rfl rfl;refine zc 17 (.bool false) rfl e1 ?_;exact zp rfl ⟨Below.refl _ _, Left.of rfl⟩
   · intro vs X wq K;obtain ⟨_, e2, k2⟩ := K.dep 2 rfl rfl rfl;refine zc 18 (.bool false) rfl e2 ?_;exact yg rfl (zp rfl ⟨Below.refl _ _, Left.of rfl⟩)
   · intro vs X wq K;obtain ⟨_, e3, k3⟩ := K.dep 3 rfl rfl rfl;refine zc 19 (.pointer (some ⟨gm, 0, none⟩)) rfl e3 ?_;obtain ⟨_, e2, k2⟩ := K.dep 2 rfl rfl rfl;refine zc 18 (.bool false) rfl e2 ?_;exact yg rfl (yo rfl ⟨Below.refl _ _, Left.of rfl⟩)
   · intro vs X wq K;obtain ⟨_, e4, k4⟩ := K.dep 4 rfl rfl rfl;refine zc 20 (.pointer (some ⟨gm, 0, none⟩)) rfl e4 ?_;obtain ⟨_, e2, k2⟩ := K.dep 2 rfl rfl rfl;refine zc 18 (.bool false) rfl e2 ?_;exact yg rfl (zf Try.underlying24 rfl sz3 (by decide) rfl ⟨Below.refl _ _, Left.of rfl⟩)
   · intro vs X wq K;have LE := K.1;obtain ⟨_, e5, k5⟩ := K.dep 5 rfl rfl rfl;refine zc 21 (.pointer (some ⟨gm, 1, none⟩)) rfl e5 ?_;obtain ⟨_, e2, k2⟩ := K.dep 2 rfl rfl rfl;refine zc 18 (.bool false) rfl e2 ?_;exact yg rfl (zk Try.underlying3 rfl rfl (qj LE hM.mb) rfl ⟨Below.refl _ _, Left.of rfl⟩)
   · intro vs X wq K;obtain ⟨_, e6, k6⟩ := K.dep 6 rfl rfl rfl;refine zc 22 (.int .i64 ((top : Nat) : Int)) rfl e6 ?_;obtain ⟨_, e2, k2⟩ := K.dep 2 rfl rfl rfl;refine zc 18 (.bool false) rfl e2 ?_;exact yg rfl (qo rfl rfl ⟨Below.refl _ _, Left.of ((by rw [decide_eq_false]; omega : (.bool (decide (((top : Nat) : Int) < 1)) : Value) = _))⟩)
   · intro vs X wq K;obtain ⟨_, e2, k2⟩ := K.dep 2 rfl rfl rfl;refine zc 18 (.bool false) rfl e2 ?_;obtain ⟨_, e7, k7⟩ := K.dep 7 rfl rfl rfl;refine zc 23 (.bool false) rfl e7 ?_;exact zm rfl rfl ⟨Below.refl _ _, Left.of rfl⟩
   · intro vs X wq K;obtain ⟨_, e8, k8⟩ := K.dep 8 rfl rfl rfl;refine zc 24 (.bool false) rfl e8 ?_;exact zp rfl ⟨Below.refl _ _, Left.of rfl⟩
   · intro vs X wq K;obtain ⟨_, e9, k9⟩ := K.dep 9 rfl rfl rfl;refine zc 25 (.bool false) rfl e9 ?_;exact yg rfl (zp rfl ⟨Below.refl _ _, Left.of rfl⟩)
   · intro vs X wq K;obtain ⟨_, e10, k10⟩ := K.dep 10 rfl rfl rfl;refine zc 26 (.pointer (some ⟨gm, 0, none⟩)) rfl e10 ?_;obtain ⟨_, e9, k9⟩ := K.dep 9 rfl rfl rfl;refine zc 25 (.bool false) rfl e9 ?_;exact yg rfl (yo rfl ⟨Below.refl _ _, Left.of rfl⟩)
   · intro vs X wq K;obtain ⟨_, e11, k11⟩ := K.dep 11 rfl rfl rfl;refine zc 27 (.pointer (some ⟨gm, 0, none⟩)) rfl e11 ?_;obtain ⟨_, e9, k9⟩ := K.dep 9 rfl rfl rfl;refine zc 25 (.bool false) rfl e9 ?_;exact yg rfl (zf Try.underlying24 rfl sz3 (by decide) rfl ⟨Below.refl _ _, Left.of rfl⟩)
   · intro vs X wq K;have LE := K.1;obtain ⟨_, e12, k12⟩ := K.dep 12 rfl rfl rfl;refine zc 28 (.pointer (some ⟨gm, 1, none⟩)) rfl e12 ?_;obtain ⟨_, e9, k9⟩ := K.dep 9 rfl rfl rfl;refine zc 25 (.bool false) rfl e9 ?_;exact yg rfl (zk Try.underlying3 rfl rfl (qj LE hM.mb) rfl ⟨Below.refl _ _, Left.of rfl⟩)
   · intro vs X wq K;obtain ⟨_, e9, k9⟩ := K.dep 9 rfl rfl rfl;refine zc 25 (.bool false) rfl e9 ?_;exact yg rfl (zp rfl ⟨Below.refl _ _, Left.of rfl⟩)
   · intro vs X wq K;obtain ⟨_, e14, k14⟩ := K.dep 14 rfl rfl rfl;refine zc 30 (.pointer (some ⟨gm, 0, none⟩)) rfl e14 ?_;obtain ⟨_, e9, k9⟩ := K.dep 9 rfl rfl rfl;refine zc 25 (.bool false) rfl e9 ?_;exact yg rfl (yo rfl ⟨Below.refl _ _, Left.of rfl⟩)
   · intro vs X wq K;obtain ⟨_, e15, k15⟩ := K.dep 15 rfl rfl rfl;refine zc 31 (.pointer (some ⟨gm, 0, none⟩)) rfl e15 ?_;obtain ⟨_, e9, k9⟩ := K.dep 9 rfl rfl rfl;refine zc 25 (.bool false) rfl e9 ?_;exact yg rfl (zf Try.underlying24 rfl kl (by decide) rfl ⟨Below.refl _ _, Left.of rfl⟩)
   · intro vs X wq K;have LE := K.1;obtain ⟨_, e16, k16⟩ := K.dep 16 rfl rfl rfl;refine zc 32 (.pointer (some ⟨gm, 0, none⟩)) rfl e16 ?_;obtain ⟨_, e9, k9⟩ := K.dep 9 rfl rfl rfl;refine zc 25 (.bool false) rfl e9 ?_;exact yg rfl (zk Try.underlying22 rfl rfl (qj LE hM.mb) rfl ⟨Below.refl _ _, Left.of rfl⟩)
   · intro vs X wq K;obtain ⟨_, e17, k17⟩ := K.dep 17 rfl rfl rfl;refine zc 33 (.slice (some ⟨gW, 0, none⟩) W.length cap) rfl e17 ?_;obtain ⟨_, e9, k9⟩ := K.dep 9 rfl rfl rfl;refine zc 25 (.bool false) rfl e9 ?_;exact yg rfl (qe Try.underlying22 rfl ⟨Below.refl _ _, Left.of rfl⟩)
   · intro vs X wq K;obtain ⟨_, e13, k13⟩ := K.dep 13 rfl rfl rfl;refine zc 29 (.int .i64 ((top : Nat) : Int)) rfl e13 ?_;obtain ⟨_, e18, k18⟩ := K.dep 18 rfl rfl rfl;refine zc 34 (.int .i64 (((W.length : Nat)) : Int)) rfl e18 ?_;obtain ⟨_, e9, k9⟩ := K.dep 9 rfl rfl rfl;refine zc 25 (.bool false) rfl e9 ?_
     exact yg rfl (vf rfl rfl ⟨Below.refl _ _, Left.of ((by rw [decide_eq_false]; omega : (.bool (decide ((((W.length : Nat)) : Int) < ((top : Nat) : Int))) : Value) = _))⟩)
   · intro vs X wq K;obtain ⟨_, e9, k9⟩ := K.dep 9 rfl rfl rfl;refine zc 25 (.bool false) rfl e9 ?_;obtain ⟨_, e19, k19⟩ := K.dep 19 rfl rfl rfl;refine zc 35 (.bool false) rfl e19 ?_;exact zm rfl rfl ⟨Below.refl _ _, Left.of rfl⟩
   · intro vs X wq K;obtain ⟨_, e20, k20⟩ := K.dep 20 rfl rfl rfl;refine zc 36 (.bool false) rfl e20 ?_;exact zp rfl ⟨Below.refl _ _, Left.of rfl⟩
   · intro vs X wq K;obtain ⟨_, e21, k21⟩ := K.dep 21 rfl rfl rfl;refine zc 37 (.bool false) rfl e21 ?_;exact yg rfl (zp rfl ⟨Below.refl _ _, Left.of rfl⟩)
   · intro vs X wq K;obtain ⟨_, e22, k22⟩ := K.dep 22 rfl rfl rfl;refine zc 38 (.int .i64 ((k : Nat) : Int)) rfl e22 ?_;obtain ⟨_, e21, k21⟩ := K.dep 21 rfl rfl rfl;refine zc 37 (.bool false) rfl e21 ?_;exact yg rfl (qo rfl rfl ⟨Below.refl _ _, Left.of ((by rw [decide_eq_false]; omega : (.bool (decide (((k : Nat) : Int) < 1)) : Value) = _))⟩)
   · intro vs X wq K;obtain ⟨_, e21, k21⟩ := K.dep 21 rfl rfl rfl;refine zc 37 (.bool false) rfl e21 ?_;obtain ⟨_, e23, k23⟩ := K.dep 23 rfl rfl rfl;refine zc 39 (.bool false) rfl e23 ?_;exact zm rfl rfl ⟨Below.refl _ _, Left.of rfl⟩
   · intro vs X wq K;obtain ⟨_, e24, k24⟩ := K.dep 24 rfl rfl rfl;refine zc 40 (.bool false) rfl e24 ?_;exact zp rfl ⟨Below.refl _ _, Left.of rfl⟩
   · intro vs X wq K;obtain ⟨_, e25, k25⟩ := K.dep 25 rfl rfl rfl;refine zc 41 (.bool false) rfl e25 ?_;exact yg rfl (zp rfl ⟨Below.refl _ _, Left.of rfl⟩)
   · intro vs X wq K;obtain ⟨_, e26, k26⟩ := K.dep 26 rfl rfl rfl;refine zc 42 (.int .i64 ((k : Nat) : Int)) rfl e26 ?_;obtain ⟨_, e25, k25⟩ := K.dep 25 rfl rfl rfl;refine zc 41 (.bool false) rfl e25 ?_;exact yg rfl (vf rfl rfl ⟨Below.refl _ _, Left.of ((by rw [decide_eq_false]; omega : (.bool (decide (255 < ((k : Nat) : Int))) : Value) = _))⟩)
   · intro vs X wq K;obtain ⟨_, e25, k25⟩ := K.dep 25 rfl rfl rfl;refine zc 41 (.bool false) rfl e25 ?_;obtain ⟨_, e27, k27⟩ := K.dep 27 rfl rfl rfl;refine zc 43 (.bool false) rfl e27 ?_;exact zm rfl rfl ⟨Below.refl _ _, Left.of rfl⟩
   · intro vs X wq K;obtain ⟨_, e28, k28⟩ := K.dep 28 rfl rfl rfl;refine zc 44 (.bool false) rfl e28 ?_;exact zp rfl ⟨Below.refl _ _, Left.of rfl⟩
   · intro vs X wq K;obtain ⟨_, e29, k29⟩ := K.dep 29 rfl rfl rfl;refine zc 45 (.bool false) rfl e29 ?_;exact yg rfl (zp rfl ⟨Below.refl _ _, Left.of rfl⟩)
   · intro vs X wq K;obtain ⟨_, e30, k30⟩ := K.dep 30 rfl rfl rfl;refine zc 46 (.int .i64 ((t : Nat) : Int)) rfl e30 ?_;obtain ⟨_, e29, k29⟩ := K.dep 29 rfl rfl rfl;refine zc 45 (.bool false) rfl e29 ?_;exact yg rfl (qo rfl rfl ⟨Below.refl _ _, Left.of ((by rw [decide_eq_false]; omega : (.bool (decide (((t : Nat) : Int) < 0)) : Value) = _))⟩)
   · intro vs X wq K;obtain ⟨_, e29, k29⟩ := K.dep 29 rfl rfl rfl;refine zc 45 (.bool false) rfl e29 ?_;obtain ⟨_, e31, k31⟩ := K.dep 31 rfl rfl rfl;refine zc 47 (.bool false) rfl e31 ?_;exact zm rfl rfl ⟨Below.refl _ _, Left.of rfl⟩
   · intro vs X wq K;obtain ⟨_, e32, k32⟩ := K.dep 32 rfl rfl rfl;refine zc 48 (.bool false) rfl e32 ?_;exact zp rfl ⟨Below.refl _ _, Left.of rfl⟩
   · intro vs X wq K;obtain ⟨_, e33, k33⟩ := K.dep 33 rfl rfl rfl;refine zc 49 (.bool false) rfl e33 ?_;exact yg rfl (zp rfl ⟨Below.refl _ _, Left.of rfl⟩)
   · intro vs X wq K;obtain ⟨_, e34, k34⟩ := K.dep 34 rfl rfl rfl;refine zc 50 (.int .i64 ((r : Nat) : Int)) rfl e34 ?_;obtain ⟨_, e33, k33⟩ := K.dep 33 rfl rfl rfl;refine zc 49 (.bool false) rfl e33 ?_;exact yg rfl (qo rfl rfl ⟨Below.refl _ _, Left.of ((by rw [decide_eq_false]; omega : (.bool (decide (((r : Nat) : Int) < 0)) : Value) = _))⟩)
   · intro vs X wq K;obtain ⟨_, e33, k33⟩ := K.dep 33 rfl rfl rfl;refine zc 49 (.bool false) rfl e33 ?_;obtain ⟨_, e35, k35⟩ := K.dep 35 rfl rfl rfl;refine zc 51 (.bool false) rfl e35 ?_;exact zm rfl rfl ⟨Below.refl _ _, Left.of rfl⟩
   · intro vs X wq K;obtain ⟨_, e36, k36⟩ := K.dep 36 rfl rfl rfl;refine zc 52 (.bool false) rfl e36 ?_;exact zp rfl ⟨Below.refl _ _, Left.of rfl⟩
   · intro vs X wq K;obtain ⟨_, e37, k37⟩ := K.dep 37 rfl rfl rfl;refine zc 53 (.bool false) rfl e37 ?_;exact yg rfl (zp rfl ⟨Below.refl _ _, Left.of rfl⟩)
   · intro vs X wq K;obtain ⟨_, e38, k38⟩ := K.dep 38 rfl rfl rfl;refine zc 54 (.int .i64 ((t : Nat) : Int)) rfl e38 ?_;obtain ⟨_, e37, k37⟩ := K.dep 37 rfl rfl rfl;refine zc 53 (.bool false) rfl e37 ?_;exact yg rfl (vf rfl rfl ⟨Below.refl _ _, Left.of ((by rw [decide_eq_false]; omega : (.bool (decide (1048576 < ((t : Nat) : Int))) : Value) = _))⟩)
   · intro vs X wq K;obtain ⟨_, e37, k37⟩ := K.dep 37 rfl rfl rfl;refine zc 53 (.bool false) rfl e37 ?_;obtain ⟨_, e39, k39⟩ := K.dep 39 rfl rfl rfl;refine zc 55 (.bool false) rfl e39 ?_;exact zm rfl rfl ⟨Below.refl _ _, Left.of rfl⟩
   · intro vs X wq K;obtain ⟨_, e40, k40⟩ := K.dep 40 rfl rfl rfl;refine zc 56 (.bool false) rfl e40 ?_;exact zp rfl ⟨Below.refl _ _, Left.of rfl⟩
   · intro vs X wq K;obtain ⟨_, e41, k41⟩ := K.dep 41 rfl rfl rfl;refine zc 57 (.bool false) rfl e41 ?_;exact yg rfl (zp rfl ⟨Below.refl _ _, Left.of rfl⟩)
   · intro vs X wq K;obtain ⟨_, e42, k42⟩ := K.dep 42 rfl rfl rfl;refine zc 58 (.int .i64 ((r : Nat) : Int)) rfl e42 ?_;obtain ⟨_, e41, k41⟩ := K.dep 41 rfl rfl rfl;refine zc 57 (.bool false) rfl e41 ?_;exact yg rfl (vf rfl rfl ⟨Below.refl _ _, Left.of ((by rw [decide_eq_false]; omega : (.bool (decide (1048576 < ((r : Nat) : Int))) : Value) = _))⟩)
   · intro vs X wq K;obtain ⟨_, e41, k41⟩ := K.dep 41 rfl rfl rfl;refine zc 57 (.bool false) rfl e41 ?_;obtain ⟨_, e43, k43⟩ := K.dep 43 rfl rfl rfl;refine zc 59 (.bool false) rfl e43 ?_;exact zm rfl rfl ⟨Below.refl _ _, Left.of rfl⟩
 intro vs w1 LE AO AL AF AA;have hbd : Below (w).heap.size (w) w1 := (((Ext.refl No (w)).drew).trans LE).toBelow;obtain ⟨_, e44, k44⟩ := AL.2.2.2.2.2.2.2.2.2.2.2.2.2.2.2.2.2.2.2.2.2.2.2.2.2.2.2.2.2.2.2.2.2.2.2.2.2.2.2.2.2.2.2.2.1;refine qy (τ := [(0, _), (1, _), (2, _), (3, _), (8, _), (9, _), (60, .bool false)]) ⟨rfl, rfl, rfl, rfl, rfl, rfl, congrArg some e44, trivial⟩ ?_;clear AL AF AA AO
 have E1 := Ext.of_below hbd No;obtain ⟨wu1, hwu1⟩ : ∃ wu1, wu1 = w1 := ⟨_, rfl⟩;subst hwu1;have hM1 := hM.ext E1 (fun h => h) (fun h => h)
 refine zj (zw rfl (zt (zj (srx (mvx rfl (za rfl (yp rfl rfl (zy (by omega)) (mvx rfl (za rfl (yp rfl rfl (zy (by omega)) (anx rfl (zl (zl (yd 10 (.int .i64 ((2 + t + r : Nat) : Int)) rfl ((by first | rfl | (congr 1; omega) : (.int .i64 ((2 + ((t : Nat) : Int)) + ((r : Nat) : Int)) : Value) = _)) ?_))))))))))))))
 refine qt (No) Mut.none_ [] [] (gg [Fx.of (.int .i64 ((2 + t + r : Nat) : Int)),
  Fx.of (.bool false),
  Fx.of (.bool false),
  Fx.of (.int .i64 ((2 + t + r : Nat) : Int)),
  Fx.of (.pointer (some ⟨gm, 0, none⟩)),
  Fx.of (.pointer (some ⟨gm, 0, none⟩)),
  Fx.of (.pointer (some ⟨gm, 0, none⟩)),
  Fx.of (.slice (some ⟨gW, 0, none⟩) W.length cap),
  Fx.of (.int .i64 (((W.length : Nat)) : Int)),
  Fx.of (.pointer (some ⟨gm, 0, none⟩)),
  Fx.of (.pointer (some ⟨gm, 0, none⟩)),
  Fx.of (.pointer (some ⟨gm, 1, none⟩)),
  Fx.of (.int .i64 ((top : Nat) : Int)),
  Fx.of (.int .i64 ((((W.length : Nat)) : Int) - ((top : Nat) : Int))),
  Fx.of (.bool false),
  Fx.of (.bool false)]) vu rfl trivial (fun _ h => by cases h) ?_ ?_
 · refine ⟨?_, ?_, ?_, ?_, ?_, ?_, ?_, ?_, ?_, ?_, ?_, ?_, ?_, ?_, ?_, ?_, trivial⟩
   · intro vs X wq K;exact zp rfl ⟨Below.refl _ _, Left.of rfl⟩
   · intro vs X wq K;obtain ⟨_, e0, k0⟩ := K.dep 0 rfl rfl rfl;refine zc 65 (.int .i64 ((2 + t + r : Nat) : Int)) rfl e0 ?_;exact jr rfl rfl ⟨Below.refl _ _, Left.of ((by rw [decide_eq_false]; omega : (.bool (decide (16777216 ≤ ((2 + t + r : Nat) : Int))) : Value) = _))⟩
   · intro vs X wq K;obtain ⟨_, e1, k1⟩ := K.dep 1 rfl rfl rfl;refine zc 66 (.bool false) rfl e1 ?_;exact zp rfl ⟨Below.refl _ _, Left.of rfl⟩
   · intro vs X wq K;obtain ⟨_, e2, k2⟩ := K.dep 2 rfl rfl rfl;refine zc 67 (.bool false) rfl e2 ?_;exact yg rfl (zp rfl ⟨Below.refl _ _, Left.of rfl⟩)
   · intro vs X wq K;obtain ⟨_, e2, k2⟩ := K.dep 2 rfl rfl rfl;refine zc 67 (.bool false) rfl e2 ?_;exact yg rfl (zp rfl ⟨Below.refl _ _, Left.of rfl⟩)
   · intro vs X wq K;obtain ⟨_, e4, k4⟩ := K.dep 4 rfl rfl rfl;refine zc 69 (.pointer (some ⟨gm, 0, none⟩)) rfl e4 ?_;obtain ⟨_, e2, k2⟩ := K.dep 2 rfl rfl rfl;refine zc 67 (.bool false) rfl e2 ?_;exact yg rfl (yo rfl ⟨Below.refl _ _, Left.of rfl⟩)
   · intro vs X wq K;obtain ⟨_, e5, k5⟩ := K.dep 5 rfl rfl rfl;refine zc 70 (.pointer (some ⟨gm, 0, none⟩)) rfl e5 ?_;obtain ⟨_, e2, k2⟩ := K.dep 2 rfl rfl rfl;refine zc 67 (.bool false) rfl e2 ?_;exact yg rfl (zf Try.underlying24 rfl kl (by decide) rfl ⟨Below.refl _ _, Left.of rfl⟩)
   · intro vs X wq K;have LE := K.1;obtain ⟨_, e6, k6⟩ := K.dep 6 rfl rfl rfl;refine zc 71 (.pointer (some ⟨gm, 0, none⟩)) rfl e6 ?_;obtain ⟨_, e2, k2⟩ := K.dep 2 rfl rfl rfl;refine zc 67 (.bool false) rfl e2 ?_;exact yg rfl (zk Try.underlying22 rfl rfl (qj LE hM1.mb) rfl ⟨Below.refl _ _, Left.of rfl⟩)
   · intro vs X wq K;obtain ⟨_, e7, k7⟩ := K.dep 7 rfl rfl rfl;refine zc 72 (.slice (some ⟨gW, 0, none⟩) W.length cap) rfl e7 ?_;obtain ⟨_, e2, k2⟩ := K.dep 2 rfl rfl rfl;refine zc 67 (.bool false) rfl e2 ?_;exact yg rfl (qe Try.underlying22 rfl ⟨Below.refl _ _, Left.of rfl⟩)
   · intro vs X wq K;obtain ⟨_, e2, k2⟩ := K.dep 2 rfl rfl rfl;refine zc 67 (.bool false) rfl e2 ?_;exact yg rfl (zp rfl ⟨Below.refl _ _, Left.of rfl⟩)
   · intro vs X wq K;obtain ⟨_, e9, k9⟩ := K.dep 9 rfl rfl rfl;refine zc 74 (.pointer (some ⟨gm, 0, none⟩)) rfl e9 ?_;obtain ⟨_, e2, k2⟩ := K.dep 2 rfl rfl rfl;refine zc 67 (.bool false) rfl e2 ?_;exact yg rfl (yo rfl ⟨Below.refl _ _, Left.of rfl⟩)
   · intro vs X wq K;obtain ⟨_, e10, k10⟩ := K.dep 10 rfl rfl rfl;refine zc 75 (.pointer (some ⟨gm, 0, none⟩)) rfl e10 ?_;obtain ⟨_, e2, k2⟩ := K.dep 2 rfl rfl rfl;refine zc 67 (.bool false) rfl e2 ?_;exact yg rfl (zf Try.underlying24 rfl sz3 (by decide) rfl ⟨Below.refl _ _, Left.of rfl⟩)
   · intro vs X wq K;have LE := K.1;obtain ⟨_, e11, k11⟩ := K.dep 11 rfl rfl rfl;refine zc 76 (.pointer (some ⟨gm, 1, none⟩)) rfl e11 ?_;obtain ⟨_, e2, k2⟩ := K.dep 2 rfl rfl rfl;refine zc 67 (.bool false) rfl e2 ?_;exact yg rfl (zk Try.underlying3 rfl rfl (qj LE hM1.mb) rfl ⟨Below.refl _ _, Left.of rfl⟩)
   · intro vs X wq K;obtain ⟨_, e8, k8⟩ := K.dep 8 rfl rfl rfl;refine zc 73 (.int .i64 (((W.length : Nat)) : Int)) rfl e8 ?_;obtain ⟨_, e12, k12⟩ := K.dep 12 rfl rfl rfl;refine zc 77 (.int .i64 ((top : Nat) : Int)) rfl e12 ?_;obtain ⟨_, e2, k2⟩ := K.dep 2 rfl rfl rfl;refine zc 67 (.bool false) rfl e2 ?_
     exact yg rfl (vq rfl rfl (zy (by omega)) ⟨Below.refl _ _, Left.of rfl⟩)
   · intro vs X wq K;obtain ⟨_, e3, k3⟩ := K.dep 3 rfl rfl rfl;refine zc 68 (.int .i64 ((2 + t + r : Nat) : Int)) rfl e3 ?_;obtain ⟨_, e13, k13⟩ := K.dep 13 rfl rfl rfl;refine zc 78 (.int .i64 ((((W.length : Nat)) : Int) - ((top : Nat) : Int))) rfl e13 ?_;obtain ⟨_, e2, k2⟩ := K.dep 2 rfl rfl rfl;refine zc 67 (.bool false) rfl e2 ?_
     exact yg rfl (vf rfl rfl ⟨Below.refl _ _, Left.of ((by rw [decide_eq_false]; omega : (.bool (decide (((((W.length : Nat)) : Int) - ((top : Nat) : Int)) < ((2 + t + r : Nat) : Int))) : Value) = _))⟩)
   · intro vs X wq K;obtain ⟨_, e2, k2⟩ := K.dep 2 rfl rfl rfl;refine zc 67 (.bool false) rfl e2 ?_;obtain ⟨_, e14, k14⟩ := K.dep 14 rfl rfl rfl;refine zc 79 (.bool false) rfl e14 ?_;exact zm rfl rfl ⟨Below.refl _ _, Left.of rfl⟩
 intro vs w2 LE AO AL AF AA;have hbd : Below (wu1).heap.size (wu1) w2 := (((Ext.refl No (wu1)).drew).trans LE).toBelow;obtain ⟨_, e15, k15⟩ := AL.2.2.2.2.2.2.2.2.2.2.2.2.2.2.2.1;refine qy (τ := [(0, _), (1, _), (2, _), (8, _), (9, _), (10, _), (80, .bool false)]) ⟨rfl, rfl, rfl, rfl, rfl, rfl, congrArg some e15, trivial⟩ ?_;clear AL AF AA AO;have E2 := E1.trans (Ext.of_below hbd No)
 have hM2 := hM1.ext (Ext.of_below hbd No) (fun h => h) (fun h => h)
 refine zj (zw rfl (zt (zj (srx (mvx rfl (za rfl (yo rfl (za rfl (zf Try.underlying24 rfl sz3 (by decide) rfl (za rfl (zk Try.underlying3 rfl rfl hM2.mb rfl (anx rfl (srx (mvx rfl (za rfl (yo rfl (za rfl (zf Try.underlying24 rfl sz3 (by decide) rfl (za rfl (zk Try.underlying3 rfl rfl hM2.mb rfl (mvx rfl (za rfl (yp rfl rfl (zy (by omega)) (za rfl (yo rfl (za rfl (zf Try.underlying24 rfl sz3 (by decide) rfl (yn (ko (cs' := #[.slice (some ⟨gW, 0, none⟩) W.length cap, .int .i64 ((top + (2 + t + r) : Nat) : Int)]) sz3 rfl rfl hM2.mb rfl rfl (Nat.le_of_ble_eq_true rfl) (by rw [show (((top + (2 + t + r) : Nat)) : Int) = ((top : Nat) : Int) + ((2 + t + r : Nat) : Int) from by omega]; rfl) ?_)))))))))))))))))))))))))))))
 rintro wu3 bm3 E3;have hM3 : OwnM lo wu3 gm gW cap W (top + (2 + t + r)) := ⟨bm3, gf hM2.row E3 (fun q hq hx => by cases hq; exact hmW (qd hx).symm), hM.in_, by omega, hf, h4⟩;have hE3 : Ext (Mut [some gm, some gW]) w wu3 := (E2.mono (Y := Mut [some gm, some gW]) (fun _ h _ => h.elim)).step E3 (fun q hq => Or.inl (hXm q hq))
 refine rnx (srx (za rfl (zi en19 rfl ((const0_any _).mono ?_))));rintro e w3 ⟨rfl, hb⟩;refine ⟨_, rfl, ?_⟩;have E4 := Ext.of_below hb No;have hM4 := hM3.ext E4 (fun h => h) (fun h => h);have hE4 := hE3.step E4 (fun _ h => h.elim);have hcap : W.length ≤ cap := by
  rcases hM4.row.2 with ⟨h9, _⟩ | ⟨g9, c9, u9, h9, _, _, h8, _⟩
  · cases h9
  · cases h9; exact h8
 refine mvx rfl (za rfl (zg rfl rfl (za rfl (zg rfl rfl (avx rfl (anx rfl (zl (zl ?_))))))));refine qt (No) Mut.none_ [] [] (gg [Fx.of (.pointer (some ⟨gm, 0, none⟩)),
  Fx.of (.pointer (some ⟨gm, 0, none⟩)),
  Fx.of (.pointer (some ⟨gm, 0, none⟩)),
  Fx.of (.slice (some ⟨gW, 0, none⟩) W.length cap),
  Fx.of (.int .i64 ((top : Nat) : Int)),
  Fx.of (.pointer (some ⟨gm, 0, none⟩)),
  Fx.of (.pointer (some ⟨gm, 0, none⟩)),
  Fx.of (.pointer (some ⟨gm, 1, none⟩)),
  Fx.of (.int .i64 ((top + (2 + t + r) : Nat) : Int)),
  Fx.of (.slice (if cap = top then (some ⟨gW, 0, none⟩) else (some (⟨gW, 0, none⟩ : Addr)).map (·.add (top * 1))) (top + (2 + t + r) - top) (cap - top)),
  Fx.of (.int .i64 ((((top + (2 + t + r) - top) : Nat)) : Int)),
  Fx.of (.int .i64 0)]) vu rfl trivial (fun _ h => by cases h) ?_ ?_
 · refine ⟨?_, ?_, ?_, ?_, ?_, ?_, ?_, ?_, ?_, ?_, ?_, ?_, trivial⟩
   · intro vs X wq K;exact zp rfl ⟨Below.refl _ _, Left.of rfl⟩
   · intro vs X wq K;obtain ⟨_, e0, k0⟩ := K.dep 0 rfl rfl rfl;refine zc 97 (.pointer (some ⟨gm, 0, none⟩)) rfl e0 ?_;exact yo rfl ⟨Below.refl _ _, Left.of rfl⟩
   · intro vs X wq K;obtain ⟨_, e1, k1⟩ := K.dep 1 rfl rfl rfl;refine zc 98 (.pointer (some ⟨gm, 0, none⟩)) rfl e1 ?_;exact zf Try.underlying24 rfl kl (by decide) rfl ⟨Below.refl _ _, Left.of rfl⟩
   · intro vs X wq K;have LE := K.1;obtain ⟨_, e2, k2⟩ := K.dep 2 rfl rfl rfl;refine zc 99 (.pointer (some ⟨gm, 0, none⟩)) rfl e2 ?_;exact zk Try.underlying22 rfl rfl (qj LE hM4.mb) rfl ⟨Below.refl _ _, Left.of rfl⟩
   · intro vs X wq K;exact zp rfl ⟨Below.refl _ _, Left.of rfl⟩
   · intro vs X wq K;exact zp rfl ⟨Below.refl _ _, Left.of rfl⟩
   · intro vs X wq K;obtain ⟨_, e5, k5⟩ := K.dep 5 rfl rfl rfl;refine zc 102 (.pointer (some ⟨gm, 0, none⟩)) rfl e5 ?_;exact yo rfl ⟨Below.refl _ _, Left.of rfl⟩
   · intro vs X wq K;obtain ⟨_, e6, k6⟩ := K.dep 6 rfl rfl rfl;refine zc 103 (.pointer (some ⟨gm, 0, none⟩)) rfl e6 ?_;exact zf Try.underlying24 rfl sz3 (by decide) rfl ⟨Below.refl _ _, Left.of rfl⟩
   · intro vs X wq K;have LE := K.1;obtain ⟨_, e7, k7⟩ := K.dep 7 rfl rfl rfl;refine zc 104 (.pointer (some ⟨gm, 1, none⟩)) rfl e7 ?_;exact zk Try.underlying3 rfl rfl (qj LE hM4.mb) rfl ⟨Below.refl _ _, Left.of rfl⟩
   · intro vs X wq K;obtain ⟨_, e3, k3⟩ := K.dep 3 rfl rfl rfl;refine zc 100 (.slice (some ⟨gW, 0, none⟩) W.length cap) rfl e3 ?_;obtain ⟨_, e4, k4⟩ := K.dep 4 rfl rfl rfl;refine zc 101 (.int .i64 ((top : Nat) : Int)) rfl e4 ?_;obtain ⟨_, e8, k8⟩ := K.dep 8 rfl rfl rfl;refine zc 105 (.int .i64 ((top + (2 + t + r) : Nat) : Int)) rfl e8 ?_
     exact ow_slice (l := top) (h := top + (2 + t + r)) Try.underlying22 vc rfl ⟨_, rfl⟩ ⟨_, rfl⟩ (by omega) (by omega) ⟨Below.refl _ _, Left.of rfl⟩
   · intro vs X wq K;obtain ⟨_, e9, k9⟩ := K.dep 9 rfl rfl rfl;refine zc 106 (.slice (if cap = top then (some ⟨gW, 0, none⟩) else (some (⟨gW, 0, none⟩ : Addr)).map (·.add (top * 1))) (top + (2 + t + r) - top) (cap - top)) rfl e9 ?_;exact qe Try.underlying22 rfl ⟨Below.refl _ _, Left.of rfl⟩
   · intro vs X wq K;exact zp rfl ⟨Below.refl _ _, Left.of rfl⟩
 intro vs w4 LE AO AL AF AA;have hbd : Below (w3).heap.size (w3) w4 := (((Ext.refl No (w3)).drew).trans LE).toBelow;obtain ⟨_, e10, k10⟩ := AL.2.2.2.2.2.2.2.2.2.2.1;obtain ⟨_, e11, k11⟩ := AL.2.2.2.2.2.2.2.2.2.2.2.1
 refine qy (τ := [(0, _), (1, _), (2, _), (8, _), (9, _), (10, _), (11, _), (12, _), (107, .int .i64 ((((top + (2 + t + r) - top) : Nat)) : Int)), (108, .int .i64 0)]) ⟨rfl, rfl, rfl, rfl, rfl, rfl, rfl, rfl, congrArg some e10, congrArg some e11, trivial⟩ ?_;clear AL AF AA AO;have hM5 := hM4.ext (Ext.of_below hbd No) (fun h => h) (fun h => h)
 have hE5 := hE4.step (Ext.of_below hbd No) (fun _ h => h.elim)
 refine zj (yh (jd (ι := Nat) (fun i => [(0, .pointer (some ⟨gm, 0, none⟩)), (1, .int .i64 ((k : Nat) : Int)), (2, .int .i64 ((t : Nat) : Int)), (10, .int .i64 ((2 + t + r : Nat) : Int)), (11, .int .i64 ((top : Nat) : Int)), (12, .int .u64 2), (107, .int .i64 ((top + (2 + t + r) - top : Nat) : Int)), (108, .int .i64 ((i : Nat) : Int))]) (fun i w' => i ≤ 2 + t + r ∧ OwnM lo w' gm gW cap W (top + (2 + t + r)) ∧ Ext (Mut [some gm, some gW]) w w') (fun i => 2 + t + r - i) 0 ⟨rfl, rfl, rfl, rfl, rfl, rfl, rfl, rfl, trivial⟩ (⟨Nat.zero_le _, hM5, hE5⟩) ?_))
 rintro i w6 ⟨hi0, hMi, hEi⟩;refine srx (za rfl (qo rfl rfl (rnx (zl (yv rfl (fun hc => ?_) (fun hc => ?_))))))
 ·
  have hc := of_decide_eq_true hc;have hlt : i < 2 + t + r := by omega
  refine zt (zj (zl (yh (srx (mvx rfl (anx rfl (yq (mvx rfl (za rfl (yo rfl (za rfl (zf Try.underlying24 rfl kl (by decide) rfl (za rfl (zk Try.underlying22 rfl rfl hMi.mb rfl (mvx rfl (mvx rfl (za rfl (yp rfl rfl (zy (by omega)) (za rfl (yc (j := top + i) Try.underlying22 vc rfl rfl (by omega) (by omega) (yn (zhq (o := 0 + (top + i)) (xs' := qu W) vc rfl rfl hMi.row (by omega) rfl rfl (by rw [Nat.zero_add]; exact (kg (x := 0)).trans (by rw [set_zero (by omega) (hz _ (by omega))])) ?_))))))))))))))))))))))
  rintro wS OS ES;refine qz (zx (zj (yq (za rfl (yp rfl rfl (zy (by omega)) (mvx rfl (qz ?_)))))))
  exact ve (i + 1) (by show 2 + t + r - (i + 1) < 2 + t + r - i; omega) ⟨rfl, rfl, rfl, rfl, rfl, rfl, rfl, rfl, trivial⟩ (⟨hlt, ⟨znv hMi.mb hMi.row (by decide) ES, OS, hMi.in_, hMi.one, hMi.len, hMi.most⟩, hEi.step ES (fun q hq => Or.inl (hXw q hq))⟩)
 ·
  obtain ⟨s, hs⟩ : ∃ s, s = 2 + t + r := ⟨_, rfl⟩;have hc := of_decide_eq_false hc
  refine yd 10 (.int .i64 ((s : Nat) : Int)) rfl ((by rw [hs] : (.int .i64 ((2 + t + r : Nat) : Int) : Value) = _)) (vo (yf (yf (yx (zj (srx (mvx rfl (za rfl (yo rfl (za rfl (zf Try.underlying24 rfl kl (by decide) rfl (za rfl (zk Try.underlying22 rfl rfl hMi.mb rfl (mvx rfl (mvx rfl (za rfl (qc Try.underlying25 Try.underlying3 rfl (wrap_u64 (by omega)) (mvx rfl (za rfl (qc Try.underlying25 Try.underlying3 rfl (wrap_u64 (by omega)) (za rfl (oq rfl rfl (by decide) (shl_O (x := t) (k := 8) (by decide) (by omega)) (za rfl (ycq rfl rfl (yok (x := k) (y := t * 2 ^ 8) (k := 8) (by omega) (by omega) (by decide) (by omega)) (mvx rfl (za rfl (qc Try.underlying25 Try.underlying3 rfl (wrap_u64 (by omega)) (za rfl (oq rfl rfl (by decide) (shl_O (x := s) (k := 32) (by decide) (by omega)) (za rfl (ycq rfl rfl (yok (x := k + t * 2 ^ 8) (y := s * 2 ^ 32) (k := 32) (by omega) (by omega) (by decide) (by omega)) (zq 134 (.int .u64 ((gu k t s : Nat) : Int)) rfl ((by congr 1; unfold gu; omega : (.int .u64 ((k + t * 2 ^ 8 + s * 2 ^ 32 : Nat) : Int) : Value) = _)) (za rfl (yc (j := top) Try.underlying22 vc rfl rfl rfl (by omega) (yn (zhq (o := 0 + top) (xs' := qu (W.set top (gu k t s))) vc rfl rfl hMi.row (by omega) rfl rfl (by rw [Nat.zero_add, kg]) ?_))))))))))))))))))))))))))))))))))))
  rintro wS OS ES;have hh : U64 (gu k t s) := by unfold U64 gu; omega
  have hM6 := hMi.put hh OS ES;have hE6 := hEi.step ES (fun q hq => Or.inl (hXw q hq));have hN0 : NewM W (W.set top (gu k t s)) top (gu k t s) 0 := .zero (by omega)
  refine rnx (zl (srx (mvx rfl (mvx rfl (rnx (yh (jd (ι := Nat × List Nat) (fun (j, V) => [(0, .pointer (some ⟨gm, 0, none⟩)), (11, .int .i64 ((top : Nat) : Int)), (12, .int .u64 2), (136, .int .i64 ((t : Nat) : Int)), (137, .int .i64 ((j : Nat) : Int))]) (fun (j, V) w' => j ≤ t ∧ NewM W V top (gu k t s) j ∧ OwnM lo w' gm gW cap V (top + (2 + t + r)) ∧ Ext (Mut [some gm, some gW]) w w') (fun (j, _) => t - j) (0, W.set top (gu k t s)) ⟨rfl, rfl, rfl, rfl, rfl, trivial⟩ (⟨Nat.zero_le _, hN0, hM6, hE6⟩) ?_)))))))
  rintro ⟨j, V⟩ w8 ⟨hjt, hNj, hMj, hEj⟩;have hVl := hNj.1;refine srx (za rfl (qo rfl rfl (rnx (zl (yv rfl (fun hc2 => ?_) (fun hc2 => ?_))))))
  ·
   have hc2 := of_decide_eq_true hc2;have hjlt : j < t := by omega
   refine zt (zj (zl (yh (srx (mvx rfl (anx rfl (yq (mvx rfl (za rfl (yo rfl (za rfl (zf Try.underlying24 rfl kl (by decide) rfl (za rfl (zk Try.underlying22 rfl rfl hMj.mb rfl (mvx rfl (za rfl (yp rfl rfl (zy (by omega)) (mvx rfl (za rfl (yp rfl rfl (zy (by omega)) (mvx rfl (za rfl (yc (j := top + 2 + j) Try.underlying22 vc rfl rfl (by omega) (by omega) (yn (zhq (o := 0 + (top + 2 + j)) (xs' := qu (V.set (top + 2 + j) 2)) vc rfl rfl hMj.row (by omega) rfl rfl (by rw [Nat.zero_add]; exact kg (x := 2)) ?_)))))))))))))))))))))))))
   rintro wT OT ET;refine qz (zx (zj (yq (za rfl (yp rfl rfl (zy (by omega)) (mvx rfl (qz ?_)))))));exact ve (j + 1, V.set (top + 2 + j) 2) (by show t - (j + 1) < t - j; omega) ⟨rfl, rfl, rfl, rfl, rfl, trivial⟩ (⟨hjlt, hNj.next (by omega), hMj.put (show U64 2 from by unfold U64; omega) OT ET, hEj.step ET (fun q hq => Or.inl (hXw q hq))⟩)
  ·
   have hc2 := of_decide_eq_false hc2;have hjt2 : j = t := by omega
   have hV : V = laid W top k (List.replicate t 2) (List.replicate r 0) := NewM.isLaid (hs ▸ hjt2 ▸ hNj) hz hf;refine vo (yf (yf (yx (zj (srx (mvx rfl (avx rfl (anx rfl (zo (zn (rs := [.tmp 8, .tmp 9]) (vs := [_, _]) rfl ⟨rfl, rfl, trivial⟩ ?_))))))))));exact ⟨rfl, hV ▸ hMj, hEj⟩
end
end Go.Proofs.Ytebjkmjfcijebaa
namespace Go.Proofs.Ytebjkmjfcijebaa
open Go.RowKit
set_option maxRecDepth 100000
theorem laid_set {W : List Nat} {top k i x : Nat} {tg raw : List Nat} (h : top + (2 + tg.length + raw.length) ≤ W.length) (hi : i < tg.length) : (laid W top k tg raw).set (top + 2 + i) x = laid W top k (tg.set i x) raw := by
 have h' : top + (2 + (tg.set i x).length + raw.length) ≤ W.length := by rw [List.length_set]; exact h
 apply List.ext_getElem?
 intro j;rw [List.getElem?_set, ov h', ov h, zix h, List.length_set];by_cases e : top + 2 + i = j
 · subst e;rw [if_pos rfl, if_pos (by omega), if_neg (by omega), if_pos (by omega), show top + 2 + i - top = i + 1 + 1 by omega, List.getElem?_cons_succ, List.getElem?_cons_succ, List.getElem?_append_left (by rw [List.length_set]; exact hi), List.getElem?_set_self hi]
 · rw [if_neg e];split
   · rfl
   · split
     · obtain ⟨m, rfl⟩ : ∃ m, j = top + m := ⟨j - top, by omega⟩;rw [show top + m - top = m by omega];match m with
       | 0 => rfl
       | 1 => rfl
       | m + 2 =>
        rw [List.getElem?_cons_succ, List.getElem?_cons_succ, List.getElem?_cons_succ, List.getElem?_cons_succ];by_cases e2 : m < tg.length
        · rw [List.getElem?_append_left e2, List.getElem?_append_left (by rw [List.length_set]; exact e2), List.getElem?_set_ne (by omega)]
        · rw [List.getElem?_append_right (by omega), List.getElem?_append_right (by rw [List.length_set]; omega), List.length_set]
     · rfl
theorem laid_setR {W : List Nat} {top k i x : Nat} {tg raw : List Nat} (h : top + (2 + tg.length + raw.length) ≤ W.length) (hi : i < raw.length) : (laid W top k tg raw).set (top + 2 + (tg.length + i)) x = laid W top k tg (raw.set i x) := by
 have h' : top + (2 + tg.length + (raw.set i x).length) ≤ W.length := by rw [List.length_set]; exact h
 apply List.ext_getElem?
 intro j;rw [List.getElem?_set, ov h', ov h, zix h, List.length_set];by_cases e : top + 2 + (tg.length + i) = j
 · subst e;rw [if_pos rfl, if_pos (by omega), if_neg (by omega), if_pos (by omega), show top + 2 + (tg.length + i) - top = tg.length + i + 1 + 1 by omega, List.getElem?_cons_succ, List.getElem?_cons_succ, List.getElem?_append_right (by omega), show tg.length + i - tg.length = i by omega, List.getElem?_set_self hi]
 · rw [if_neg e];split
   · rfl
   · split
     · obtain ⟨m, rfl⟩ : ∃ m, j = top + m := ⟨j - top, by omega⟩;rw [show top + m - top = m by omega];match m with
       | 0 => rfl
       | 1 => rfl
       | m + 2 =>
        rw [List.getElem?_cons_succ, List.getElem?_cons_succ, List.getElem?_cons_succ, List.getElem?_cons_succ];by_cases e2 : m < tg.length
        · rw [List.getElem?_append_left e2, List.getElem?_append_left e2]
        · rw [List.getElem?_append_right (by omega), List.getElem?_append_right (by omega), List.getElem?_set_ne (by omega)]
     · rfl
def qw (T : List Nat) (v i : Nat) : List Nat := T.take i ++ List.replicate (T.length - i) v
theorem oo {T : List Nat} {v i : Nat} (hi : i ≤ T.length) : (qw T v i).length = T.length := by unfold qw; rw [List.length_append, List.length_take, List.length_replicate]; omega
theorem yev (T : List Nat) (v : Nat) : qw T v 0 = List.replicate T.length v := by unfold qw; simp
theorem zhz (T : List Nat) (v : Nat) : qw T v T.length = T := by unfold qw; simp
theorem zhx {T : List Nat} {v i x : Nat} (h : T[i]? = some x) : (qw T v i).set i x = qw T v (i + 1) := by
 have hi := (List.getElem?_eq_some_iff.1 h).1;unfold qw;rw [List.set_append_right _ _ (by rw [List.length_take]; omega), List.length_take, show i - min i T.length = 0 by omega, show T.length - i = (T.length - (i + 1)) + 1 by omega, List.replicate_succ, List.set_cons_zero, List.take_add_one, h];simp
end Go.Proofs.Ytebjkmjfcijebaa
namespace Go.Proofs.Ytebjkmjfcijebaa
open Go.RowKit
set_option maxRecDepth 100000
attribute [local irreducible] OW RS
theorem addr_any (w : World) (a : Nat) (h1 : 1 ≤ a) (h2 : a < 1048576) : Calls Try.prog 42 #[.int .i64 ((a : Nat) : Int)] w fun e w' => e = .returned (.tuple #[.int .u64 ((4 * a : Nat) : Int), .int .i64 0]) ∧ Below w.heap.size w w' := by
 refine yb Try.func42 rfl Try.ntmps42 rfl (srx (avx rfl (anx rfl (zl (srx (mvx rfl (za rfl (qo rfl rfl (zq 5 (.bool false) rfl ((by rw [decide_eq_false]; omega : (.bool (decide (((a : Nat) : Int) < 1)) : Value) = _)) (mvx rfl (onx rfl (zp rfl (onx rfl (jr rfl rfl (zq 8 (.bool false) rfl ((by rw [decide_eq_false]; omega : (.bool (decide ((1048576 : Int) ≤ ((a : Nat) : Int))) : Value) = _)) (za rfl (zm rfl rfl (rnx (zw rfl (zt (zj (srx (mvx rfl (za rfl (qc Try.underlying25 Try.underlying3 rfl (wrap_u64 (by omega)) (za rfl (oq rfl rfl (by decide) (shl_O (x := a) (k := 2) (by decide) (by omega)) (zq 12 (.int .u64 ((4 * a : Nat) : Int)) rfl ((by congr 1; omega : (.int .u64 ((a * 2 ^ 2 : Nat) : Int) : Value) = _)) (avx rfl (anx rfl (zo (zn (rs := [.tmp 2, .tmp 3]) (vs := [_, _]) rfl ⟨rfl, rfl, trivial⟩ ?_))))))))))))))))))))))))))))))))
 exact ⟨rfl, Below.refl _ _⟩
section
variable (lo gm gW cap top k c d n : Nat) (w : World) (W T R : List Nat) (B C : Option Addr) (hM : OwnM lo w gm gW cap W top) (hk : 1 ≤ k ∧ k < 256) (ht : T.length ≤ 1048576) (hr : R.length ≤ 1048576) (hmW : gm ≠ gW) (hT : ∀ z, Ext (Mut [some gm, some gW]) w z → WordsA n z B T) (hR : ∀ z, Ext (Mut [some gm, some gW]) w z → WordsA n z C R) (hg : ∀ x ∈ T, yu x ≠ 3)
include hM hk ht hr hmW hT hR hg
theorem yik (hz : ∀ i, top ≤ i → wat W i = 0) (hf : top + (2 + T.length + R.length) ≤ W.length) : Calls Try.prog 20 #[.pointer (some ⟨gm, 0, none⟩), .int .i64 ((k : Nat) : Int), .slice B T.length c, .slice C R.length d] w fun e w' => e = .returned (.tuple #[.int .u64 ((4 * top : Nat) : Int), .int .i64 0]) ∧ OwnM lo w' gm gW cap (laid W top k T R) (top + (2 + T.length + R.length)) ∧ Ext (Mut [some gm, some gW]) w w' := by
 have h1 := hM.one;have h3 := hM.len;have h4 := hM.most;have hXw : ∀ q, Mut [some gW] q → Mut [some gm, some gW] q := fun q hq => Or.inr (Or.inl (by rw [qd hq]));have hlT : ∀ i, i ≤ T.length → top + (2 + (qw T 2 i).length + (List.replicate R.length 0).length) ≤ W.length := fun i hi => by rw [oo hi, List.length_replicate]; exact hf
 have hlR : ∀ i, i ≤ R.length → top + (2 + T.length + (qw R 0 i).length) ≤ W.length := fun i hi => by rw [oo hi]; exact hf
 refine yb Try.func20 rfl Try.ntmps20 rfl (srx (avx rfl (anx rfl (srx (mvx rfl (mvx rfl (mvx rfl (za rfl (qe Try.underlying22 rfl (mvx rfl (za rfl (qe Try.underlying22 rfl (za rfl (zi en40 rfl ((aalloc_ok lo gm gW cap top k T.length R.length _ W hM hk ht hr hmW hz hf).mono ?_)))))))))))))));rintro e w1 ⟨rfl, hMA, hEA⟩;refine ⟨_, rfl, ?_⟩;rw [← yev T 2] at hMA
 refine mvx rfl (za rfl (zg rfl rfl (za rfl (zg rfl rfl (avx rfl (anx rfl (zl (srx (mvx rfl (za rfl (qh rfl rfl (rnx (zw rfl (zt (zj (zl (srx (mvx rfl (za rfl (qe Try.underlying22 rfl (mvx rfl (rnx (yh (jd (ι := Nat) (fun i => [(0, .pointer (some ⟨gm, 0, none⟩)), (2, .slice B T.length c), (3, .slice C R.length d), (10, .int .i64 ((top : Nat) : Int)), (29, .slice B T.length c), (30, .int .i64 ((T.length : Nat) : Int)), (31, .int .i64 ((i : Nat) : Int))]) (fun i w' => i ≤ T.length ∧ OwnM lo w' gm gW cap (laid W top k (qw T 2 i) (List.replicate R.length 0)) (top + (2 + T.length + R.length)) ∧ Ext (Mut [some gm, some gW]) w w') (fun i => T.length - i) 0 ⟨rfl, rfl, rfl, rfl, rfl, rfl, rfl, trivial⟩ (⟨Nat.zero_le _, hMA, hEA⟩) ?_))))))))))))))))))))))))
 rintro i w3 ⟨hi0, hMi, hEi⟩;refine srx (za rfl (qo rfl rfl (rnx (zl (yv rfl (fun hc => ?_) (fun hc => ?_))))))
 ·
  have hc := of_decide_eq_true hc;have hlt : i < T.length := by omega
  obtain ⟨x, hx⟩ : ∃ x, T[i]? = some x := ⟨_, List.getElem?_eq_getElem hlt⟩;have hxm := List.mem_of_getElem? hx;obtain ⟨g, o, hB, hgb, hcx⟩ := (hT _ hEi).cell hx;have hLi := hlT i hi0;have hpl := oo (v := 2) hi0;have hhd : wat (laid W top k (qw T 2 i) (List.replicate R.length 0)) top = gu k T.length (2 + T.length + R.length) := by rw [yaq hLi, hpl, List.length_replicate]
  have hS : Seen (laid W top k (qw T 2 i) (List.replicate R.length 0)) (top + (2 + T.length + R.length)) top := ⟨h1, by omega, by rw [zix hLi]; omega, by rw [hhd, hkind_of hk.2]; omega, by rw [hhd, ywq hk.2 (by omega), ziz hk.2 (by omega) (by omega)]; omega, by rw [hhd, ziz hk.2 (by omega) (by omega)]; omega⟩
  refine zt (zj (zl (yh (srx (mvx rfl (za rfl (yc (j := i) Try.underlying22 vc (congrArg (fun z ↦ some (Value.slice z T.length c)) hB) rfl rfl hlt (za rfl (qm Try.underlying25 rfl rfl hcx (avx rfl (anx rfl (yq (mvx rfl (mvx rfl (mvx rfl (mvx rfl (za rfl (zi en41 rfl ((aset_any lo gm gW cap _ top i x _ _ hMi hS (by rw [hhd, ziz hk.2 (by omega) (by omega)]; omega) ((hT _ hEi).in_ x hxm) (fun _ => hg x hxm)).mono ?_)))))))))))))))))))
  rintro e w4 ⟨rfl, hMS, hES⟩;refine ⟨_, rfl, (qz (zx (zj (yq (za rfl (yp rfl rfl (zy (by omega)) (mvx rfl (qz ?_))))))))⟩
  exact ve (i + 1) (by show T.length - (i + 1) < T.length - i; omega) ⟨rfl, rfl, rfl, rfl, rfl, rfl, rfl, trivial⟩ (⟨hlt, by rw [laid_set hLi (by rw [hpl]; exact hlt), zhx hx] at hMS; exact hMS, hEi.step hES (fun q hq => Or.inl (hXw q hq))⟩)
 ·
  have hc := of_decide_eq_false hc;have hie : i = T.length := by omega
  rw [hie, zhz, ← yev R 0] at hMi
  refine vo (yf (yf (yx (zj (zl (srx (mvx rfl (za rfl (qe Try.underlying22 rfl (mvx rfl (rnx (yh (jd (ι := Nat) (fun j => [(0, .pointer (some ⟨gm, 0, none⟩)), (2, .slice B T.length c), (10, .int .i64 ((top : Nat) : Int)), (42, .slice C R.length d), (43, .int .i64 ((R.length : Nat) : Int)), (44, .int .i64 ((j : Nat) : Int))]) (fun j w' => j ≤ R.length ∧ OwnM lo w' gm gW cap (laid W top k T (qw R 0 j)) (top + (2 + T.length + R.length)) ∧ Ext (Mut [some gm, some gW]) w w') (fun j => R.length - j) 0 ⟨rfl, rfl, rfl, rfl, rfl, rfl, trivial⟩ (⟨Nat.zero_le _, hMi, hEi⟩) ?_)))))))))))))
  rintro j w6 ⟨hj0, hMj, hEj⟩;refine srx (za rfl (qo rfl rfl (rnx (zl (yv rfl (fun hc2 => ?_) (fun hc2 => ?_))))))
  ·
   have hc2 := of_decide_eq_true hc2;have hlt : j < R.length := by omega
   obtain ⟨x, hx⟩ : ∃ x, R[j]? = some x := ⟨_, List.getElem?_eq_getElem hlt⟩;have hxm := List.mem_of_getElem? hx;obtain ⟨g, o, hB, hgb, hcx⟩ := (hR _ hEj).cell hx;have hLj := hlR j hj0;have hpl := oo (v := 0) hj0;have hhd : wat (laid W top k T (qw R 0 j)) top = gu k T.length (2 + T.length + R.length) := by rw [yaq hLj, hpl]
   have hS : Seen (laid W top k T (qw R 0 j)) (top + (2 + T.length + R.length)) top := ⟨h1, by omega, by rw [zix hLj]; omega, by rw [hhd, hkind_of hk.2]; omega, by rw [hhd, ywq hk.2 (by omega), ziz hk.2 (by omega) (by omega)]; omega, by rw [hhd, ziz hk.2 (by omega) (by omega)]; omega⟩
   refine zt (zj (zl (yh (srx (mvx rfl (za rfl (yc (j := j) Try.underlying22 vc (congrArg (fun z ↦ some (Value.slice z R.length d)) hB) rfl rfl hlt (za rfl (qm Try.underlying25 rfl rfl hcx (avx rfl (anx rfl (yq (mvx rfl (mvx rfl (mvx rfl (za rfl (qe Try.underlying22 rfl (mvx rfl (za rfl (yp rfl rfl (zy (by omega)) (mvx rfl (zq 54 (.int .i64 ((T.length + j : Nat) : Int)) rfl ((by first | rfl | (congr 1; omega) : (.int .i64 ((((T.length : Nat)) : Int) + ((j : Nat) : Int)) : Value) = _)) (za rfl (zi en41 rfl ((aset_any lo gm gW cap _ top (T.length + j) x _ _ hMj hS (by rw [hhd, ziz hk.2 (by omega) (by omega)]; omega) ((hR _ hEj).in_ x hxm) (fun h => by rw [hhd, ywq hk.2 (by omega)] at h; omega)).mono ?_)))))))))))))))))))))))))
   rintro e w7 ⟨rfl, hMS, hES⟩;refine ⟨_, rfl, (qz (zx (zj (yq (za rfl (yp rfl rfl (zy (by omega)) (mvx rfl (qz ?_))))))))⟩
   exact ve (j + 1) (by show R.length - (j + 1) < R.length - j; omega) ⟨rfl, rfl, rfl, rfl, rfl, rfl, trivial⟩ (⟨hlt, by rw [laid_setR hLj (by rw [hpl]; exact hlt), zhx hx] at hMS; exact hMS, hEj.step hES (fun q hq => Or.inl (hXw q hq))⟩)
  ·
   have hc2 := of_decide_eq_false hc2;have hje : j = R.length := by omega
   rw [hje, zhz] at hMj;refine vo (yf (yf (yx (zj (srx (mvx rfl (za rfl (zi en42 rfl ((addr_any _ top h1 (by omega)).mono ?_)))))))));rintro e w8 ⟨rfl, hb⟩;refine ⟨_, rfl, ?_⟩;have EZ := Ext.of_below hb No
   refine za rfl (zg rfl rfl (za rfl (zg rfl rfl (avx rfl (anx rfl (zo (zn (rs := [.tmp 8, .tmp 9]) (vs := [_, _]) rfl ⟨rfl, rfl, trivial⟩ ?_)))))));exact ⟨rfl, hMj.ext EZ (fun h => h) (fun h => h), hEj.step EZ (fun _ h => h.elim)⟩
end
end Go.Proofs.Ytebjkmjfcijebaa
namespace Go.Proofs.Ytebjkmjfcijebaa
open Go.RowKit
set_option maxRecDepth 100000
attribute [local irreducible] OW RS
theorem same_words (w : World) (A A' : Option Addr) (c c' n n' : Nat) (xs : List Nat) (h : WordsA n w A xs) (h' : WordsA n' w A' xs) : Calls Try.prog 13 #[.slice A xs.length c, .slice A' xs.length c'] w fun e w' => e = .returned (.bool true) ∧ Below w.heap.size w w' := by
 obtain ⟨w0, hw0⟩ : ∃ w0, w0 = w := ⟨_, rfl⟩;have hlen := h.len
 refine yb Try.func13 rfl Try.ntmps13 rfl (srx (anx rfl (zl (srx (mvx rfl (za rfl (qe Try.underlying22 rfl (mvx rfl (za rfl (qe Try.underlying22 rfl (za rfl (qh rfl rfl (rnx (yd 10 (.bool false) rfl ((by rw [bne_self_eq_false] : (.bool ((((xs.length : Nat)) : Int) != (((xs.length : Nat)) : Int)) : Value) = _)) (zw rfl (zt (zj (zl (srx (anx rfl (yh (jd (ι := Nat) (fun i => [(0, .slice A xs.length c), (1, .slice A' xs.length c'), (5, .int .i64 ((i : Nat) : Int))]) (fun i w' => i ≤ xs.length ∧ Ext No w0 w') (fun i => xs.length - i) 0 ⟨rfl, rfl, rfl, trivial⟩ (⟨Nat.zero_le _, by rw [hw0]; exact Ext.refl _ _⟩) ?_))))))))))))))))))))))
 rintro i w2 ⟨hi0, hEi⟩;refine zl (srx (mvx rfl (mvx rfl (za rfl (qe Try.underlying22 rfl (za rfl (qo rfl rfl (rnx (yv rfl (fun hi => ?_) (fun hi => ?_))))))))))
 ·
  have hi := of_decide_eq_true hi;have hil : i < xs.length := by omega
  obtain ⟨x, hx⟩ : ∃ x, xs[i]? = some x := ⟨_, List.getElem?_eq_getElem hil⟩;rw [hw0] at hEi;obtain ⟨g, o, hA, hg, hc⟩ := (h.no hEi).cell hx;obtain ⟨g', o', hA', hg', hc'⟩ := (h'.no hEi).cell hx;refine zt (zj (zl (yh (zl ?_))));refine qt (No) Mut.none_ [] [] (gg [Fx.of (.slice A xs.length c),
   Fx.of (.int .i64 ((i : Nat) : Int)),
   Fx.of (.pointer (some ⟨g, o + i, none⟩)),
   Fx.of (.int .u64 ((x : Nat) : Int)),
   Fx.of (.slice A' xs.length c'),
   Fx.of (.int .i64 ((i : Nat) : Int)),
   Fx.of (.pointer (some ⟨g', o' + i, none⟩)),
   Fx.of (.int .u64 ((x : Nat) : Int)),
   Fx.of (.bool false)]) vu rfl trivial (fun _ h => by cases h) ?_ ?_
  · refine ⟨?_, ?_, ?_, ?_, ?_, ?_, ?_, ?_, ?_, trivial⟩
    · intro vs X wq K;exact zp rfl ⟨Below.refl _ _, Left.of rfl⟩
    · intro vs X wq K;exact zp rfl ⟨Below.refl _ _, Left.of rfl⟩
    · intro vs X wq K;obtain ⟨_, e0, k0⟩ := K.dep 0 rfl rfl rfl;refine zc 17 (.slice A xs.length c) rfl e0 ?_;obtain ⟨_, e1, k1⟩ := K.dep 1 rfl rfl rfl;refine zc 18 (.int .i64 ((i : Nat) : Int)) rfl e1 ?_;exact yc (j := i) Try.underlying22 vc (congrArg (fun z ↦ some (Value.slice z xs.length c)) hA) rfl rfl hil ⟨Below.refl _ _, Left.of rfl⟩
    · intro vs X wq K;have LE := K.1;obtain ⟨_, e2, k2⟩ := K.dep 2 rfl rfl rfl;refine zc 19 (.pointer (some ⟨g, o + i, none⟩)) rfl e2 ?_;exact qm Try.underlying25 rfl rfl (cell_z LE (fun h ↦ h) hc) ⟨Below.refl _ _, Left.of rfl⟩
    · intro vs X wq K;exact zp rfl ⟨Below.refl _ _, Left.of rfl⟩
    · intro vs X wq K;exact zp rfl ⟨Below.refl _ _, Left.of rfl⟩
    · intro vs X wq K;obtain ⟨_, e4, k4⟩ := K.dep 4 rfl rfl rfl;refine zc 21 (.slice A' xs.length c') rfl e4 ?_;obtain ⟨_, e5, k5⟩ := K.dep 5 rfl rfl rfl;refine zc 22 (.int .i64 ((i : Nat) : Int)) rfl e5 ?_;exact yc (j := i) Try.underlying22 vc (congrArg (fun z ↦ some (Value.slice z xs.length c')) hA') rfl rfl hil ⟨Below.refl _ _, Left.of rfl⟩
    · intro vs X wq K;have LE := K.1;obtain ⟨_, e6, k6⟩ := K.dep 6 rfl rfl rfl;refine zc 23 (.pointer (some ⟨g', o' + i, none⟩)) rfl e6 ?_;exact qm Try.underlying25 rfl rfl (cell_z LE (fun h ↦ h) hc') ⟨Below.refl _ _, Left.of rfl⟩
    · intro vs X wq K;obtain ⟨_, e3, k3⟩ := K.dep 3 rfl rfl rfl;refine zc 20 (.int .u64 ((x : Nat) : Int)) rfl e3 ?_;obtain ⟨_, e7, k7⟩ := K.dep 7 rfl rfl rfl;refine zc 24 (.int .u64 ((x : Nat) : Int)) rfl e7 ?_;exact qh rfl rfl ⟨Below.refl _ _, Left.of ((by rw [bne_self_eq_false] : (.bool (((x : Nat) : Int) != ((x : Nat) : Int)) : Value) = _))⟩
  intro vs w3 LE AO AL AF AA;have hbd : Below (w2).heap.size (w2) w3 := (((Ext.refl No (w2)).drew).trans LE).toBelow;obtain ⟨_, e8, k8⟩ := AL.2.2.2.2.2.2.2.2.1;refine qy (τ := [(0, _), (1, _), (5, _), (25, .bool false)]) ⟨rfl, rfl, rfl, congrArg some e8, trivial⟩ ?_;clear AL AF AA AO
  refine zj (zw rfl (zt (zx (zj (yq (mvx rfl (za rfl (yp rfl rfl (zy (by omega)) (avx rfl (qz ?_))))))))));exact ve (i + 1) (by show xs.length - (i + 1) < xs.length - i; omega) ⟨rfl, rfl, rfl, trivial⟩ (⟨hil, by rw [hw0]; exact hEi.trans (Ext.of_below hbd No)⟩)
 ·
  refine vo (yf (yf (yx (zj (srx (anx rfl (zo (zn (rs := [.tmp 4]) (vs := [_]) rfl ⟨rfl, trivial⟩ ?_))))))));exact ⟨rfl, by rw [hw0] at hEi; exact hEi.toBelow⟩
section
variable (lo gm gW cap top c n : Nat) (w : World) (W T : List Nat) (B : Option Addr) (l : List Nat) (hM : OwnM lo w gm gW cap W top) (hF : FormL W top l) (hmW : gm ≠ gW) (hT : ∀ z, Ext (Mut [some gm, some gW]) w z → WordsA n z B T) (hn : n ≤ w.heap.size) (hg : ∀ x ∈ T, WordOk l x)
include hM hF hmW hT hn hg
end
end Go.Proofs.Ytebjkmjfcijebaa
namespace Go.Proofs.Ytebjkmjfcijebaa
open Go.RowKit
set_option maxRecDepth 100000
attribute [local irreducible] OW RS
theorem oroom_any (lo gm gW cap top j : Nat) (w : World) (W : List Nat) (hM : OwnM lo w gm gW cap W top) : Calls Try.prog 26 #[.pointer (some ⟨gm, 0, none⟩), .int .i64 ((j : Nat) : Int)] w fun e w' => e = .returned (.bool (decide (top + j ≤ W.length))) ∧ Below w.heap.size w w' := by
 have h3 := hM.len;have h4 := hM.most;refine yb Try.func26 rfl Try.ntmps26 rfl (srx (anx rfl (zl ?_)));refine qt (No) Mut.none_ [] [] (gg [Fx.of (.int .i64 ((j : Nat) : Int)),
  Fx.of (.pointer (some ⟨gm, 0, none⟩)),
  Fx.of (.pointer (some ⟨gm, 0, none⟩)),
  Fx.of (.pointer (some ⟨gm, 0, none⟩)),
  Fx.of (.slice (some ⟨gW, 0, none⟩) W.length cap),
  Fx.of (.int .i64 (((W.length : Nat)) : Int)),
  Fx.of (.pointer (some ⟨gm, 0, none⟩)),
  Fx.of (.pointer (some ⟨gm, 0, none⟩)),
  Fx.of (.pointer (some ⟨gm, 1, none⟩)),
  Fx.of (.int .i64 ((top : Nat) : Int)),
  Fx.of (.int .i64 ((((W.length : Nat)) : Int) - ((top : Nat) : Int))),
  Fx.of (.bool (decide (top + j ≤ W.length))),
  Fx.of (.bool (decide (top + j ≤ W.length)))]) vu rfl trivial (fun _ h => by cases h) ?_ ?_
 · refine ⟨?_, ?_, ?_, ?_, ?_, ?_, ?_, ?_, ?_, ?_, ?_, ?_, ?_, trivial⟩
   · intro vs X wq K;exact zp rfl ⟨Below.refl _ _, Left.of rfl⟩
   · intro vs X wq K;exact zp rfl ⟨Below.refl _ _, Left.of rfl⟩
   · intro vs X wq K;obtain ⟨_, e1, k1⟩ := K.dep 1 rfl rfl rfl;refine zc 6 (.pointer (some ⟨gm, 0, none⟩)) rfl e1 ?_;exact yo rfl ⟨Below.refl _ _, Left.of rfl⟩
   · intro vs X wq K;obtain ⟨_, e2, k2⟩ := K.dep 2 rfl rfl rfl;refine zc 7 (.pointer (some ⟨gm, 0, none⟩)) rfl e2 ?_;exact zf Try.underlying24 rfl kl (by decide) rfl ⟨Below.refl _ _, Left.of rfl⟩
   · intro vs X wq K;have LE := K.1;obtain ⟨_, e3, k3⟩ := K.dep 3 rfl rfl rfl;refine zc 8 (.pointer (some ⟨gm, 0, none⟩)) rfl e3 ?_;exact zk Try.underlying22 rfl rfl (qj LE hM.mb) rfl ⟨Below.refl _ _, Left.of rfl⟩
   · intro vs X wq K;obtain ⟨_, e4, k4⟩ := K.dep 4 rfl rfl rfl;refine zc 9 (.slice (some ⟨gW, 0, none⟩) W.length cap) rfl e4 ?_;exact qe Try.underlying22 rfl ⟨Below.refl _ _, Left.of rfl⟩
   · intro vs X wq K;exact zp rfl ⟨Below.refl _ _, Left.of rfl⟩
   · intro vs X wq K;obtain ⟨_, e6, k6⟩ := K.dep 6 rfl rfl rfl;refine zc 11 (.pointer (some ⟨gm, 0, none⟩)) rfl e6 ?_;exact yo rfl ⟨Below.refl _ _, Left.of rfl⟩
   · intro vs X wq K;obtain ⟨_, e7, k7⟩ := K.dep 7 rfl rfl rfl;refine zc 12 (.pointer (some ⟨gm, 0, none⟩)) rfl e7 ?_;exact zf Try.underlying24 rfl sz3 (by decide) rfl ⟨Below.refl _ _, Left.of rfl⟩
   · intro vs X wq K;have LE := K.1;obtain ⟨_, e8, k8⟩ := K.dep 8 rfl rfl rfl;refine zc 13 (.pointer (some ⟨gm, 1, none⟩)) rfl e8 ?_;exact zk Try.underlying3 rfl rfl (qj LE hM.mb) rfl ⟨Below.refl _ _, Left.of rfl⟩
   · intro vs X wq K;obtain ⟨_, e5, k5⟩ := K.dep 5 rfl rfl rfl;refine zc 10 (.int .i64 (((W.length : Nat)) : Int)) rfl e5 ?_;obtain ⟨_, e9, k9⟩ := K.dep 9 rfl rfl rfl;refine zc 14 (.int .i64 ((top : Nat) : Int)) rfl e9 ?_;exact vq rfl rfl (zy (by omega)) ⟨Below.refl _ _, Left.of rfl⟩
   · intro vs X wq K;obtain ⟨_, e0, k0⟩ := K.dep 0 rfl rfl rfl;refine zc 5 (.int .i64 ((j : Nat) : Int)) rfl e0 ?_;obtain ⟨_, e10, k10⟩ := K.dep 10 rfl rfl rfl;refine zc 15 (.int .i64 ((((W.length : Nat)) : Int) - ((top : Nat) : Int))) rfl e10 ?_
     exact kr rfl rfl ⟨Below.refl _ _, Left.of ((by congr 1; rw [decide_eq_decide]; omega : (.bool (decide (((j : Nat) : Int) ≤ ((((W.length : Nat)) : Int) - ((top : Nat) : Int)))) : Value) = _))⟩
   · intro vs X wq K;obtain ⟨_, e11, k11⟩ := K.dep 11 rfl rfl rfl;refine zc 16 (.bool (decide (top + j ≤ W.length))) rfl e11 ?_;exact yw rfl ⟨Below.refl _ _, Left.of rfl⟩
 intro vs w1 LE AO AL AF AA;have hbd : Below (w).heap.size (w) w1 := (((Ext.refl No (w)).drew).trans LE).toBelow;obtain ⟨_, e12, k12⟩ := AL.2.2.2.2.2.2.2.2.2.2.2.2.1;refine qy (τ := [(4, .bool (decide (top + j ≤ W.length)))]) ⟨congrArg some e12, trivial⟩ ?_;clear AL AF AA AO;refine zj (zo (zn (rs := [.tmp 4]) (vs := [_]) rfl ⟨rfl, trivial⟩ ?_));exact ⟨rfl, hbd⟩
theorem small_any (w : World) (n : Nat) (hn : n ≤ 20000) : Calls Try.prog 24 #[.int .i64 ((n : Nat) : Int)] w fun e w' => e = .returned (.tuple #[.int .u64 ((4 * n + 1 : Nat) : Int), .int .i64 0]) ∧ Below w.heap.size w w' := by
 refine yb Try.func24 rfl Try.ntmps24 rfl (srx (avx rfl (anx rfl (zl (srx (mvx rfl (za rfl (qo rfl rfl (zq 5 (.bool false) rfl ((by rw [decide_eq_false]; omega : (.bool (decide (((n : Nat) : Int) < -999999999999999999)) : Value) = _)) (mvx rfl (onx rfl (zp rfl (onx rfl (vf rfl rfl (zq 8 (.bool false) rfl ((by rw [decide_eq_false]; omega : (.bool (decide ((999999999999999999 : Int) < ((n : Nat) : Int))) : Value) = _)) (za rfl (zm rfl rfl (rnx (zw rfl (zt (zj (srx (mvx rfl (za rfl (qc Try.underlying25 Try.underlying3 rfl (wrap_u64 (by omega)) (za rfl (oq rfl rfl (by decide) (shl_O (x := n) (k := 2) (by decide) (by omega)) (za rfl (ycq rfl rfl (or_maskO (x := n * 2 ^ 2) (y := 1) (k := 2) (by omega) (by decide) (by decide) (by omega)) (zq 13 (.int .u64 ((4 * n + 1 : Nat) : Int)) rfl ((by congr 1; omega : (.int .u64 ((n * 2 ^ 2 + 1 : Nat) : Int) : Value) = _)) (avx rfl (anx rfl (zo (zn (rs := [.tmp 2, .tmp 3]) (vs := [_, _]) rfl ⟨rfl, rfl, trivial⟩ ?_))))))))))))))))))))))))))))))))))
 exact ⟨rfl, Below.refl _ _⟩
theorem num_any (w : World) (x : Nat) (hx : U64 x) (hk : yu x = 1) (h4 : x % 4 = 1) : Calls Try.prog 48 #[.int .u64 ((x : Nat) : Int)] w fun e w' => e = .returned (.tuple #[.int .i64 (wnum x), .int .i64 0]) ∧ Below w.heap.size w w' := by
 have hx' : x < 18446744073709551616 := hx;refine yb Try.func48 rfl Try.ntmps48 rfl (srx (avx rfl (anx rfl (zl (srx (mvx rfl (za rfl (zi en33 rfl ((gc _ x hx).mono ?_)))))))));rintro e w1 ⟨rfl, hb⟩
 refine ⟨_, rfl, (za rfl (qh rfl rfl (zq 6 (.bool false) rfl ((by rw [hk]; rfl : (.bool (((yu x : Nat) : Int) != 1) : Value) = _)) (rnx (zw rfl (zt (zj (srx (mvx rfl (za rfl (qc Try.underlying2 Try.underlying25 rfl rfl (za rfl (ju rfl rfl (by decide) (zvx hx' h4) (avx rfl (anx rfl (zo (zn (rs := [.tmp 2, .tmp 3]) (vs := [_, _]) rfl ⟨rfl, rfl, trivial⟩ ?_)))))))))))))))))⟩
 exact ⟨rfl, hb⟩
theorem small_kind {n b x : Nat} (hn : n ≤ 20000) (hx : x ∈ [4 * n + 1, b]) (hb : b = 2 ∨ (b % 4 = 0 ∧ 1 ≤ b / 4 ∧ b / 4 < 1048576)) : yu x ≠ 3 := by
 simp only [List.mem_cons, List.not_mem_nil, or_false] at hx
 rcases hx with rfl | rfl
 · rw [ziv (by omega), zoq (by omega), if_pos (by omega)]; decide
 · rcases hb with rfl | ⟨h1, h2⟩
   · decide
   · rw [zok h1, if_pos h2]; decide
theorem zlz (w : World) {g n a b : Nat} (hb : Blk w g 25 #[.int .u64 ((a : Nat) : Int), .int .u64 ((b : Nat) : Int)]) (hg : g < n) (ha : U64 a) (hb2 : U64 b) : WordsA n w (some ⟨g, 0, none⟩) [a, b] :=
 ygz (W := [a, b]) hb hg (by show 8 * 2 ≤ _; decide) (fun x hx => by
  simp only [List.mem_cons, List.not_mem_nil, or_false] at hx
  rcases hx with rfl | rfl
  · exact ha
  · exact hb2)
section
variable (lo gm gW cap top c n : Nat) (w : World) (W T : List Nat) (B : Option Addr) (l : List Nat) (hM : OwnM lo w gm gW cap W top) (hF : FormL W top l) (hmW : gm ≠ gW) (hT : ∀ z, Ext (Mut [some gm, some gW]) w z → WordsA n z B T) (hn : n ≤ w.heap.size) (hg : ∀ x ∈ T, WordOk l x)
include hM hF hmW hT hn hg
theorem olist_any : Calls Try.prog 11 #[.pointer (some ⟨gm, 0, none⟩), .slice B T.length c] w fun e w' => ((∃ er : Int, er ≠ 0 ∧ e = .returned (.tuple #[.int .u64 0, .int .i64 er]) ∧ Below w.heap.size w w' ∧ (T.length ≤ 20000 → W.length < top + 6 + T.length)) ∨
 (∃ W1 top1 bk, e = .returned (.tuple #[.int .u64 ((4 * top1 : Nat) : Int), .int .i64 0]) ∧ T.length ≤ 20000 ∧ ((T = [] ∧ W1 = W ∧ top1 = top ∧ bk = 2) ∨ (T ≠ [] ∧ W1 = laid W top 11 T [] ∧ top1 = top + (2 + T.length + 0) ∧ bk = 4 * top)) ∧ top1 + 4 ≤ W1.length ∧ OwnM lo w' gm gW cap (laid W1 top1 5 [4 * T.length + 1, bk] []) (top1 + (2 + 2 + 0)) ∧ Ext (Mut [some gm, some gW]) w w')) := by
 have hT0 := hT w (Ext.refl _ _);have hTl := hT0.len;have hgs : ∀ x ∈ T, yu x ≠ 3 ∧ (yu x = 0 → Seen W top (x / 4)) := fun x hx => ⟨(hg x hx).1, fun h0 => hF.seen ((hg x hx).2 h0)⟩;have hlt := hM.lt;have hm4 := hM.most
 refine yb Try.func11 rfl Try.ntmps11 rfl (srx (avx rfl (anx rfl (zl (yh (srx (mvx rfl (za rfl (yiq Try.underlying38 rfl rfl (mvx rfl (onx rfl (zp rfl (onx rfl (yo rfl (onx rfl (zz Try.underlying24 rfl qx rfl hM.mb rfl (onx rfl (zp rfl (onx rfl (zi en25 rfl ((oall_any _ (some ⟨gW, 0, none⟩) B W T cap c _ top hM.mem (hT0.up hn) hgs).mono ?_)))))))))))))))))))))
 rintro e w1 ⟨rfl, hb⟩;refine ⟨_, rfl, ?_⟩;have E1 := Ext.of_below hb No;have hM1 := hM.ext E1 (fun h => h) (fun h => h);have hT1 : ∀ z, Ext (Mut [some gm, some gW]) w1 z → WordsA n z B T := fun z hz => hT z ((E1.mono (Y := Mut [some gm, some gW]) (fun _ h _ => h.elim)).step hz (fun q hq => Or.inl hq))
 refine onx rfl (qa rfl (za rfl (zm rfl rfl (anx rfl (zw rfl (srx (mvx rfl (za rfl (qe Try.underlying22 rfl (za rfl (vf rfl rfl (anx rfl ?_))))))))))));by_cases hlen : T.length ≤ 20000
 ·
  refine yd 20 (.bool false) rfl ((by rw [decide_eq_false]; omega : (.bool (decide (20000 < (((T.length : Nat)) : Int))) : Value) = _)) (zw rfl (zl (srx (mvx rfl (za rfl (qe Try.underlying22 rfl (za rfl (yl rfl rfl ?_))))))));by_cases h0 : T.length = 0
  ·
   refine zq 27 (.bool true) rfl ((by rw [h0]; rfl : (.bool (((T.length : Nat) : Int) == 0) : Value) = _)) (mvx rfl (onx rfl (zp rfl (onx rfl (zi en26 rfl ((oroom_any lo gm gW cap top 4 _ W hM1).mono ?_))))));rintro e w2 ⟨rfl, hb⟩;refine ⟨_, rfl, ?_⟩;have E2 := E1.trans (Ext.of_below hb No);have hM2 := hM.ext E2 (fun h => h) (fun h => h);by_cases hr : top + 4 ≤ W.length
   ·
    refine zq 30 (.bool true) rfl ((by rw [decide_eq_true hr] : (.bool (decide (top + 4 ≤ W.length)) : Value) = _)) (onx rfl (qa rfl (za rfl (ya rfl rfl (anx rfl (zw rfl (yq (mvx rfl (za rfl (qe Try.underlying22 rfl (za rfl (vf rfl rfl (zq 35 (.bool false) rfl ((by rw [decide_eq_false]; omega : (.bool (decide ((0 : Int) < ((T.length : Nat) : Int))) : Value) = _)) (mvx rfl (za rfl (zd rfl (za rfl (zd rfl (za rfl (zd rfl (za rfl (zd rfl (za rfl (zd rfl (za rfl (zd rfl (za rfl (zm rfl rfl (anx rfl (zw rfl (zt (zx (zj (srx (mvx rfl (za rfl (qe Try.underlying22 rfl (za rfl (zi en24 rfl ((small_any _ T.length hlen).mono ?_))))))))))))))))))))))))))))))))))))))))
    rintro e w3 ⟨rfl, hb⟩;refine ⟨_, rfl, ?_⟩;have E3 := E2.trans (Ext.of_below hb No)
    refine mvx rfl (za rfl (zg rfl rfl (za rfl (zg rfl rfl (avx rfl (anx rfl (srx (anx rfl (zl (srx (mvx rfl (za rfl (qe Try.underlying22 rfl (za rfl (vf rfl rfl (zq 52 (.bool false) rfl ((by rw [decide_eq_false]; omega : (.bool (decide ((0 : Int) < ((T.length : Nat) : Int))) : Value) = _)) (rnx (zw rfl (zt (zj (srx (mvx rfl (mvx rfl (mvx rfl (za rfl (kx (cs := #[.int .u64 ((4 * T.length + 1 : Nat) : Int), .int .u64 2]) Try.underlying22 vc zr25 (by decide) rfl (by rw [zav]; rfl) ?_))))))))))))))))))))))))))
    rintro gx wX Bx Ex Gx;have E4 := E3.trans Ex;have hM4 := hM.ext E4 (fun h => h) (fun h => h);have hl4 := E3.size;have hxg : ∀ q, Mut [some gm, some gW] q → q ≠ gx := fun q hq => by
     rcases hq with h | h | h
     · have : q = gm := Option.some.inj h;omega
     · have : q = gW := Option.some.inj h;omega
     · exact h.elim
    refine za rfl (zi en20 rfl ((yik lo gm gW cap top 5 2 0 (gx + 1) _ W [4 * T.length + 1, 2] [] (some ⟨gx, 0, none⟩) none hM4 (by omega) (by show 2 ≤ 1048576; decide) (Nat.zero_le _) hmW (fun z hz => zlz z (Bx.ext hz (fun h => hxg gx h rfl)) (Nat.lt_succ_self gx) (by unfold U64; omega) (by unfold U64; omega)) (fun z hz => .nil _ _ _) (fun x hx => small_kind hlen hx (Or.inl rfl)) hF.rest (by show top + (2 + 2 + 0) ≤ W.length; omega)).mono ?_))
    rintro e w4 ⟨rfl, hMT, hET⟩;refine ⟨_, rfl, (za rfl (zg rfl rfl (za rfl (zg rfl rfl (avx rfl (anx rfl (zo (zn (rs := [.tmp 4, .tmp 5]) (vs := [_, _]) rfl ⟨rfl, rfl, trivial⟩ ?_))))))))⟩
    exact Or.inr ⟨W, top, 2, rfl, hlen, Or.inl ⟨List.eq_nil_of_length_eq_zero h0, rfl, rfl, rfl⟩, hr, hMT, (E4.mono (Y := Mut [some gm, some gW]) (fun _ h _ => h.elim)).step hET (fun q hq => Or.inl hq)⟩
   ·
    refine zq 30 (.bool false) rfl ((by rw [decide_eq_false hr] : (.bool (decide (top + 4 ≤ W.length)) : Value) = _)) (onx rfl (qa rfl (za rfl (ya rfl rfl (anx rfl (ye rfl (zt (zj (ye rfl (srx (avx rfl (anx rfl (zo (zr (zh (zn (rs := [.tmp 4, .tmp 5]) (vs := [_, _]) rfl ⟨rfl, rfl, trivial⟩ ?_))))))))))))))))
    exact Or.inl ⟨5, by decide, rfl, E2.toBelow, fun _ => by omega⟩
  ·
   refine zq 27 (.bool false) rfl ((by congr 1; rw [beq_eq_false_iff_ne]; omega : (.bool (((T.length : Nat) : Int) == 0) : Value) = _)) (mvx rfl (za rfl (zd rfl (za rfl (zd rfl (za rfl (zd rfl (za rfl (zm rfl rfl (anx rfl (zw rfl (yq (mvx rfl (za rfl (qe Try.underlying22 rfl (za rfl (vf rfl rfl (zq 35 (.bool true) rfl ((by rw [decide_eq_true]; omega : (.bool (decide ((0 : Int) < ((T.length : Nat) : Int))) : Value) = _)) (mvx rfl (onx rfl (zp rfl (onx rfl (zp rfl (onx rfl (qe Try.underlying22 rfl (onx rfl (yp rfl rfl (zy (by omega)) (zq 40 (.int .i64 ((6 + T.length : Nat) : Int)) rfl ((by first | rfl | (congr 1; omega) : (.int .i64 (6 + (((T.length : Nat)) : Int)) : Value) = _)) (onx rfl (zi en26 rfl ((oroom_any lo gm gW cap top (6 + T.length) _ W hM1).mono ?_)))))))))))))))))))))))))))))))
   rintro e w5 ⟨rfl, hb⟩;refine ⟨_, rfl, ?_⟩;have E2 := E1.trans (Ext.of_below hb No);by_cases hr : top + (6 + T.length) ≤ W.length
   ·
    have hfit : top + (2 + T.length + ([] : List Nat).length) ≤ W.length := by show top + (2 + T.length + 0) ≤ W.length; omega
    have h1 := hM.one;refine zq 41 (.bool true) rfl ((by rw [decide_eq_true hr] : (.bool (decide (top + (6 + T.length) ≤ W.length)) : Value) = _)) (onx rfl (qa rfl (za rfl (ya rfl rfl (anx rfl (zw rfl (zt (zx (zj (srx (mvx rfl (za rfl (qe Try.underlying22 rfl (za rfl (zi en24 rfl ((small_any _ T.length hlen).mono ?_))))))))))))))))
    rintro e w6 ⟨rfl, hb⟩;refine ⟨_, rfl, ?_⟩;have E3 := E2.trans (Ext.of_below hb No);have hM3 := hM.ext E3 (fun h => h) (fun h => h);have hT3 : ∀ z, Ext (Mut [some gm, some gW]) w6 z → WordsA n z B T := fun z hz => hT z ((E3.mono (Y := Mut [some gm, some gW]) (fun _ h _ => h.elim)).step hz (fun q hq => Or.inl hq))
    refine mvx rfl (za rfl (zg rfl rfl (za rfl (zg rfl rfl (avx rfl (anx rfl (srx (anx rfl (zl (srx (mvx rfl (za rfl (qe Try.underlying22 rfl (za rfl (vf rfl rfl (zq 52 (.bool true) rfl ((by rw [decide_eq_true]; omega : (.bool (decide ((0 : Int) < ((T.length : Nat) : Int))) : Value) = _)) (rnx (ye rfl (yq (mvx rfl (mvx rfl (za rfl (zi en20 rfl ((yik lo gm gW cap top 11 c 0 n _ W T [] B none hM3 (by omega) (by omega) (Nat.zero_le _) hmW hT3 (fun z hz => .nil _ _ _) (fun x hx => (hg x hx).1) hF.rest hfit).mono ?_))))))))))))))))))))))))
    rintro e w7 ⟨rfl, hMA, hEA⟩;refine ⟨_, rfl, ?_⟩;have hEA2 := (E3.mono (Y := Mut [some gm, some gW]) (fun _ h _ => h.elim)).step hEA (fun q hq => Or.inl hq);have hll := zix (k := 11) hfit
    refine mvx rfl (za rfl (zg rfl rfl (za rfl (zg rfl rfl (anx rfl (srx (mvx rfl (mvx rfl (mvx rfl (za rfl (kx (cs := #[.int .u64 ((4 * T.length + 1 : Nat) : Int), .int .u64 ((4 * top : Nat) : Int)]) Try.underlying22 vc zr25 (by decide) rfl (by rw [zav]; rfl) ?_)))))))))));rintro gx wX Bx Ex Gx;have hl4 := hEA2.size
    have hM4 := hMA.ext Ex (fun h => h) (fun h => h);have hxg : ∀ q, Mut [some gm, some gW] q → q ≠ gx := fun q hq => by
     rcases hq with h | h | h
     · have : q = gm := Option.some.inj h;omega
     · have : q = gW := Option.some.inj h;omega
     · exact h.elim
    refine za rfl (zi en20 rfl ((yik lo gm gW cap (top + (2 + T.length + 0)) 5 2 0 (gx + 1) _ (laid W top 11 T []) [4 * T.length + 1, 4 * top] [] (some ⟨gx, 0, none⟩) none hM4 (by omega) (by show 2 ≤ 1048576; decide) (Nat.zero_le _) hmW (fun z hz => zlz z (Bx.ext hz (fun h => hxg gx h rfl)) (Nat.lt_succ_self gx) (by unfold U64; omega) (by unfold U64; omega)) (fun z hz => .nil _ _ _) (fun x hx => small_kind hlen hx (Or.inr (by omega))) (fun i hi => by rw [ypx hfit hi]; exact hF.rest i (by omega)) (by rw [hll]; show top + (2 + T.length + 0) + (2 + 2 + 0) ≤ W.length; omega)).mono ?_))
    rintro e w8 ⟨rfl, hMT, hET⟩;refine ⟨_, rfl, (za rfl (zg rfl rfl (za rfl (zg rfl rfl (avx rfl (anx rfl (zo (zn (rs := [.tmp 4, .tmp 5]) (vs := [_, _]) rfl ⟨rfl, rfl, trivial⟩ ?_))))))))⟩
    exact Or.inr ⟨laid W top 11 T [], top + (2 + T.length + 0), 4 * top, rfl, hlen, Or.inr ⟨fun e => h0 (by rw [e]; rfl), rfl, rfl, rfl⟩, by rw [hll]; omega, hMT, (hEA2.step Ex (fun _ h => h.elim)).step hET (fun q hq => Or.inl hq)⟩
   ·
    refine zq 41 (.bool false) rfl ((by rw [decide_eq_false hr] : (.bool (decide (top + (6 + T.length) ≤ W.length)) : Value) = _)) (onx rfl (qa rfl (za rfl (ya rfl rfl (anx rfl (ye rfl (srx (avx rfl (anx rfl (zo (zr (zh (zn (rs := [.tmp 4, .tmp 5]) (vs := [_, _]) rfl ⟨rfl, rfl, trivial⟩ ?_)))))))))))))
    exact Or.inl ⟨5, by decide, rfl, E2.toBelow, fun _ => by omega⟩
 ·
  refine yd 20 (.bool true) rfl ((by rw [decide_eq_true]; omega : (.bool (decide (20000 < (((T.length : Nat)) : Int))) : Value) = _)) (ye rfl (srx (avx rfl (anx rfl (zo (zr (zh (zn (rs := [.tmp 4, .tmp 5]) (vs := [_, _]) rfl ⟨rfl, rfl, trivial⟩ ?_))))))));exact Or.inl ⟨2, by decide, rfl, E1.toBelow, fun h => absurd h hlen⟩
end
end Go.Proofs.Ytebjkmjfcijebaa
namespace Go.Proofs.Ytebjkmjfcijebaa
open Go.RowKit
set_option maxRecDepth 100000
attribute [local irreducible] OW RS
theorem new_any (w : World) (n : Nat) (h2 : 2 ≤ n) (hn : n ≤ 1048576) : Calls Try.prog 8 #[.int .i64 ((n : Nat) : Int)] w fun e w' => (∃ g, e = .returned (.tuple #[.agg #[.slice (some ⟨g, 0, none⟩) n n, .int .i64 1], .int .i64 0]) ∧ Blk w' g 25 (List.replicate n (Value.int .u64 0)).toArray ∧ w.heap.size ≤ g) ∧ Below w.heap.size w w' := by
 refine yb Try.func8 rfl Try.ntmps8 rfl (srx (za rfl (ym zr24 ?_)));rintro g2 wA B2 E1 G2
 refine anx rfl (zl (srx (mvx rfl (za rfl (qo rfl rfl (zq 5 (.bool false) rfl ((by rw [decide_eq_false]; omega : (.bool (decide (((n : Nat) : Int) < 2)) : Value) = _)) (mvx rfl (onx rfl (zp rfl (onx rfl (vf rfl rfl (zq 8 (.bool false) rfl ((by rw [decide_eq_false]; omega : (.bool (decide ((1048576 : Int) < ((n : Nat) : Int))) : Value) = _)) (za rfl (zm rfl rfl (rnx (zw rfl (zt (zj (srx (mvx rfl (za rfl (zjq (n := n) Try.underlying22 inf25 rfl rfl rfl rfl rfl (by omega) (by omega) ?_))))))))))))))))))))))
 rintro gs wB Bs E2 Gs;have B2b := B2.ext E2 (fun h => h.elim);have hs1 := E1.size;have h2l := B2.lt;refine za rfl (qb (cs := #[.slice (some ⟨gs, 0, none⟩) n n, .int .i64 1]) pl24 zr24 rfl rfl (yn (yi qx rfl rfl B2b rfl rfl rfl ?_)));rintro wC Bz E3
 refine anx rfl (zo (zn (rs := [.cell 2 24, .tmp 3]) (vs := [_, _]) rfl ⟨⟨_, rfl, qk Try.underlying24 rfl qx Bz rfl⟩, rfl, trivial⟩ ?_));exact ⟨⟨gs, rfl, Bs.ext E3 (fun h => by have := qd h; omega), by omega⟩, (((E1.trans E2).noL w.heap.size).step E3 (fun q hq => Or.inl (show w.heap.size ≤ q by have := qd hq; omega))).below (fun _ h => h)⟩
end Go.Proofs.Ytebjkmjfcijebaa
namespace Go.Proofs.Ytebjkmjfcijebaa
open Go.RowKit
set_option maxRecDepth 100000
section
variable {P : Program} {N : Nat} {ops : Array Oper} {Q : Exit → Act → World → Prop} {σ : Env} {w : World} {ty : TypeId} {pos : String} {af : Array Edge} {dst : Option Nat} {Post : Value → World → Prop}
end
end Go.Proofs.Ytebjkmjfcijebaa
namespace Go.Proofs.Ytebjkmjfcijebaa
theorem zrk : Ext_ Try.prog 44 Extern.MathFloatBits.float64frombits := ⟨_, Try.func44, by kernel_rfl, by kernel_rfl, by kernel_rfl, by kernel_rfl⟩
theorem ex61 : Ext_ Try.prog 61 Extern.MathFloatBits.float64bits := ⟨_, Try.func61, by kernel_rfl, by kernel_rfl, by kernel_rfl, by kernel_rfl⟩
theorem ex85 : Ext_ Try.prog 85 (Extern.MathFloor.toIntegral "math.archTrunc" .zero) := ⟨_, Try.func85, by kernel_rfl, by kernel_rfl, by kernel_rfl, by kernel_rfl⟩
end Go.Proofs.Ytebjkmjfcijebaa
namespace Go.Proofs.Ytebjkmjfcijebaa
open Go.RowKit
set_option maxRecDepth 100000
def jn (m : Nat) : Nat := if isN m then 9221120237041090560 else m
def ansF (z : Option Nat) : Nat := z.getD 9221120237041090560
theorem FRes.bare {op : BinOp} {a b r : Nat} {w w' : World} (h : FRes (fop op a b) r w w') : jn r = ansF (fop op a b) := by
 rcases h with ⟨hz, _⟩ | ⟨hz, hn, _⟩
 · rw [hz]; unfold jn ansF; rw [(fop_num hz).1]; rfl
 · rw [hz]; unfold jn ansF; rw [nan_isN hn]; rfl
theorem jw (m : Nat) : (js m m != some .eq) = isN m := by
 cases h : isN m with
 | true => rw [zdz (.inl h)]; rfl
 | false => rw [znz h h, ybz]; rfl
theorem zfz (m : Nat) (h : m < 18446744073709551616) : (BitVec.ofInt 64 (m : Int)).toNat = m := by
 rw [BitVec.toNat_ofInt];omega
theorem zrv {m : Nat} (h : m < 18446744073709551616) : IntKind.u64.wrap (m : Int) = (m : Int) := wrap_u64 (by omega)
theorem and_bits {m n : Nat} (hm : m < 18446744073709551616) (hn : n < 18446744073709551616) : IntKind.u64.wrap (BitVec.ofInt IntKind.u64.bits (m : Int) &&& BitVec.ofInt IntKind.u64.bits (n : Int)).toNat = ((m &&& n : Nat) : Int) := by
 have h1 := zfz m hm;have h2 := zfz n hn;show IntKind.u64.wrap (((BitVec.ofInt 64 (m : Int) &&& BitVec.ofInt 64 (n : Int)).toNat : Nat) : Int) = _
 rw [BitVec.toNat_and, h1, h2];exact zrv (Nat.lt_of_le_of_lt Nat.and_le_left hm)
def isZ (b : Nat) : Bool := decide (rg b = 0)
theorem znx (b : Nat) : (js b 0 == some .eq) = isZ b := by
 cases h : isN b with
 | true =>
  rw [zdz (.inl h)];have : isZ b = false := by unfold isN at h; unfold isZ; simp at h ⊢; omega
  rw [this]; rfl
 | false =>
  rw [znz h (by decide)];have h0 : pc 0 = 0 := by decide
  rw [h0, zkv, isZ];by_cases hz : rg b = 0
  · have : pc b = 0 := by unfold pc; split <;> omega
    rw [this]; simp [hz]
  · have : pc b ≠ 0 := by unfold pc; split <;> omega
    rw [if_neg this]; split <;> simp [hz] <;> decide
def divV (a b : Nat) : Nat := if isZ b then 0 else ansF (fop .quo a b)
def divE (b : Nat) : Int := if isZ b then 6 else 0
def ordI (x y : Int) : Int := if x < y then -1 else if x > y then 1 else 0
def gn (a b : Nat) : Bool := !(isN a) && !(isN b)
def zwz (a b : Nat) : Int := if gn a b then ordI (pc a) (pc b) else 0
theorem zev {a b : Nat} {o : Ordering} (h : (js a b == some o) = true) : gn a b = true := by
 unfold gn;cases ha : isN a with
 | true => rw [zdz (.inl ha)] at h; cases h
 | false =>
  cases hbq : isN b with
  | true => rw [zdz (.inr hbq)] at h; cases h
  | false => rfl
theorem ztz {a b : Nat} (h : gn a b = true) : js a b = some (zkv (pc a) (pc b)) := by
 unfold gn at h;simp at h
 exact znz h.1 h.2
theorem cmpF_lt {a b : Nat} (h : (js a b == some .lt) = true) : zwz a b = -1 := by
 have ho := zev h;rw [ztz ho] at h;rw [zwz, if_pos ho, ordI];unfold zkv at h;split at h
 · rename_i h1; rw [if_pos h1]
 · split at h <;> cases h
theorem cmpF_gt {a b : Nat} (h : (js a b == some .gt) = true) : zwz a b = 1 := by
 have ho := zev h;rw [ztz ho] at h;rw [zwz, if_pos ho, ordI];unfold zkv at h;split at h
 · cases h
 · split at h
   · cases h
   · rename_i h1 h2; rw [if_neg h1, if_pos (by omega)]
theorem cmpF_no {a b : Nat} (h : (js a b == some .lt) = false) (h2 : (js a b == some .gt) = false) : zwz a b = 0 ∧ gn a b = (js a b == some .eq) := by
 cases ho : gn a b with
 | true =>
  rw [ztz ho] at h h2 ⊢;rw [zwz, if_pos ho, ordI];rcases Int.lt_trichotomy (pc a) (pc b) with h1 | h1 | h1
  · rw [ybq h1] at h; cases h
  · rw [h1, ybz]; exact ⟨by rw [if_neg (by omega), if_neg (by omega)], rfl⟩
  · rw [ylk h1] at h2; cases h2
 | false =>
  refine ⟨by rw [zwz, if_neg (by rw [ho]; decide)], ?_⟩;unfold gn at ho;cases ha : isN a with
  | true => rw [zdz (.inl ha)]; rfl
  | false =>
   cases hbq : isN b with
   | true => rw [zdz (.inr hbq)]; rfl
   | false => rw [ha, hbq] at ho; cases ho
section
variable (w : World)
/-! ### package real -/
theorem bare_any (m : Nat) : Calls Try.prog 43 #[.float .f64 m] w fun e w' => e = .returned (.int .u64 ((jn m : Nat) : Int)) ∧ Below w.heap.size w w' := by
 refine yb Try.func43 rfl Try.ntmps43 rfl ?_;have LW := erx (No) w;have XLW := grx (No) w;have E := erx (No) w;refine srx (anx rfl (zl (srx (mvx rfl (mvx rfl (za rfl (xc rfl rfl (rnx (yd 5 (.bool (isN m)) rfl ((by rw [jw] : (.bool (js m m != some .eq) : Value) = _)) (yv rfl (fun h => ?_) (fun h => ?_)))))))))))
 ·
  refine srx (anx rfl (zo (zh (zn (rs := [.tmp 2]) (vs := [_]) rfl ⟨rfl, trivial⟩ ?_))));exact ⟨by rw [jn, if_pos h]; rfl, (LW.step E XLW).toBelow⟩
 ·
  refine zt (zj (srx (mvx rfl (za rfl (zpv ex61 rfl (anx rfl (zo (zn (rs := [.tmp 2]) (vs := [_]) rfl ⟨rfl, trivial⟩ ?_))))))));exact ⟨by rw [jn, if_neg (by rw [h]; decide)]; rfl, (LW.step E XLW).toBelow⟩
section
variable (a b : Nat)
theorem yax : Calls Try.prog 21 #[.int .u64 ((a : Nat) : Int)] w fun e w' => e = .returned (.int .u64 ((jn (vm a) : Nat) : Int)) ∧ Below w.heap.size w w' := by
 refine yb Try.func21 rfl Try.ntmps21 rfl ?_;have LW := erx (No) w;have XLW := grx (No) w;have E := erx (No) w;refine srx (anx rfl (srx (mvx rfl (za rfl (va (b := a) zrk rfl (za rfl (ow_fneg rfl (za rfl (zi en43 rfl ((bare_any _ (vm a)).mono ?_))))))))));rintro e w1 ⟨rfl, hb⟩;refine ⟨_, rfl, ?_⟩;replace E := blx E hb
 refine anx rfl (zo (zn (rs := [.tmp 2]) (vs := [_]) rfl ⟨rfl, trivial⟩ ?_));exact ⟨rfl, (LW.step E XLW).toBelow⟩
theorem cmp_any_r : Calls Try.prog 63 #[.int .u64 ((a : Nat) : Int), .int .u64 ((b : Nat) : Int)] w fun e w' => e = .returned (.tuple #[.int .i64 (zwz a b), .bool (gn a b)]) ∧ Below w.heap.size w w' := by
 refine yb Try.func63 rfl Try.ntmps63 rfl ?_;have LW := erx (No) w;have XLW := grx (No) w;have E := erx (No) w
 refine srx (avx rfl (anx rfl (srx (mvx rfl (za rfl (va (b := a) zrk rfl (mvx rfl (za rfl (va (b := b) zrk rfl (avx rfl (anx rfl (zl (yh (srx (mvx rfl (mvx rfl (za rfl (zzx rfl rfl (anx rfl (yv rfl (fun h => ?_) (fun h => ?_)))))))))))))))))))))
 ·
  refine srx (avx rfl (anx rfl (zo (zr (zh (zn (rs := [.tmp 4, .tmp 5]) (vs := [_, _]) rfl ⟨rfl, rfl, trivial⟩ ?_))))));exact ⟨by rw [cmpF_lt h, zev h]; rfl, (LW.step E XLW).toBelow⟩
 ·
  refine srx (mvx rfl (mvx rfl (za rfl (ow_fgtr rfl rfl (anx rfl (yv rfl (fun h2 => ?_) (fun h2 => ?_)))))))
  ·
   refine srx (avx rfl (anx rfl (zo (zr (zh (zn (rs := [.tmp 4, .tmp 5]) (vs := [_, _]) rfl ⟨rfl, rfl, trivial⟩ ?_))))));exact ⟨by rw [cmpF_gt h2, zev h2]; rfl, (LW.step E XLW).toBelow⟩
  ·
   refine zt (zx (zj (srx (mvx rfl (mvx rfl (za rfl (zzz rfl rfl (avx rfl (anx rfl (zo (zn (rs := [.tmp 4, .tmp 5]) (vs := [_, _]) rfl ⟨rfl, rfl, trivial⟩ ?_)))))))))));exact ⟨by rw [(cmpF_no h h2).1, (cmpF_no h h2).2]; rfl, (LW.step E XLW).toBelow⟩
end
end
/-! ### the document's -/
section
variable (w : World)
section
variable (a : Nat) (ha : a < 18446744073709551616)
include ha
end
section
variable (a b : Nat) (ha : a < 18446744073709551616) (hbq : b < 18446744073709551616)
include ha hbq
end
end
theorem zqx (m : Nat) : BitVec.ofInt 64 ((m : Nat) : Int) = BitVec.ofNat 64 m := BitVec.ofInt_natCast 64 m
theorem ytz {a : Nat} (ha : a < 18446744073709551616) : IntKind.u64.wrap (BitVec.ofInt IntKind.u64.bits ((a : Nat) : Int) &&& ~~~BitVec.ofInt IntKind.u64.bits 9223372036854775808).toNat = ((rg a : Nat) : Int) := by
 have h := andNot_sign_nat ha;show IntKind.u64.wrap (((BitVec.ofInt 64 ((a : Nat) : Int) &&& ~~~BitVec.ofInt 64 ((9223372036854775808 : Nat) : Int)).toNat : Nat) : Int) = _
 rw [zqx, zqx, h];exact zrv (Nat.lt_trans (rg_lt a) (by decide))
theorem yfv {a : Nat} (ha : a < 18446744073709551616) : IntKind.u64.wrap (BitVec.ofInt IntKind.u64.bits ((a : Nat) : Int) &&& ~~~BitVec.ofInt IntKind.u64.bits 9218868437227405312).toNat = ((a / 9223372036854775808 * 9223372036854775808 + a % 4503599627370496 : Nat) : Int) := by
 have h := andNot_exp_nat ha;show IntKind.u64.wrap (((BitVec.ofInt 64 ((a : Nat) : Int) &&& ~~~BitVec.ofInt 64 ((9218868437227405312 : Nat) : Int)).toNat : Nat) : Int) = _
 rw [zqx, zqx, h];exact zrv (by omega)
theorem yjx {m n : Nat} (hm : m < 18446744073709551616) (hn : n < 18446744073709551616) : IntKind.u64.wrap (BitVec.ofInt IntKind.u64.bits (m : Int) ||| BitVec.ofInt IntKind.u64.bits (n : Int)).toNat = ((m ||| n : Nat) : Int) := by
 have h1 := zfz m hm;have h2 := zfz n hn;show IntKind.u64.wrap (((BitVec.ofInt 64 (m : Int) ||| BitVec.ofInt 64 (n : Int)).toNat : Nat) : Int) = _
 rw [BitVec.toNat_or, h1, h2];exact zrv (Nat.or_lt_two_pow (n := 64) (by omega) (by omega))
theorem and_sign {a : Nat} (ha : a < 18446744073709551616) : IntKind.u64.wrap (BitVec.ofInt IntKind.u64.bits ((a : Nat) : Int) &&& BitVec.ofInt IntKind.u64.bits 9223372036854775808).toNat = ((if ng a then 9223372036854775808 else 0 : Nat) : Int) := by
 have := and_bits (n := 9223372036854775808) ha (by decide);rw [and_sign_nat a ha] at this;exact this
theorem isN_rg (a : Nat) : isN (rg a) = isN a := by unfold isN rg; rw [Nat.mod_mod]
theorem rg_rg (a : Nat) : rg (rg a) = rg a := Nat.mod_mod _ _
theorem ng_rg (a : Nat) : ng (rg a) = false := by
 have := rg_lt a;unfold ng;rw [Nat.div_eq_of_lt this];rfl
theorem pc_rg (a : Nat) : pc (rg a) = ((rg a : Nat) : Int) := by rw [pc, ng_rg, rg_rg]; rfl
theorem ford_rg {a c : Nat} (ha : isN a = false) (hc : isN c = false) : js (rg a) (rg c) = some (zkv ((rg a : Nat) : Int) ((rg c : Nat) : Int)) := by
 rw [znz (by rw [isN_rg]; exact ha) (by rw [isN_rg]; exact hc), pc_rg, pc_rg]
theorem isinf_cond (a : Nat) : (js (rg a) 9218868437227405311 == some .gt) = decide (rg a = 9218868437227405312) := by
 cases h : isN a with
 | true =>
  rw [zdz (.inl (by rw [isN_rg]; exact h))];have : ¬ rg a = 9218868437227405312 := by have := of_decide_eq_true h; omega
  rw [decide_eq_false this]; rfl
 | false =>
  have h2 := ford_rg (c := 9218868437227405311) h (by decide);rw [show rg 9218868437227405311 = 9218868437227405311 from by decide] at h2;have h3 : ¬ 9218868437227405312 < rg a := of_decide_eq_false h;rw [h2];by_cases h4 : rg a = 9218868437227405312
  · rw [h4]; decide
  · rw [decide_eq_false h4, zkv];split
    · rfl
    · split
      · rfl
      · omega
theorem sub_cond {a : Nat} (h : isN a = false) : (js (rg a) 4503599627370496 == some .lt) = decide (rg a < 4503599627370496) := by
 have h2 := ford_rg (c := 4503599627370496) h (by decide);rw [show rg 4503599627370496 = 4503599627370496 from by decide] at h2;rw [h2];by_cases h4 : rg a < 4503599627370496
 · rw [decide_eq_true h4, ybq (by omega)]; rfl
 · rw [decide_eq_false h4, zkv, if_neg (by omega)];split <;> rfl
section
variable (w : World) (a : Nat) (ha : a < 18446744073709551616)
include ha
theorem ymz : Calls Try.prog 68 #[.float .f64 a] w fun e w' => e = .returned (.float .f64 (rg a)) ∧ Below w.heap.size w w' := by
 refine yb Try.func68 rfl Try.ntmps68 rfl ?_;have LW := erx (No) w;have XLW := grx (No) w;have E := erx (No) w;refine srx (anx rfl (srx (mvx rfl (za rfl (zpv ex61 rfl (za rfl (zmx rfl rfl (ytz ha) (za rfl (va (b := rg a) zrk rfl (anx rfl (zo (zn (rs := [.tmp 2]) (vs := [_]) rfl ⟨rfl, trivial⟩ ?_))))))))))));exact ⟨rfl, (LW.step E XLW).toBelow⟩
theorem jz : Calls Try.prog 66 #[.float .f64 a, .int .i64 0] w fun e w' => e = .returned (.bool (decide (rg a = 9218868437227405312))) ∧ Below w.heap.size w w' := by
 refine yb Try.func66 rfl Try.ntmps66 rfl ?_;have LW := erx (No) w;have XLW := grx (No) w;have E := erx (No) w;refine srx (anx rfl (zl (srx (mvx rfl (za rfl (yl rfl rfl (rnx (ye rfl (yq (mvx rfl (za rfl (zi en68 rfl ((ymz _ a ha).mono ?_)))))))))))));rintro e w1 ⟨rfl, hb⟩;refine ⟨_, rfl, ?_⟩;replace E := blx E hb
 refine anx rfl (srx (mvx rfl (za rfl (ow_fgtr rfl rfl (anx rfl (zo (zn (rs := [.tmp 4]) (vs := [_]) rfl ⟨rfl, trivial⟩ ?_)))))));exact ⟨by rw [← isinf_cond]; rfl, (LW.step E XLW).toBelow⟩
omit ha in
theorem yfz : Calls Try.prog 87 #[.float .f64 a] w fun e w' => e = .returned (.bool (isN a)) ∧ Below w.heap.size w w' := by
 refine yb Try.func87 rfl Try.ntmps87 rfl ?_;have LW := erx (No) w;have XLW := grx (No) w;have E := erx (No) w;refine srx (anx rfl (srx (mvx rfl (mvx rfl (za rfl (xc rfl rfl (anx rfl (zo (zn (rs := [.tmp 2]) (vs := [_]) rfl ⟨rfl, trivial⟩ ?_)))))))));exact ⟨by rw [← jw]; rfl, (LW.step E XLW).toBelow⟩
theorem copysign_any (b : Nat) (hb : b < 18446744073709551616) : Calls Try.prog 73 #[.float .f64 a, .float .f64 b] w fun e w' => e = .returned (.float .f64 (Ieee.double.word (ng b) (rg a))) ∧ Below w.heap.size w w' := by
 have hr := rg_lt a;have ho : (rg a ||| (if ng b then 9223372036854775808 else 0 : Nat)) = Ieee.double.word (ng b) (rg a) := by
  unfold Ieee.Format.word;rw [c1];split
  · rw [Nat.or_comm]; exact or_add 63 hr rfl
  · exact Nat.or_zero _
 have hs : (if ng b then 9223372036854775808 else 0 : Nat) < 18446744073709551616 := by split <;> decide
 refine yb Try.func73 rfl Try.ntmps73 rfl ?_;have LW := erx (No) w;have XLW := grx (No) w;have E := erx (No) w
 refine srx (anx rfl (srx (mvx rfl (za rfl (zpv ex61 rfl (za rfl (zmx rfl rfl (ytz ha) (mvx rfl (za rfl (zpv ex61 rfl (za rfl (xr rfl rfl (and_sign hb) (za rfl (ycq rfl rfl (yjx (Nat.lt_trans hr (by decide)) hs) (za rfl (va (b := rg a ||| (if ng b then 9223372036854775808 else 0 : Nat)) zrk rfl (anx rfl (zo (zn (rs := [.tmp 4]) (vs := [_]) rfl ⟨rfl, trivial⟩ ?_)))))))))))))))))))
 exact ⟨by rw [← ho]; rfl, (LW.step E XLW).toBelow⟩
end
theorem word_self {a : Nat} (ha : a < 18446744073709551616) : Ieee.double.word (ng a) (rg a) = a := by
 obtain ⟨h1, h2, h3⟩ := kd (ng a) (rg a) (rg_lt a);exact rg_ng_inj h3 ha h1 h2
def nzB (a : Nat) : Nat := Ieee.double.word (ng a) (nr (rg a))
def nzE (a : Nat) : Int := if rg a < 4503599627370496 then -52 else 0
theorem nzB_big {a : Nat} (ha : a < 18446744073709551616) (h : ¬ rg a < 4503599627370496) : nzB a = a := by
 rw [nzB, nr, if_neg h]; exact word_self ha
theorem nzB_lt {a : Nat} (h0 : rg a ≠ 0) (hf : rg a < 9218868437227405312) : nzB a < 18446744073709551616 := (kd (ng a) (nr (rg a)) (Nat.lt_trans (zzv h0 hf) (by decide))).2.2
theorem FRes.some {z : Option Nat} {r q : Nat} {w w' : World} (h : FRes z r w w') (hz : z = some q) : r = q := by
 rcases h with ⟨h1, _⟩ | ⟨h1, _⟩
 · rw [hz] at h1; exact (Option.some.inj h1).symm
 · rw [hz] at h1; cases h1
theorem ywz {a : Nat} (hf : rg a < 9218868437227405312) : isN a = false := decide_eq_false (by omega)
theorem shr52 (m : Nat) : ((m : Nat) : Int).fdiv (2 ^ (min (52 : Int).toNat IntKind.u64.bits)) = ((m / 4503599627370496 : Nat) : Int) := by
 show ((m : Nat) : Int).fdiv (2 ^ 52) = _
 rw [show (2 : Int) ^ 52 = ((4503599627370496 : Nat) : Int) from rfl, Int.fdiv_eq_ediv_of_nonneg _ (by omega)];rfl
theorem and_2047 {m : Nat} (hm : m < 18446744073709551616) : IntKind.u64.wrap (BitVec.ofInt IntKind.u64.bits ((m : Nat) : Int) &&& BitVec.ofInt IntKind.u64.bits 2047).toNat = ((m % 2048 : Nat) : Int) := by
 have := and_bits (n := 2047) hm (by decide);rw [show m &&& 2047 = m % 2048 from Nat.and_two_pow_sub_one_eq_mod m 11] at this;exact this
theorem ydk (s : Bool) {r : Nat} (hr : r < 9218868437227405312) : Ieee.double.word s r / 4503599627370496 % 2048 = r / 4503599627370496 ∧ Ieee.double.word s r / 9223372036854775808 * 9223372036854775808 + Ieee.double.word s r % 4503599627370496 = Ieee.double.word s (r % 4503599627370496) := by
 unfold Ieee.Format.word;rw [c1];cases s
 · simp only [Bool.false_eq_true, if_false]; omega
 · simp only [if_true]; omega
theorem frac_or {f x : Nat} (hf : f < 4503599627370496) (hx : x % 4503599627370496 = 0) : f ||| x = x + f := by
 rw [Nat.or_comm]; exact or_add 52 hf hx
theorem ypq (s : Bool) {f x : Nat} (hf : f < 4503599627370496) (hx : x % 4503599627370496 = 0) (hl : x + f < 9223372036854775808) : Ieee.double.word s f ||| x = Ieee.double.word s (x + f) := by
 have h1 := frac_or hf hx;unfold Ieee.Format.word;rw [c1];cases s
 · exact h1
 · show (9223372036854775808 + f) ||| x = 9223372036854775808 + (x + f)
   rw [← or_add 63 (a := 9223372036854775808) (b := f) (Nat.lt_trans hf (by decide)) rfl, Nat.or_assoc, h1];exact or_add 63 hl rfl
section
variable (w : World) (a : Nat) (ha : a < 18446744073709551616) (h0 : rg a ≠ 0) (hf : rg a < 9218868437227405312)
include ha h0 hf
theorem zkq : Calls Try.prog 88 #[.float .f64 a] w fun e w' => e = .returned (.tuple #[.float .f64 (nzB a), .int .i64 (nzE a)]) ∧ Below w.heap.size w w' := by
 refine yb Try.func88 rfl Try.ntmps88 rfl ?_;have LW := erx (No) w;have XLW := grx (No) w;have E := erx (No) w;refine srx (avx rfl (anx rfl (zl (srx (mvx rfl (za rfl (zi en68 rfl ((ymz _ a ha).mono ?_))))))));rintro e w1 ⟨rfl, hb⟩;refine ⟨_, rfl, ?_⟩;replace E := blx E hb
 refine za rfl (zzx rfl rfl (rnx (yd 6 (.bool (decide (rg a < 4503599627370496))) rfl ((by rw [sub_cond (ywz hf)] : (.bool (js (rg a) 4503599627370496 == some .lt) : Value) = _)) (yv rfl (fun h => ?_) (fun h => ?_)))))
 ·
  refine srx (mvx rfl (za rfl (ow_float (m := a) (n := 4841369599423283200) (.inr (.inr (.inl rfl))) rfl rfl ?_)));intro r w2 hr;have Ec := hr.ext;replace E := E.trans Ec.no;refine avx rfl (anx rfl (zo (zh (zn (rs := [.tmp 2, .tmp 3]) (vs := [_, _]) rfl ⟨rfl, rfl, trivial⟩ ?_))))
  exact ⟨by rw [hr.some (normalize_mul h0 (of_decide_eq_true h)), nzE, if_pos (of_decide_eq_true h)]; rfl, (LW.step E XLW).toBelow⟩
 ·
  refine zt (zj (srx (mvx rfl (avx rfl (anx rfl (zo (zn (rs := [.tmp 2, .tmp 3]) (vs := [_, _]) rfl ⟨rfl, rfl, trivial⟩ ?_)))))));exact ⟨by rw [nzB_big ha (of_decide_eq_false h), nzE, if_neg (of_decide_eq_false h)]; rfl, (LW.step E XLW).toBelow⟩
theorem frexp_num : Calls Try.prog 78 #[.float .f64 a] w fun e w' => e = .returned (.tuple #[.float .f64 (frF a), .int .i64 (frE a)]) ∧ Below w.heap.size w w' := by
 have hz : isZ a = false := decide_eq_false h0;have hinf : decide (rg a = 9218868437227405312) = false := decide_eq_false (by omega);have hn := ywz hf;have hlt := nzB_lt h0 hf;have hlow := nr_low h0;have hhigh := zzv h0 hf;obtain ⟨hp1, hp2⟩ := ydk (ng a) hhigh;have hex : nr (rg a) / 4503599627370496 = ex (nr (rg a)) + 1 := by unfold ex; rw [if_neg (by omega)]; omega
 have hmg : mg (nr (rg a)) = 4503599627370496 + nr (rg a) % 4503599627370496 := by unfold mg; rw [if_neg (by omega)]
 have hexb : ex (nr (rg a)) ≤ 2045 := by omega
 have hfl : nr (rg a) % 4503599627370496 < 4503599627370496 := Nat.mod_lt _ (by decide);have hnze : nzE a = 0 ∨ nzE a = -52 := by unfold nzE; split <;> simp
 have hfw : Ieee.double.word (ng a) (nr (rg a) % 4503599627370496) < 18446744073709551616 := (kd _ _ (by omega)).2.2;have hor := ypq (ng a) (x := 4602678819172646912) hfl (by decide) (by omega);have hfrF : Ieee.double.word (ng a) (4602678819172646912 + nr (rg a) % 4503599627370496) = frF a := by rw [frF, hmg, Nat.add_sub_cancel_left]
 have hfrE : nzE a + (((ex (nr (rg a)) + 1 : Nat) : Int) - 1023 + 1) = frE a := by
  unfold nzE frE;split <;> omega
 refine yb Try.func78 rfl Try.ntmps78 rfl ?_;have LW := erx (No) w;have XLW := grx (No) w;have E := erx (No) w
 refine srx (avx rfl (anx rfl (zl (yh (srx (mvx rfl (za rfl (zzz rfl rfl (anx rfl (yd 5 (.bool false) rfl ((by rw [znx, hz] : (.bool (js a 0 == some .eq) : Value) = _)) (zw rfl (srx (mvx rfl (za rfl (zi en66 rfl ((jz _ a ha).mono ?_))))))))))))))));rintro e w1 ⟨rfl, hb⟩;refine ⟨_, rfl, ?_⟩;replace E := blx E hb
 refine zq 11 (.bool false) rfl ((by rw [hinf] : (.bool (decide (rg a = 9218868437227405312)) : Value) = _)) (mvx rfl (onx rfl (zp rfl (onx rfl (zi en87 rfl ((yfz _ a).mono ?_))))));rintro e w2 ⟨rfl, hb⟩;refine ⟨_, rfl, ?_⟩;replace E := blx E hb
 refine zq 14 (.bool false) rfl ((by rw [hn] : (.bool (isN a) : Value) = _)) (za rfl (zm rfl rfl (anx rfl (zw rfl (zt (zx (zj (srx (mvx rfl (za rfl (zi en88 rfl ((zkq _ a ha h0 hf).mono ?_))))))))))));rintro e w3 ⟨rfl, hb⟩;refine ⟨_, rfl, ?_⟩;replace E := blx E hb
 refine mvx rfl (za rfl (zg rfl rfl (za rfl (zg rfl rfl (avx rfl (anx rfl (srx (mvx rfl (za rfl (zpv ex61 rfl (anx rfl (srx (mvx rfl (mvx rfl (za rfl (ju rfl rfl (by decide) (shr52 (nzB a)) (za rfl (xr rfl rfl (and_2047 (by omega)) (zq 27 (.int .u64 ((ex (nr (rg a)) + 1 : Nat) : Int)) rfl ((by rw [show nzB a / 4503599627370496 % 2048 = _ from hp1, hex] : (.int .u64 ((nzB a / 4503599627370496 % 2048 : Nat) : Int) : Value) = _)) (za rfl (qc Try.underlying3 Try.underlying25 rfl (zy (by omega)) (za rfl (vq rfl rfl (zy (by omega)) (za rfl (yp rfl rfl (zy (by omega)) (za rfl (yp rfl rfl (zy (by omega)) (anx rfl (srx (mvx rfl (za rfl (zmx rfl rfl (yfv hlt) (zq 33 (.int .u64 ((Ieee.double.word (ng a) (nr (rg a) % 4503599627370496) : Nat) : Int)) rfl ((by rw [show nzB a / 9223372036854775808 * 9223372036854775808 + nzB a % 4503599627370496 = _ from hp2] : (.int .u64 ((nzB a / 9223372036854775808 * 9223372036854775808 + nzB a % 4503599627370496 : Nat) : Int) : Value) = _)) (anx rfl (srx (mvx rfl (za rfl (ycq rfl rfl (yjx (n := 4602678819172646912) hfw (by decide)) ?_))))))))))))))))))))))))))))))))))))))
 refine zq 35 (.int .u64 ((frF a : Nat) : Int)) rfl ((by rw [show Ieee.double.word (ng a) (nr (rg a) % 4503599627370496) ||| 4602678819172646912 = frF a from hor.trans hfrF] : (.int .u64 ((Ieee.double.word (ng a) (nr (rg a) % 4503599627370496) ||| 4602678819172646912 : Nat) : Int) : Value) = _)) (anx rfl (srx (mvx rfl (za rfl (va (b := frF a) zrk rfl (anx rfl (zo (zn (rs := [.tmp 2, .tmp 3]) (vs := [_, _]) rfl ⟨rfl, rfl, trivial⟩ ?_))))))))
 exact ⟨by rw [← hfrE]; rfl, (LW.step E XLW).toBelow⟩
end
theorem and_2047i {m : Nat} (hm : m < 18446744073709551616) : IntKind.i64.wrap (BitVec.ofInt IntKind.i64.bits ((m : Nat) : Int) &&& BitVec.ofInt IntKind.i64.bits 2047).toNat = ((m % 2048 : Nat) : Int) := by
 have h1 := zfz m hm;have h2 := zfz 2047 (by decide);show IntKind.i64.wrap (((BitVec.ofInt 64 (m : Int) &&& BitVec.ofInt 64 ((2047 : Nat) : Int)).toNat : Nat) : Int) = _
 rw [BitVec.toNat_and, h1, h2, show m &&& 2047 = m % 2048 from Nat.and_two_pow_sub_one_eq_mod m 11];exact zy (by omega)
theorem sum_rung {x m f q : Nat} (h1 : x * 4503599627370496 + m = q) (h2 : m = 4503599627370496 + f) : (x + 1) * 4503599627370496 + f = q := by rw [← h1, h2, Nat.add_mul, Nat.one_mul, Nat.add_assoc]
theorem nzE_nd (a : Nat) : nzE a = -((nd (rg a) : Nat) : Int) := by unfold nzE nd; split <;> rfl
theorem one_mul_f {s : Bool} {q : Nat} (hq : q < 9218868437227405312) : fop .mul 4607182418800017408 (Ieee.double.word s q) = some (Ieee.double.word s q) := by
 obtain ⟨h1, h2, _⟩ := kd s q (Nat.lt_trans hq (by decide));have hc : rg 4607182418800017408 = 4607182418800017408 ∧ ng 4607182418800017408 = false ∧ vl 4607182418800017408 = 2 ^ 1074 := by decide +kernel
 have := mul_exact' (a := 4607182418800017408) (b := Ieee.double.word s q) (r := q) (by rw [hc.1]; decide) (by rw [h1]; exact hq) hq (fun P hP => by rewrite [hc.1, hc.2.2, ← hP, h1]; exact Nat.mul_comm P (vl q));rw [this, hc.2.1, h2, Bool.false_xor]
theorem p_split {P i j n : Nat} (h : P = 2 ^ n) (hn : n = i + j) : P = 2 ^ i * 2 ^ j := by rw [h, hn, Nat.pow_add]
theorem m53_aux {A B P q v1 v2 : Nat} (h1 : v1 = A) (h2 : v2 = q * B) (h3 : P = A * B) : v1 * v2 = q * P := by rw [h1, h2, h3, Nat.mul_left_comm]
theorem m53_mul {s : Bool} {q : Nat} (h0 : q ≠ 0) (hq : q < 4503599627370496) : fop .mul 4368491638549381120 (Ieee.double.word s ((ex (nr q) + 1) * 4503599627370496 + mg (nr q))) = some (Ieee.double.word s q) := by
 obtain ⟨hm1, hm2⟩ := mg_nr h0;have he : ex (nr q) ≤ 51 := by rw [(yfx h0 hq).1]; exact (zlq h0 hq).1
 obtain ⟨Q, hQ⟩ : ∃ Q, Q = (ex (nr q) + 1) * 4503599627370496 + mg (nr q) := ⟨_, rfl⟩;obtain ⟨p1, p2⟩ := zpz (e := ex (nr q) + 1) hm1 hm2;rw [← hQ] at p1 p2 ⊢;have hQl : Q < 9218868437227405312 := by omega
 obtain ⟨h1, h2, _⟩ := kd s Q (Nat.lt_trans hQl (by decide));have hc : rg 4368491638549381120 = 4368491638549381120 ∧ ng 4368491638549381120 = false ∧ vl 4368491638549381120 = 2 ^ 1021 := by decide +kernel
 have hvQ : vl Q = q * 2 ^ 53 := by
  rw [vl, p1, p2, Nat.pow_succ, ← Nat.mul_assoc];have := vl_nr h0 hq;unfold vl at this;rw [this, Nat.mul_assoc]
 have := mul_exact' (a := 4368491638549381120) (b := Ieee.double.word s Q) (r := q) (by rw [hc.1]; decide) (by rw [h1]; exact hQl) (by omega) (fun P hP => by
  rewrite [hc.1, h1, vl_sub hq]
  exact m53_aux hc.2.2 hvQ (p_split (i := 1021) (j := 53) (n := 1074) hP (by decide)))
 rw [this, hc.2.1, h2, Bool.false_xor]
section
variable (w : World) (a k q : Nat) (ha : a < 18446744073709551616) (h0 : rg a ≠ 0) (hf : rg a < 9218868437227405312) (hk : k < 4096) (hq : q < 9218868437227405312) (hv : vl q = vl (rg a) * 2 ^ k)
include ha h0 hf hk hq hv
theorem ldexp_norm (hn : 4503599627370496 ≤ q) : Calls Try.prog 80 #[.float .f64 a, .int .i64 ((k : Nat) : Int)] w fun e w' => e = .returned (.float .f64 (Ieee.double.word (ng a) q)) ∧ Below w.heap.size w w' := by
 have hz : isZ a = false := decide_eq_false h0;have hinf : decide (rg a = 9218868437227405312) = false := decide_eq_false (by omega);have hnn := ywz hf;have hlt := nzB_lt h0 hf;have hlow := nr_low h0;have hhigh := zzv h0 hf;obtain ⟨hp1, hp2⟩ := ydk (ng a) hhigh;have hex : nr (rg a) / 4503599627370496 = ex (nr (rg a)) + 1 := by unfold ex; rw [if_neg (by omega)]; omega
 have hmg : mg (nr (rg a)) = 4503599627370496 + nr (rg a) % 4503599627370496 := by unfold mg; rw [if_neg (by omega)]
 have hexb : ex (nr (rg a)) ≤ 2045 := by omega
 have hfl : nr (rg a) % 4503599627370496 < 4503599627370496 := Nat.mod_lt _ (by decide);have hnze := nzE_nd a;have hndb : nd (rg a) ≤ 52 := by unfold nd; split <;> omega
 have hfw : Ieee.double.word (ng a) (nr (rg a) % 4503599627370496) < 18446744073709551616 := (kd _ _ (by omega)).2.2;obtain ⟨hM, hE⟩ := yrq h0 (q := q) (by omega) hv;have hnq : nr q = q := by rw [nr, if_neg (by omega)]
 have hndq : nd q = 0 := by unfold nd; rw [if_neg (by omega)]
 rw [hnq] at hM hE;rw [hndq] at hE;have hrq := rung_of (r := q);have heq : ex q ≤ 2045 := by unfold ex; rw [if_neg (by omega)]; omega
 have hB : ((k : Nat) : Int) + nzE a + (((ex (nr (rg a)) + 1 : Nat) : Int) - 1023) = ((ex q : Nat) : Int) - 1022 := by omega
 have hor := ypq (ng a) (x := (ex q + 1) * 4503599627370496) hfl (Nat.mul_mod_left _ _) (by omega);have hsum := sum_rung hrq (hM.trans hmg);have gu := congrArg (Ieee.double.word (ng a)) hsum;refine yb Try.func80 rfl Try.ntmps80 rfl ?_;have LW := erx (No) w;have XLW := grx (No) w;have E := erx (No) w
 refine srx (anx rfl (zl (yh (srx (mvx rfl (za rfl (zzz rfl rfl (anx rfl (yd 8 (.bool false) rfl ((by rw [znx, hz] : (.bool (js a 0 == some .eq) : Value) = _)) (zw rfl (srx (mvx rfl (za rfl (zi en66 rfl ((jz _ a ha).mono ?_)))))))))))))));rintro e w1 ⟨rfl, hb⟩;refine ⟨_, rfl, ?_⟩;replace E := blx E hb
 refine zq 14 (.bool false) rfl ((by rw [hinf] : (.bool (decide (rg a = 9218868437227405312)) : Value) = _)) (mvx rfl (onx rfl (zp rfl (onx rfl (zi en87 rfl ((yfz _ a).mono ?_))))));rintro e w2 ⟨rfl, hb⟩;refine ⟨_, rfl, ?_⟩;replace E := blx E hb
 refine zq 17 (.bool false) rfl ((by rw [hnn] : (.bool (isN a) : Value) = _)) (za rfl (zm rfl rfl (anx rfl (zw rfl (zt (zx (zj (srx (mvx rfl (za rfl (zi en88 rfl ((zkq _ a ha h0 hf).mono ?_))))))))))));rintro e w3 ⟨rfl, hb⟩;refine ⟨_, rfl, ?_⟩;replace E := blx E hb
 refine mvx rfl (za rfl (zg rfl rfl (za rfl (zg rfl rfl (avx rfl (anx rfl (srx (mvx rfl (mvx rfl (za rfl (yp rfl rfl (zy (by omega)) (anx rfl (srx (mvx rfl (za rfl (zpv ex61 rfl (anx rfl (srx (mvx rfl (mvx rfl (za rfl (ju rfl rfl (by decide) (shr52 (nzB a)) (za rfl (qc Try.underlying3 Try.underlying25 rfl (zy (by omega)) (za rfl (xr rfl rfl (and_2047i (by omega)) (zq 34 (.int .i64 ((ex (nr (rg a)) + 1 : Nat) : Int)) rfl ((by rw [show nzB a / 4503599627370496 % 2048 = _ from hp1, hex] : (.int .i64 ((nzB a / 4503599627370496 % 2048 : Nat) : Int) : Value) = _)) (za rfl (vq rfl rfl (zy (by omega)) (za rfl (yp rfl rfl (zy (by omega)) (anx rfl (zl (srx (mvx rfl (za rfl (qo rfl rfl ?_)))))))))))))))))))))))))))))))))))))
 refine rnx (yd 38 (.bool false) rfl ((by rw [hB, decide_eq_false (by omega)] : (.bool (decide (((((k : Nat) : Int) + (nzE a)) + (((ex (nr (rg a)) + 1 : Nat) : Int) - 1023)) < (-1075))) : Value) = _)) (yd 1 (.int .i64 (((ex q : Nat) : Int) - 1022)) rfl ((by rw [hB] : (.int .i64 ((((k : Nat) : Int) + (nzE a)) + (((ex (nr (rg a)) + 1 : Nat) : Int) - 1023)) : Value) = _)) (zw rfl (zt (zj (zl (srx (mvx rfl (za rfl (vf rfl rfl (rnx (yd 42 (.bool false) rfl ((by rw [decide_eq_false (by omega)] : (.bool (decide (1023 < (((ex q : Nat) : Int) - 1022))) : Value) = _)) (zw rfl (zt (zj (srx (anx rfl (zl (srx (mvx rfl (za rfl (qo rfl rfl (rnx (yd 48 (.bool false) rfl ((by rw [decide_eq_false (by omega)] : (.bool (decide ((((ex q : Nat) : Int) - 1022) < (-1022))) : Value) = _)) (zw rfl (zt (zj (srx (mvx rfl (za rfl (zmx rfl rfl (yfv hlt) (zq 52 (.int .u64 ((Ieee.double.word (ng a) (nr (rg a) % 4503599627370496) : Nat) : Int)) rfl ((by rw [show nzB a / 9223372036854775808 * 9223372036854775808 + nzB a % 4503599627370496 = _ from hp2] : (.int .u64 ((nzB a / 9223372036854775808 * 9223372036854775808 + nzB a % 4503599627370496 : Nat) : Int) : Value) = _)) (avx rfl ?_)))))))))))))))))))))))))))))))))
 refine rnx (srx (mvx rfl (mvx rfl (za rfl (yp rfl rfl (zy (by omega)) (za rfl (qc Try.underlying25 Try.underlying3 rfl (wrap_u64 (by omega)) (za rfl (oq (z := (((ex q + 1) * 4503599627370496 : Nat) : Int)) rfl rfl (by decide) (by show IntKind.u64.wrap ((((ex q : Nat) : Int) - 1022 + 1023) * 4503599627370496) = _; rw [wrap_u64 (by omega)]; omega) (za rfl (ycq rfl rfl (yjx hfw (by omega)) (zq 58 (.int .u64 ((Ieee.double.word (ng a) q : Nat) : Int)) rfl ((by rw [hor.trans gu] : (.int .u64 ((Ieee.double.word (ng a) (nr (rg a) % 4503599627370496) ||| (ex q + 1) * 4503599627370496 : Nat) : Int) : Value) = _)) (anx rfl (srx (mvx rfl (mvx rfl (za rfl (va (b := Ieee.double.word (ng a) q) zrk rfl (za rfl (ow_float (m := 4607182418800017408) (n := Ieee.double.word (ng a) q) (.inr (.inr (.inl rfl))) rfl rfl ?_))))))))))))))))))))
 intro r w4 hr;have Ec := hr.ext;replace E := E.trans Ec.no;refine anx rfl (zo (zn (rs := [.tmp 4]) (vs := [_]) rfl ⟨rfl, trivial⟩ ?_));exact ⟨by rw [hr.some (one_mul_f hq)]; rfl, (LW.step E XLW).toBelow⟩
theorem ldexp_sub (hn : q < 4503599627370496) (hq0 : q ≠ 0) : Calls Try.prog 80 #[.float .f64 a, .int .i64 ((k : Nat) : Int)] w fun e w' => e = .returned (.float .f64 (Ieee.double.word (ng a) q)) ∧ Below w.heap.size w w' := by
 have _ := hq;have hz : isZ a = false := decide_eq_false h0;have hinf : decide (rg a = 9218868437227405312) = false := decide_eq_false (by omega);have hnn := ywz hf;have hlt := nzB_lt h0 hf;have hlow := nr_low h0;have hhigh := zzv h0 hf;obtain ⟨hp1, hp2⟩ := ydk (ng a) hhigh;have hex : nr (rg a) / 4503599627370496 = ex (nr (rg a)) + 1 := by unfold ex; rw [if_neg (by omega)]; omega
 have hmg : mg (nr (rg a)) = 4503599627370496 + nr (rg a) % 4503599627370496 := by unfold mg; rw [if_neg (by omega)]
 have hexb : ex (nr (rg a)) ≤ 2045 := by omega
 have hfl : nr (rg a) % 4503599627370496 < 4503599627370496 := Nat.mod_lt _ (by decide);have hnze := nzE_nd a;have hndb : nd (rg a) ≤ 52 := by unfold nd; split <;> omega
 have hfw : Ieee.double.word (ng a) (nr (rg a) % 4503599627370496) < 18446744073709551616 := (kd _ _ (by omega)).2.2;obtain ⟨hM, hE⟩ := yrq h0 (q := q) hq0 hv;have hndq : nd q = 52 := by unfold nd; rw [if_pos hn]
 rw [hndq] at hE;have heq : ex (nr q) ≤ 51 := by rw [(yfx hq0 hn).1]; exact (zlq hq0 hn).1
 have hB : ((k : Nat) : Int) + nzE a + (((ex (nr (rg a)) + 1 : Nat) : Int) - 1023) = ((ex (nr q) : Nat) : Int) - 1074 := by omega
 have hor := ypq (ng a) (x := (ex (nr q) + 2) * 4503599627370496) hfl (Nat.mul_mod_left _ _) (by omega);have hsum := sum_rung (x := ex (nr q) + 1) (m := mg (nr q)) rfl (hM.trans hmg);have gu := congrArg (Ieee.double.word (ng a)) hsum;refine yb Try.func80 rfl Try.ntmps80 rfl ?_;have LW := erx (No) w;have XLW := grx (No) w;have E := erx (No) w
 refine srx (anx rfl (zl (yh (srx (mvx rfl (za rfl (zzz rfl rfl (anx rfl (yd 8 (.bool false) rfl ((by rw [znx, hz] : (.bool (js a 0 == some .eq) : Value) = _)) (zw rfl (srx (mvx rfl (za rfl (zi en66 rfl ((jz _ a ha).mono ?_)))))))))))))));rintro e w1 ⟨rfl, hb⟩;refine ⟨_, rfl, ?_⟩;replace E := blx E hb
 refine zq 14 (.bool false) rfl ((by rw [hinf] : (.bool (decide (rg a = 9218868437227405312)) : Value) = _)) (mvx rfl (onx rfl (zp rfl (onx rfl (zi en87 rfl ((yfz _ a).mono ?_))))));rintro e w2 ⟨rfl, hb⟩;refine ⟨_, rfl, ?_⟩;replace E := blx E hb
 refine zq 17 (.bool false) rfl ((by rw [hnn] : (.bool (isN a) : Value) = _)) (za rfl (zm rfl rfl (anx rfl (zw rfl (zt (zx (zj (srx (mvx rfl (za rfl (zi en88 rfl ((zkq _ a ha h0 hf).mono ?_))))))))))));rintro e w3 ⟨rfl, hb⟩;refine ⟨_, rfl, ?_⟩;replace E := blx E hb
 refine mvx rfl (za rfl (zg rfl rfl (za rfl (zg rfl rfl (avx rfl (anx rfl (srx (mvx rfl (mvx rfl (za rfl (yp rfl rfl (zy (by omega)) (anx rfl (srx (mvx rfl (za rfl (zpv ex61 rfl (anx rfl (srx (mvx rfl (mvx rfl (za rfl (ju rfl rfl (by decide) (shr52 (nzB a)) (za rfl (qc Try.underlying3 Try.underlying25 rfl (zy (by omega)) (za rfl (xr rfl rfl (and_2047i (by omega)) (zq 34 (.int .i64 ((ex (nr (rg a)) + 1 : Nat) : Int)) rfl ((by rw [show nzB a / 4503599627370496 % 2048 = _ from hp1, hex] : (.int .i64 ((nzB a / 4503599627370496 % 2048 : Nat) : Int) : Value) = _)) (za rfl (vq rfl rfl (zy (by omega)) (za rfl (yp rfl rfl (zy (by omega)) (anx rfl (zl (srx (mvx rfl (za rfl (qo rfl rfl ?_)))))))))))))))))))))))))))))))))))))
 refine rnx (yd 38 (.bool false) rfl ((by rw [hB, decide_eq_false (by omega)] : (.bool (decide (((((k : Nat) : Int) + (nzE a)) + (((ex (nr (rg a)) + 1 : Nat) : Int) - 1023)) < (-1075))) : Value) = _)) (yd 1 (.int .i64 (((ex (nr q) : Nat) : Int) - 1074)) rfl ((by rw [hB] : (.int .i64 ((((k : Nat) : Int) + (nzE a)) + (((ex (nr (rg a)) + 1 : Nat) : Int) - 1023)) : Value) = _)) (zw rfl (zt (zj (zl (srx (mvx rfl (za rfl (vf rfl rfl (rnx (yd 42 (.bool false) rfl ((by rw [decide_eq_false (by omega)] : (.bool (decide (1023 < (((ex (nr q) : Nat) : Int) - 1074))) : Value) = _)) (zw rfl (zt (zj (srx (anx rfl (zl (srx (mvx rfl (za rfl (qo rfl rfl (rnx (yd 48 (.bool true) rfl ((by rw [decide_eq_true (by omega)] : (.bool (decide ((((ex (nr q) : Nat) : Int) - 1074) < (-1022))) : Value) = _)) (ye rfl (srx (mvx rfl (za rfl (yp rfl rfl (zy (by omega)) (anx rfl (yq ?_)))))))))))))))))))))))))))))))
 refine anx rfl (srx (mvx rfl (za rfl (zmx rfl rfl (yfv hlt) (zq 52 (.int .u64 ((Ieee.double.word (ng a) (nr (rg a) % 4503599627370496) : Nat) : Int)) rfl ((by rw [show nzB a / 9223372036854775808 * 9223372036854775808 + nzB a % 4503599627370496 = _ from hp2] : (.int .u64 ((nzB a / 9223372036854775808 * 9223372036854775808 + nzB a % 4503599627370496 : Nat) : Int) : Value) = _)) (anx rfl (srx (mvx rfl (mvx rfl (za rfl (yp rfl rfl (zy (by omega)) (za rfl (qc Try.underlying25 Try.underlying3 rfl (wrap_u64 (by omega)) (za rfl (oq (z := (((ex (nr q) + 2) * 4503599627370496 : Nat) : Int)) rfl rfl (by decide) (by show IntKind.u64.wrap ((((ex (nr q) : Nat) : Int) - 1074 + 53 + 1023) * 4503599627370496) = _; rw [wrap_u64 (by omega)]; omega) (za rfl (ycq rfl rfl (yjx hfw (by omega)) (zq 58 (.int .u64 ((Ieee.double.word (ng a) ((ex (nr q) + 1) * 4503599627370496 + mg (nr q)) : Nat) : Int)) rfl ((by rw [hor.trans gu] : (.int .u64 ((Ieee.double.word (ng a) (nr (rg a) % 4503599627370496) ||| (ex (nr q) + 2) * 4503599627370496 : Nat) : Int) : Value) = _)) (anx rfl (srx (mvx rfl (mvx rfl (za rfl (va (b := Ieee.double.word (ng a) ((ex (nr q) + 1) * 4503599627370496 + mg (nr q))) zrk rfl (za rfl (ow_float (m := 4368491638549381120) (n := Ieee.double.word (ng a) ((ex (nr q) + 1) * 4503599627370496 + mg (nr q))) (.inr (.inr (.inl rfl))) rfl rfl ?_))))))))))))))))))))))))))
 intro r w4 hr;have Ec := hr.ext;replace E := E.trans Ec.no;refine anx rfl (zo (zn (rs := [.tmp 4]) (vs := [_]) rfl ⟨rfl, trivial⟩ ?_));exact ⟨by rw [hr.some (m53_mul hq0 hn)]; rfl, (LW.step E XLW).toBelow⟩
end
end Go.Proofs.Ytebjkmjfcijebaa
namespace Go.Proofs.Ytebjkmjfcijebaa
open Ieee
set_option maxRecDepth 100000
theorem two_split {p q s P : Nat} (hP : P = 2 ^ p) (h : p = q + s) : P = 2 ^ q * 2 ^ s := by rw [hP, h, Nat.pow_add]
theorem two_mono {k K P : Nat} (h : k ≤ K) (hP : P = 2 ^ K) : 2 ^ k ≤ P := by rw [hP]; exact Nat.pow_le_pow_right (by decide) h
theorem zeq (n : Nat) : 0 < 2 ^ n := Nat.pow_pos (by decide)
theorem div_mul_p {x P w : Nat} (h : w = x / P) : w * P ≤ x := by rw [h]; exact Nat.div_mul_le_self _ _
theorem cut_zero (s : Bool) (n t : Nat) : Toward.zero.cut s n t = n / 2 ^ t := by
 have e : Toward.zero.cut s n t = n / (1 <<< min t (n.log2 + 2)) := by
  unfold Toward.cut;simp only [Bool.toNat_false, Nat.add_zero]
 rw [e, Nat.shiftLeft_eq, Nat.one_mul];rcases Nat.le_total t (n.log2 + 2) with h | h
 · rw [Nat.min_eq_left h]
 · rw [Nat.min_eq_right h];have h1 := @Nat.lt_log2_self n;have h2 : (2 : Nat) ^ (n.log2 + 1) ≤ 2 ^ (n.log2 + 2) := Nat.pow_le_pow_right (by decide) (by omega);have h3 : (2 : Nat) ^ (n.log2 + 2) ≤ 2 ^ t := Nat.pow_le_pow_right (by decide) h;rw [Nat.div_eq_of_lt (by omega), Nat.div_eq_of_lt (by omega)]
theorem shl_div (m i j : Nat) : m * 2 ^ (i - j) / 2 ^ (j - i) = m * 2 ^ i / 2 ^ j := by
 rcases Nat.le_total j i with h | h
 · rw [show j - i = 0 by omega, Nat.pow_zero, Nat.div_one, yuk h, Nat.mul_div_cancel _ (Nat.pow_pos (by decide))]
 · rw [show i - j = 0 by omega, Nat.pow_zero, Nat.mul_one];rw [show (2 : Nat) ^ j = 2 ^ (j - i) * 2 ^ i by rw [← Nat.pow_add]; congr 1; omega, Nat.mul_div_mul_right _ _ (Nat.pow_pos (by decide))]
def vh (a : Nat) : Nat := vl (rg a) / 2 ^ 1074
theorem ycv {a : Nat} (ha : rg a < 9218868437227405312) : (double.read a).integral .zero = .number (ng a) (vh a) 0 := by
 rw [ol ha, Datum.integral, cut_zero, Nat.shiftLeft_eq];have e1 : (-1074 + (ex (rg a) : Int)).toNat = ex (rg a) - 1074 := by omega
 have e2 : (-(-1074 + (ex (rg a) : Int))).toNat = 1074 - ex (rg a) := by omega
 rw [e1, e2, shl_div];rfl
theorem signed_zero (s : Bool) (m : Nat) : signed s m 0 = if s then -(m : Int) else (m : Int) := by
 unfold signed;rw [Nat.shiftLeft_zero]
theorem toInt_fin {a : Nat} (ha : rg a < 9218868437227405312) : (FloatKind.f64.decode a).toInt .zero = some (if ng a then -(vh a : Int) else (vh a : Int)) := by
 show Datum.toInt .zero (double.read a) = _
 unfold Datum.toInt;rw [ycv ha];simp only [signed_zero]
theorem f2i_i64 {a : Nat} (ha : rg a < 9218868437227405312) (h : vh a < 9223372036854775808) : floatToIntVal .f64 a .i64 = some (if ng a then -(vh a : Int) else (vh a : Int)) := by
 unfold floatToIntVal;rw [toInt_fin ha];have h1 : IntKind.i64.min = -9223372036854775808 := rfl;have h2 : IntKind.i64.max = 9223372036854775807 := rfl;simp only [h1, h2]
 rw [if_pos (by split <;> omega)]
theorem f2i_u64 {a : Nat} (ha : rg a < 9218868437227405312) (hs : ng a = false) (h : vh a < 18446744073709551616) : floatToIntVal .f64 a .u64 = some (vh a : Int) := by
 unfold floatToIntVal;rw [toInt_fin ha, hs];have h1 : IntKind.u64.min = 0 := rfl;have h2 : IntKind.u64.max = 18446744073709551615 := rfl;simp only [h1, h2, Bool.false_eq_true, if_false]
 rw [if_pos (by omega)]
theorem mul_div_p {m P x : Nat} (hP : 0 < P) (h : x = m * P) : x / P = m := by rw [h, Nat.mul_div_cancel _ hP]
theorem zsx (s : Bool) {q m : Nat} (hq : q < 9218868437227405312) (h : vl q = m * 2 ^ 1074) : vh (double.word s q) = m := by
 unfold vh;rewrite [(kd s q (Nat.lt_trans hq (by decide))).1]
 exact mul_div_p (zeq 1074) h
theorem zvk {a : Nat} (ha : rg a < 9218868437227405312) : ∃ q, vl q = vh a * 2 ^ 1074 ∧ q ≤ rg a ∧ xt .zero a = double.word (ng a) q := by
 have key : ∃ q, vl q = vh a * 2 ^ 1074 ∧ q ≤ rg a := by
  have hle : vh a * 2 ^ 1074 ≤ vl (rg a) := div_mul_p rfl;rcases Nat.le_total (ex (rg a)) 1074 with h | h
  · refine rep_le (vh a) 1074 (rg a) ?_ hle;have := mg_lt (rg a);have h2 : vl (rg a) ≤ mg (rg a) * 2 ^ 1074 := Nat.mul_le_mul_left _ (two_mono h rfl);have h3 : vh a ≤ mg (rg a) := Nat.le_of_mul_le_mul_right (Nat.le_trans hle h2) (zeq 1074);exact Nat.lt_of_le_of_lt h3 this
  · refine ⟨rg a, ?_, Nat.le_refl _⟩;have e : vl (rg a) = mg (rg a) * 2 ^ (ex (rg a) - 1074) * 2 ^ 1074 := yuk h _;have e2 : vh a = mg (rg a) * 2 ^ (ex (rg a) - 1074) := mul_div_p (zeq 1074) e;rw [e2]; exact e
 obtain ⟨q, h1, h2⟩ := key;refine ⟨q, h1, h2, ?_⟩;show double.write ((double.read a).integral .zero) = _
 rw [ycv ha];exact yqk (u := 1074) (d := 0) (Nat.lt_of_le_of_lt h2 ha) (by omega) (by rw [h1, Nat.pow_zero, Nat.mul_one])
/-! ### rests -/
def addS (a b : Nat) : Bool := if sv a + sv b = 0 then ng a && ng b else decide (sv a + sv b < 0)
theorem dvd_p {x m P : Nat} (h : x = m * P) : P ∣ x := ⟨m, by rw [h, Nat.mul_comm]⟩
theorem zero_p {x j P : Nat} (h : x = j * P) (e : j = 0) : x = 0 := by rw [h, e, Nat.zero_mul]
def isWh (r : Nat) : Prop := 2 ^ 1074 ∣ vl r
theorem isWh_iff {a : Nat} : isWh (rg a) ↔ vl (rg a) = vh a * 2 ^ 1074 := by
 constructor
 · intro h; exact (Nat.div_mul_cancel h).symm
 · intro h; exact dvd_p h
noncomputable def modR (a b : Nat) : Nat := if rg b = 9218868437227405312 then rg a else rungOf (vl (rg a) % vl (rg b))
noncomputable def m0F (a b : Nat) : Nat := double.word (ng a) (modR a b)
theorem gi {b : Nat} (hb : rg b < 9218868437227405312) : isN b = false := decide_eq_false (by omega)
def nanCase (a b : Nat) : Bool := isN a || isN b || decide (rg a = 9218868437227405312)
noncomputable def flipB (a b : Nat) : Bool := decide (modR a b ≠ 0) && (ng a != ng b)
noncomputable def modF (a b : Nat) : Nat := if nanCase a b then 9221120237041090560 else if modR a b = 0 then double.word (ng b) 0 else if flipB a b then ansF (fop .add (m0F a b) b) else m0F a b
noncomputable def subF (a b : Nat) : Nat := ansF (fop .sub a (m0F a b))
noncomputable def d0F (a b : Nat) : Nat := ansF (fop .quo (subF a b) b)
noncomputable def d1F (a b : Nat) : Nat := if flipB a b then ansF (fop .sub (d0F a b) 4607182418800017408) else d0F a b
def upB (d : Nat) : Bool := match fop .sub d (xt .down d) with
 | some z => js z 4602678819172646912 == some .gt
 | none => false
def wholeF (d : Nat) : Nat := if upB d then ansF (fop .add (xt .down d) 4607182418800017408) else xt .down d
noncomputable def floorF (a b : Nat) : Nat := if nanCase a b then 9221120237041090560 else if isZ (d1F a b) then double.word (ng a ^^ ng b) 0 else wholeF (d1F a b)
section
variable {a b : Nat} (ha : a < 18446744073709551616) (hf : rg a < 9218868437227405312) (hb : b < 18446744073709551616) (hn : isN b = false) (h0 : rg b ≠ 0)
include hf h0
include hn ha
end
theorem ford_neg {b : Nat} (hn : isN b = false) (h0 : rg b ≠ 0) : (js b 0 == some .lt) = ng b := by
 rw [znz hn (by decide)];have hp : pc 0 = 0 := by decide
 rw [hp];obtain ⟨p1, p2⟩ := yek b;cases h : ng b with
 | true => rw [ybq (by rw [p1 h]; omega)]; rfl
 | false => rw [ylk (by rw [p2 h]; omega)]; rfl
theorem ford_nan_no {a b : Nat} (h : isN a = true) (o : Ordering) : (js a b == some o) = false := by rw [zdz (.inl h)]; rfl
end Go.Proofs.Ytebjkmjfcijebaa
namespace Go.Proofs.Ytebjkmjfcijebaa
open Go.RowKit
set_option maxRecDepth 100000
theorem zyk {r : Nat} (h : r < 9223372036854775808) : rg r = r ∧ ng r = false := by
 have := kd false r h;exact ⟨this.1, this.2.1⟩
theorem frF_pos {r : Nat} (hr : r < 9218868437227405312) : frF r = 4602678819172646912 + (mg (nr r) - 4503599627370496) := by
 obtain ⟨h1, h2⟩ := zyk (r := r) (by omega);rw [frF, h1, h2]; rfl
theorem frE_pos {r : Nat} (hr : r < 9218868437227405312) : frE r = (ex (nr r) : Int) - 1021 - (nd r : Int) := by
 obtain ⟨h1, _⟩ := zyk (r := r) (by omega);unfold frE nd;rw [h1];split <;> rfl
theorem frE_bound {r : Nat} (hr : r < 9218868437227405312) : -1100 ≤ frE r ∧ frE r ≤ 1100 := by
 rw [frE_pos hr];have h1 : ex (nr r) ≤ 2045 := by
  by_cases h0 : r = 0
  · subst h0; decide
  · have := zzv h0 hr;unfold ex;split <;> omega
 have h2 : nd r ≤ 52 := by unfold nd; split <;> omega
 omega
section
variable (w : World)
section
variable (a : Nat) (ha : a < 18446744073709551616) (h0 : rg a ≠ 0) (hf : rg a < 9218868437227405312)
include ha
section
include h0 hf
theorem yqq : Calls Try.prog 67 #[.float .f64 a] w fun e w' => e = .returned (.tuple #[.float .f64 (frF a), .int .i64 (frE a)]) ∧ Below w.heap.size w w' := by
 refine yb Try.func67 rfl Try.ntmps67 rfl ?_;have LW := erx (No) w;have XLW := grx (No) w;have E := erx (No) w;refine srx (avx rfl (anx rfl (zl (zw rfl (zt (zj (srx (mvx rfl (za rfl (zi en78 rfl ((frexp_num _ a ha h0 hf).mono ?_)))))))))));rintro e w1 ⟨rfl, hb⟩;refine ⟨_, rfl, ?_⟩;replace E := blx E hb
 refine za rfl (zg rfl rfl (za rfl (zg rfl rfl (avx rfl (anx rfl (zo (zn (rs := [.tmp 2, .tmp 3]) (vs := [_, _]) rfl ⟨rfl, rfl, trivial⟩ ?_)))))));exact ⟨rfl, (LW.step E XLW).toBelow⟩
theorem ldexp_all (k q : Nat) (hk : k < 4096) (hq : q < 9218868437227405312) (hv : vl q = vl (rg a) * 2 ^ k) : Calls Try.prog 80 #[.float .f64 a, .int .i64 ((k : Nat) : Int)] w fun e w' => e = .returned (.float .f64 (Ieee.double.word (ng a) q)) ∧ Below w.heap.size w w' := by
 rcases Nat.lt_or_ge q 4503599627370496 with hn | hn
 · refine ldexp_sub w a k q ha h0 hf hk hq hv hn (fun e => ?_);subst e;rw [oi] at hv;have h1 : 0 < vl (rg a) := by
    rcases Nat.eq_zero_or_pos (vl (rg a)) with h' | h'
    · exact absurd (yqv.1 h') h0
    · exact h'
   have := Nat.mul_pos h1 (show 0 < 2 ^ k from Nat.pow_pos (by decide));omega
 · exact ldexp_norm w a k q ha h0 hf hk hq hv hn
theorem yqz (k q : Nat) (hk : k < 4096) (hq : q < 9218868437227405312) (hv : vl q = vl (rg a) * 2 ^ k) : Calls Try.prog 69 #[.float .f64 a, .int .i64 ((k : Nat) : Int)] w fun e w' => e = .returned (.float .f64 (Ieee.double.word (ng a) q)) ∧ Below w.heap.size w w' := by
 refine yb Try.func69 rfl Try.ntmps69 rfl ?_;have LW := erx (No) w;have XLW := grx (No) w;have E := erx (No) w;refine srx (anx rfl (zl (zw rfl (zt (zj (srx (mvx rfl (mvx rfl (za rfl (zi en80 rfl ((ldexp_all _ a ha h0 hf k q hk hq hv).mono ?_)))))))))));rintro e w1 ⟨rfl, hb⟩;refine ⟨_, rfl, ?_⟩;replace E := blx E hb
 refine anx rfl (zo (zn (rs := [.tmp 4]) (vs := [_]) rfl ⟨rfl, trivial⟩ ?_));exact ⟨rfl, (LW.step E XLW).toBelow⟩
end
section
variable (hz : rg a = 0)
include hz
theorem frexp_zero : Calls Try.prog 78 #[.float .f64 a] w fun e w' => e = .returned (.tuple #[.float .f64 a, .int .i64 0]) ∧ Below w.heap.size w w' := by
 have _ := ha;have hz2 : isZ a = true := decide_eq_true hz;refine yb Try.func78 rfl Try.ntmps78 rfl ?_;have LW := erx (No) w;have XLW := grx (No) w;have E := erx (No) w
 refine srx (avx rfl (anx rfl (zl (yh (srx (mvx rfl (za rfl (zzz rfl rfl (anx rfl (yd 5 (.bool true) rfl ((by rw [znx, hz2] : (.bool (js a 0 == some .eq) : Value) = _)) (ye rfl (srx (mvx rfl (avx rfl (anx rfl (zo (zr (zh (zn (rs := [.tmp 2, .tmp 3]) (vs := [_, _]) rfl ⟨rfl, rfl, trivial⟩ ?_)))))))))))))))))))
 exact ⟨rfl, (LW.step E XLW).toBelow⟩
theorem Frexp_zero : Calls Try.prog 67 #[.float .f64 a] w fun e w' => e = .returned (.tuple #[.float .f64 a, .int .i64 0]) ∧ Below w.heap.size w w' := by
 refine yb Try.func67 rfl Try.ntmps67 rfl ?_;have LW := erx (No) w;have XLW := grx (No) w;have E := erx (No) w;refine srx (avx rfl (anx rfl (zl (zw rfl (zt (zj (srx (mvx rfl (za rfl (zi en78 rfl ((frexp_zero _ a ha hz).mono ?_)))))))))));rintro e w1 ⟨rfl, hb⟩;refine ⟨_, rfl, ?_⟩;replace E := blx E hb
 refine za rfl (zg rfl rfl (za rfl (zg rfl rfl (avx rfl (anx rfl (zo (zn (rs := [.tmp 2, .tmp 3]) (vs := [_, _]) rfl ⟨rfl, rfl, trivial⟩ ?_)))))));exact ⟨rfl, (LW.step E XLW).toBelow⟩
theorem ldexp_zero (k : Int) : Calls Try.prog 80 #[.float .f64 a, .int .i64 k] w fun e w' => e = .returned (.float .f64 a) ∧ Below w.heap.size w w' := by
 have _ := ha;have hz2 : isZ a = true := decide_eq_true hz;refine yb Try.func80 rfl Try.ntmps80 rfl ?_;have LW := erx (No) w;have XLW := grx (No) w;have E := erx (No) w
 refine srx (anx rfl (zl (yh (srx (mvx rfl (za rfl (zzz rfl rfl (anx rfl (yd 8 (.bool true) rfl ((by rw [znx, hz2] : (.bool (js a 0 == some .eq) : Value) = _)) (ye rfl (srx (mvx rfl (anx rfl (zo (zr (zh (zn (rs := [.tmp 4]) (vs := [_]) rfl ⟨rfl, trivial⟩ ?_)))))))))))))))));exact ⟨rfl, (LW.step E XLW).toBelow⟩
theorem Ldexp_zero (k : Int) : Calls Try.prog 69 #[.float .f64 a, .int .i64 k] w fun e w' => e = .returned (.float .f64 a) ∧ Below w.heap.size w w' := by
 refine yb Try.func69 rfl Try.ntmps69 rfl ?_;have LW := erx (No) w;have XLW := grx (No) w;have E := erx (No) w;refine srx (anx rfl (zl (zw rfl (zt (zj (srx (mvx rfl (mvx rfl (za rfl (zi en80 rfl ((ldexp_zero _ a ha hz k).mono ?_)))))))))));rintro e w1 ⟨rfl, hb⟩;refine ⟨_, rfl, ?_⟩;replace E := blx E hb
 refine anx rfl (zo (zn (rs := [.tmp 4]) (vs := [_]) rfl ⟨rfl, trivial⟩ ?_));exact ⟨rfl, (LW.step E XLW).toBelow⟩
end
section
variable (hi : rg a = 9218868437227405312)
include hi
end
end
/-! ### math.mod -/
section
variable (a b : Nat) (ha : a < 18446744073709551616) (hbq : b < 18446744073709551616) (hz : isZ b = false)
include ha hbq hz
section
variable (hf : rg a < 9218868437227405312) (hn : isN b = false)
include hf hn
section
variable (ha0 : rg a ≠ 0)
include ha0
/-! ### the loop -/
variable (hq : rg b < 9218868437227405312)
include hq
end
end
end
end
theorem shr_nat (m k : Nat) (hk : k < 64) : ((m : Nat) : Int).fdiv (2 ^ (min ((k : Nat) : Int).toNat IntKind.u64.bits)) = ((m / 2 ^ k : Nat) : Int) := by
 rw [Int.toNat_natCast, show min k IntKind.u64.bits = k from Nat.min_eq_left (by show k ≤ 64; omega), Int.fdiv_eq_ediv_of_nonneg _ (Int.le_of_lt (Int.pow_pos (by decide)))];rw [show (2 : Int) ^ k = ((2 ^ k : Nat) : Int) by simp];rfl
theorem wrap_mod (m : Nat) : IntKind.u64.wrap ((m : Nat) : Int) = ((m % 18446744073709551616 : Nat) : Int) := by
 unfold IntKind.wrap;simp only [IntKind.bits, IntKind.signed, Bool.false_and, Bool.false_eq_true, if_false]
 omega
theorem yux (m k : Nat) (hk : k < 64) : IntKind.u64.wrap (((m : Nat) : Int) * 2 ^ (min ((k : Nat) : Int).toNat IntKind.u64.bits)) = ((m * 2 ^ k % 18446744073709551616 : Nat) : Int) := by
 rw [Int.toNat_natCast, show min k IntKind.u64.bits = k from Nat.min_eq_left (by show k ≤ 64; omega), show (2 : Int) ^ k = ((2 ^ k : Nat) : Int) by simp, ← Int.natCast_mul];exact wrap_mod _
theorem ygq (m n : Nat) : ((m : Nat) : Int).tmod ((n : Nat) : Int) = ((m % n : Nat) : Int) := rfl
theorem bool_dec {p q : Prop} [Decidable p] [Decidable q] (h : p ↔ q) : (Value.bool (decide p)) = .bool (decide q) := by
 congr 1
 by_cases hp : p
 · rw [decide_eq_true hp, decide_eq_true (h.1 hp)]
 · rw [decide_eq_false hp, decide_eq_false (fun k => hp (h.2 k))]
section
variable (w : World)
/-! ### rest -/
section
variable (a b : Nat) (ha : a < 18446744073709551616) (hbq : b < 18446744073709551616)
include ha hbq
section
variable (ha0 : rg a ≠ 0) (hb0 : rg b ≠ 0) (hf : rg a < 9218868437227405312) (hq : rg b < 9218868437227405312)
include ha0 hb0 hf hq
end
end
end
theorem tdiv_nat (m n : Nat) : ((m : Nat) : Int).tdiv ((n : Nat) : Int) = ((m / n : Nat) : Int) := rfl
theorem quo_nat {m n : Nat} (h : m < 18446744073709551616) : IntKind.u64.wrap (((m : Nat) : Int).tdiv ((n : Nat) : Int)) = ((m / n : Nat) : Int) := by
 rw [tdiv_nat]; exact zrv (Nat.lt_of_le_of_lt (Nat.div_le_self m n) h)
theorem yvv (m n : Nat) : IntKind.u64.wrap (((m : Nat) : Int) * ((n : Nat) : Int)) = ((m * n % 18446744073709551616 : Nat) : Int) := by rw [← Int.natCast_mul]; exact wrap_mod _
theorem add_nat (m n : Nat) : IntKind.u64.wrap (((m : Nat) : Int) + ((n : Nat) : Int)) = (((m + n) % 18446744073709551616 : Nat) : Int) := by rw [← Int.natCast_add]; exact wrap_mod _
theorem sub_mod_gen {M x y W : Nat} (hW : W < M) (h : (W + y) % M = x % M) : ((x : Int) - (y : Int)) % (M : Int) = (W : Int) := by
 have h' : ((W : Int) + (y : Int)) % (M : Int) = (x : Int) % (M : Int) := by exact_mod_cast h
 rw [Int.sub_emod, ← h', ← Int.sub_emod, Int.add_sub_cancel];exact Int.emod_eq_of_lt (by omega) (by omega)
theorem sub_nat {x y W : Nat} (hW : W < 18446744073709551616) (h : (W + y) % 18446744073709551616 = x % 18446744073709551616) : IntKind.u64.wrap (((x : Nat) : Int) - ((y : Nat) : Int)) = ((W : Nat) : Int) := by
 rw [IntKind.wrap_u64];exact sub_mod_gen hW h
theorem shl_cut {lo B V : Nat} (hB : B = lo % 2147483648) (hV : V = B * 8589934592) : lo * 2 ^ 33 % 18446744073709551616 = V := by
 rw [hV, hB];exact Nat.mul_mod_mul_right 8589934592 lo 2147483648
theorem kw {U d q r : Nat} (hq : q = U / d) (hr : r = U % d) : q * d + r = U := by rw [hq, hr, Nat.mul_comm]; exact Nat.div_add_mod U d
theorem oa {r U d : Nat} (hd : 0 < d) (hr : r = U % d) : r < d := by rw [hr]; exact Nat.mod_lt _ hd
theorem wrap_rest {M m q r d e f W x y : Nat} (hU : q * d + r = e) (hW : W = r * m + f) (hx : x = (e * m % M + f) % M) (hy : y = q * (d * m) % M) : (W + y) % M = x % M := by
 subst hx hy hW;rw [Nat.mod_mod, Nat.add_mod_mod, Nat.mod_add_mod, ← hU, Nat.add_mul, Nat.mul_assoc];congr 1
 omega
theorem div_gen {hi A B U V1 V0 q1 r1 q0 r0 m h y1 P a M : Nat} (hM : M = m * m) (hM2 : M = a * h) (hU : U = hi * h + A) (hV : V1 * m + V0 = B * h)
 (h1 : q1 * y1 + r1 = U) (h3 : q0 * y1 + r0 = r1 * m + V1) (hy : y1 * m = P * h) : (hi * M + (A * a + B)) * h = (q1 * m + q0) * P * h + (r0 * m + V0) := by
 have e1 : (hi * M + (A * a + B)) * h = (hi * h + A) * M + B * h := by
  rw [Nat.add_mul, Nat.add_mul, Nat.add_mul, Nat.mul_assoc A, ← hM2, Nat.mul_right_comm hi M h, Nat.add_assoc]
 have e2 : (q1 * m + q0) * P * h = (q1 * y1 * m + q0 * y1) * m := by
  rw [Nat.mul_assoc, ← hy, Nat.mul_comm y1 m, ← Nat.mul_assoc, Nat.mul_right_comm, Nat.add_mul, Nat.mul_right_comm q1 m y1]
 rw [e1, ← hU, ← hV, ← h1, hM, e2, Nat.add_mul, Nat.add_mul];have e3 : q0 * y1 * m + r0 * m = r1 * m * m + V1 * m := by rw [← Nat.add_mul, h3, Nat.add_mul]
 rw [← Nat.mul_assoc, ← Nat.mul_assoc];omega
theorem div_R {S Q P h m r0 V0 y1 : Nat} (h0 : 0 < h) (e : S * h = Q * P * h + (r0 * m + V0)) (hr : r0 < y1) (hv : V0 < m) (hy : y1 * m = P * h) : ∃ R, r0 * m + V0 = R * h ∧ R < P ∧ S = Q * P + R := by
 have hle : Q * P ≤ S := Nat.le_of_mul_le_mul_right (by omega) h0;obtain ⟨R, rfl⟩ : ∃ R, S = Q * P + R := ⟨S - Q * P, by omega⟩;rw [Nat.add_mul] at e;have e1 : r0 * m + V0 = R * h := by omega
 refine ⟨R, e1, ?_, rfl⟩;have e2 : (r0 + 1) * m ≤ y1 * m := Nat.mul_le_mul_right m hr;rw [Nat.add_mul, Nat.one_mul, hy] at e2;exact Nat.lt_of_mul_lt_mul_right (a := h) (by omega)
theorem div_eqs {hi A B U V1 V0 q1 r1 q0 r0 : Nat} (hU : U = hi * 8589934592 + A) (hV : V1 * 4294967296 + V0 = B * 8589934592)
 (h1 : q1 * 4294967294 + r1 = U) (h3 : q0 * 4294967294 + r0 = r1 * 4294967296 + V1) (h4 : r0 < 4294967294) (h5 : V0 < 4294967296) :
 ∃ R, r0 * 4294967296 + V0 = R * 8589934592 ∧ R < 2147483647 ∧ hi * 18446744073709551616 + (A * 2147483648 + B) = (q1 * 4294967296 + q0) * 2147483647 + R :=
 div_R (by decide) (div_gen (m := 4294967296) (a := 2147483648) rfl rfl hU hV h1 h3 rfl) h4 h5 rfl
theorem rr95_1 : Gives 95 #[.int .u64 2147483647] (.int .i64 31) := by
 intro w;refine yb Try.func95 rfl Try.ntmps95 rfl ?_;have LW := erx (No) w;have XLW := grx (No) w;have E := erx (No) w
 refine srx (anx rfl (zl (srx (mvx rfl (za rfl (jr rfl rfl (rnx (zw rfl (zt (zj (zl (srx (mvx rfl (za rfl (jr rfl rfl (rnx (ye rfl (srx (mvx rfl (za rfl (ju (z := 32767) rfl rfl (by decide) (by kernel_rfl) (anx rfl (yq (mvx rfl (za rfl (yp (z := 16) rfl rfl (by kernel_rfl) (anx rfl (zl (srx (mvx rfl ?_))))))))))))))))))))))))))))))
 refine za rfl (jr rfl rfl (rnx (ye rfl (srx (mvx rfl (za rfl (ju (z := 127) rfl rfl (by decide) (by kernel_rfl) (anx rfl (yq (mvx rfl (za rfl (yp (z := 24) rfl rfl (by kernel_rfl) (anx rfl (srx (mvx rfl (mvx rfl (za rfl (qc (z := 127) Try.underlying5 Try.underlying25 rfl (by kernel_rfl) (za rfl (ow_indexSL (j := 127) (b := 7) Try.underlying9 rfl rfl rfl (by kernel_rfl) (za rfl (qc (z := 7) Try.underlying3 Try.underlying5 rfl (by kernel_rfl) (za rfl (yp (z := 31) rfl rfl (by kernel_rfl) (anx rfl (zo (zn (rs := [.tmp 2]) (vs := [.int .i64 31]) rfl ⟨rfl, trivial⟩ ?_)))))))))))))))))))))))))))
 exact ⟨rfl, (LW.step E XLW).toBelow⟩
theorem rr90_2 : Gives 90 #[.int .u64 2147483647] (.int .i64 33) := by
 intro w;refine yb Try.func90 rfl Try.ntmps90 rfl ?_;have LW := erx (No) w;have XLW := grx (No) w;have E := erx (No) w;refine srx (anx rfl (srx (mvx rfl (za rfl (zi en95 rfl ((rr95_1 _).mono ?_))))));rintro e w1 ⟨rfl, hb⟩;refine ⟨_, rfl, ?_⟩;replace E := blx E hb
 refine za rfl (vq (z := 33) rfl rfl (by kernel_rfl) (anx rfl (zo (zn (rs := [.tmp 2]) (vs := [.int .i64 33]) rfl ⟨rfl, trivial⟩ ?_))));exact ⟨rfl, (LW.step E XLW).toBelow⟩
section
variable (w : World)
theorem div64_prime (hi lo : Nat) (h1 : hi < 2147483647) (h2 : lo < 18446744073709551616) : Calls Try.prog 81 #[.int .u64 ((hi : Nat) : Int), .int .u64 ((lo : Nat) : Int), .int .u64 2147483647] w fun e w' => e = .returned (.tuple #[.int .u64 (((hi * 18446744073709551616 + lo) / 2147483647 : Nat) : Int), .int .u64 (((hi * 18446744073709551616 + lo) % 2147483647 : Nat) : Int)]) ∧ Below w.heap.size w w' := by
 obtain ⟨A, hA⟩ : ∃ A, A = lo / 2147483648 := ⟨_, rfl⟩;obtain ⟨B, hB⟩ : ∃ B, B = lo % 2147483648 := ⟨_, rfl⟩;obtain ⟨U, hU⟩ : ∃ U, U = hi * 8589934592 + A := ⟨_, rfl⟩;obtain ⟨V, hV⟩ : ∃ V, V = B * 8589934592 := ⟨_, rfl⟩;have eV : lo * 2 ^ 33 % 18446744073709551616 = V := shl_cut hB hV;have eA : lo / 2 ^ 31 = A := hA.symm
 have ehi : hi * 2 ^ 33 % 18446744073709551616 = hi * 8589934592 := Nat.mod_eq_of_lt (Nat.lt_of_lt_of_le (Nat.mul_lt_mul_of_pos_right h1 (by decide)) (by decide));have bA : A < 8589934592 := by omega
 have eor : hi * 8589934592 ||| A = U := by rw [hU]; exact or_add 33 bA (Nat.mul_mod_left hi 8589934592)
 have bB : B < 2147483648 := oa (by decide) hB;obtain ⟨V1, hV1⟩ : ∃ V1, V1 = V / 4294967296 := ⟨_, rfl⟩;obtain ⟨V0, hV0⟩ : ∃ V0, V0 = V % 4294967296 := ⟨_, rfl⟩;obtain ⟨q1, hq1⟩ : ∃ q1, q1 = U / 4294967294 := ⟨_, rfl⟩;obtain ⟨r1, hr1⟩ : ∃ r1, r1 = U % 4294967294 := ⟨_, rfl⟩;obtain ⟨W, hW⟩ : ∃ W, W = r1 * 4294967296 + V1 := ⟨_, rfl⟩;obtain ⟨q0, hq0⟩ : ∃ q0, q0 = W / 4294967294 := ⟨_, rfl⟩
 obtain ⟨r0, hr0⟩ : ∃ r0, r0 = W % 4294967294 := ⟨_, rfl⟩;obtain ⟨R, e1, e2, e3⟩ := div_eqs (hi := hi) (A := A) (B := B) (U := U) (V1 := V1) (V0 := V0) (q1 := q1) (r1 := r1) (q0 := q0) (r0 := r0) hU ((kw hV1 hV0).trans hV) (kw hq1 hr1) ((kw hq0 hr0).trans hW) (oa (by decide) hr0) (oa (by decide) hV0);have elo : A * 2147483648 + B = lo := kw hA hB
 have b1 := oa (by decide) hr1;have b0 := oa (by decide) hr0;have bV0 := oa (by decide) hV0;rw [elo] at e3;have eR : (hi * 18446744073709551616 + lo) % 2147483647 = R := by rw [e3, Nat.add_comm, Nat.add_mul_mod_self_right, Nat.mod_eq_of_lt e2]
 have eQ : (hi * 18446744073709551616 + lo) / 2147483647 = q1 * 4294967296 + q0 := by rw [e3, Nat.add_comm, Nat.add_mul_div_right _ _ (by decide), Nat.div_eq_of_lt e2, Nat.zero_add]
 have bU : U < 18446744073709551616 := by omega
 have bq1 : q1 < 4294967296 := by omega
 have bq0 : q0 < 4294967296 := by omega
 have bW : W < 18446744073709551616 := by omega
 refine yb Try.func81 rfl Try.ntmps81 rfl ?_;have LW := erx (No) w;have XLW := grx (No) w;have E := erx (No) w
 refine srx (avx rfl (anx rfl (zl (srx (mvx rfl (za rfl (yl rfl rfl (rnx (zw rfl (zt (zj (zl (srx (mvx rfl (mvx rfl (za rfl (kr rfl rfl (rnx (yd 24 (.bool false) rfl ((by rw [decide_eq_false (by omega)] : (.bool (decide (2147483647 ≤ ((hi : Nat) : Int))) : Value) = _)) (zw rfl (zt (zj (zl (srx (mvx rfl (za rfl (yl rfl rfl (rnx (yv rfl (fun h => ?_) (fun h => ?_))))))))))))))))))))))))))))))
 ·
  have h := beq_iff_eq.1 h;obtain rfl : hi = 0 := by omega
  refine zl ?_;have OY : ∀ q9, (Mut (outM [])) q9 → q9 < (World.drew w).heap.size → (No) q9 := fun k h _ => (Mut.none_) k h;refine qt (No) Mut.none_ [] [] (gg [Fx.of (.int .u64 ((lo : Nat) : Int)),
   Fx.of (.int .u64 2147483647),
   Fx.of (.int .u64 ((lo / 2147483647 : Nat) : Int)),
   Fx.of (.int .u64 ((lo : Nat) : Int)),
   Fx.of (.int .u64 2147483647),
   Fx.of (.int .u64 ((lo % 2147483647 : Nat) : Int)),
   Fx.of (.int .u64 ((lo / 2147483647 : Nat) : Int)),
   Fx.of (.int .u64 ((lo % 2147483647 : Nat) : Int))]) vu rfl trivial (fun _ h => by cases h) ?_ ?_
  · refine ⟨?_, ?_, ?_, ?_, ?_, ?_, ?_, ?_, trivial⟩
    · intro vs X wq K;exact zp rfl ⟨Below.refl _ _, Left.of rfl⟩
    · intro vs X wq K;exact zp rfl ⟨Below.refl _ _, Left.of rfl⟩
    · intro vs X wq K;obtain ⟨_, e0, k0⟩ := K.dep 0 rfl rfl rfl;refine zc 28 (.int .u64 ((lo : Nat) : Int)) rfl e0 ?_;obtain ⟨_, e1, k1⟩ := K.dep 1 rfl rfl rfl;refine zc 29 (.int .u64 2147483647) rfl e1 ?_;exact xx (z := ((lo / 2147483647 : Nat) : Int)) rfl rfl (by decide) (quo_nat (n := 2147483647) h2) ⟨Below.refl _ _, Left.of rfl⟩
    · intro vs X wq K;exact zp rfl ⟨Below.refl _ _, Left.of rfl⟩
    · intro vs X wq K;exact zp rfl ⟨Below.refl _ _, Left.of rfl⟩
    · intro vs X wq K;obtain ⟨_, e3, k3⟩ := K.dep 3 rfl rfl rfl;refine zc 31 (.int .u64 ((lo : Nat) : Int)) rfl e3 ?_;obtain ⟨_, e4, k4⟩ := K.dep 4 rfl rfl rfl;refine zc 32 (.int .u64 2147483647) rfl e4 ?_;exact gh (z := ((lo % 2147483647 : Nat) : Int)) rfl rfl (by decide) (ygq lo 2147483647) ⟨Below.refl _ _, Left.of rfl⟩
    · intro vs X wq K;obtain ⟨_, e2, k2⟩ := K.dep 2 rfl rfl rfl;refine zc 30 (.int .u64 ((lo / 2147483647 : Nat) : Int)) rfl e2 ?_;exact yw rfl ⟨Below.refl _ _, Left.of rfl⟩
    · intro vs X wq K;obtain ⟨_, e5, k5⟩ := K.dep 5 rfl rfl rfl;refine zc 33 (.int .u64 ((lo % 2147483647 : Nat) : Int)) rfl e5 ?_;exact yw rfl ⟨Below.refl _ _, Left.of rfl⟩
  intro vs w1 LE AO AL AF AA;replace E := E.drew.trans (LE.mono OY);obtain ⟨_, e6, k6⟩ := AL.2.2.2.2.2.2.1;obtain ⟨_, e7, k7⟩ := AL.2.2.2.2.2.2.2.1;refine qy (τ := [(0, _), (1, _), (2, _), (6, .int .u64 ((lo / 2147483647 : Nat) : Int)), (7, .int .u64 ((lo % 2147483647 : Nat) : Int))]) ⟨rfl, rfl, rfl, congrArg some e6, congrArg some e7, trivial⟩ ?_;clear AL AF AA LE AO OY e6 e7 k6 k7
  refine zj (zo (zh (zn (rs := [.tmp 6, .tmp 7]) (vs := [_, _]) rfl ⟨rfl, rfl, trivial⟩ ?_)));exact ⟨by rw [Nat.zero_mul, Nat.zero_add]; rfl, (LW.step E XLW).toBelow⟩
 ·
  refine zt (zj (srx (mvx rfl (za rfl (zi en90 rfl ((rr90_2 _).mono ?_))))));rintro e w2 ⟨rfl, hb⟩;refine ⟨_, rfl, ?_⟩;replace E := blx E hb
  refine za rfl (qc (z := 33) Try.underlying88 Try.underlying3 rfl (by kernel_rfl) (anx rfl (srx (mvx rfl (mvx rfl (za rfl (oq (z := 18446744065119617024) rfl rfl (by decide) (by kernel_rfl) (anx rfl (srx (mvx rfl (za rfl (ju (z := 4294967294) rfl rfl (by decide) (by kernel_rfl) (anx rfl (srx (mvx rfl (za rfl (xr (z := 0) rfl rfl (by kernel_rfl) (anx rfl (srx (mvx rfl (mvx rfl (za rfl (oq rfl rfl (by decide) (yux hi 33 (by decide)) (zq 46 (.int .u64 ((hi * 8589934592 : Nat) : Int)) rfl ((by rw [ehi] : (.int .u64 ((hi * 2 ^ 33 % 18446744073709551616 : Nat) : Int) : Value) = _)) (mvx rfl (mvx rfl (za rfl (vq (z := 31) rfl rfl (by kernel_rfl) (za rfl (ju rfl rfl (by decide) (shr_nat lo 31 (by decide)) (zq 50 (.int .u64 ((A : Nat) : Int)) rfl ((by rw [eA] : (.int .u64 ((lo / 2 ^ 31 : Nat) : Int) : Value) = _)) (za rfl (ycq rfl rfl (yjx (by omega) (by omega)) (zq 51 (.int .u64 ((U : Nat) : Int)) rfl ((by rw [eor] : (.int .u64 ((hi * 8589934592 ||| A : Nat) : Int) : Value) = _)) (avx rfl ?_)))))))))))))))))))))))))))))))))))
  refine rnx (srx (mvx rfl (mvx rfl (za rfl (oq rfl rfl (by decide) (yux lo 33 (by decide)) (zq 54 (.int .u64 ((V : Nat) : Int)) rfl ((by rw [eV] : (.int .u64 ((lo * 2 ^ 33 % 18446744073709551616 : Nat) : Int) : Value) = _)) (anx rfl (srx (mvx rfl (za rfl (ju rfl rfl (by decide) (shr_nat V 32 (by decide)) (zq 56 (.int .u64 ((V1 : Nat) : Int)) rfl ((by rw [hV1] : (.int .u64 ((V / 2 ^ 32 : Nat) : Int) : Value) = _)) (anx rfl (srx (mvx rfl (za rfl (xr rfl rfl (and_bits (n := 4294967295) (by omega) (by decide)) (zq 58 (.int .u64 ((V0 : Nat) : Int)) rfl ((by rw [show V &&& 4294967295 = V % 4294967296 from Nat.and_two_pow_sub_one_eq_mod V 32, hV0] : (.int .u64 ((V &&& 4294967295 : Nat) : Int) : Value) = _)) (anx rfl (srx (mvx rfl (mvx rfl (za rfl (xx (z := ((U / 4294967294 : Nat) : Int)) rfl rfl (by decide) (quo_nat (n := 4294967294) bU) (zq 61 (.int .u64 ((q1 : Nat) : Int)) rfl ((by rw [hq1] : (.int .u64 ((U / 4294967294 : Nat) : Int) : Value) = _)) (anx rfl (srx (mvx rfl (mvx rfl ?_)))))))))))))))))))))))))))))
  refine mvx rfl (za rfl (jf rfl rfl (wrap_u64 (by omega)) (za rfl (vq rfl rfl (wrap_u64 (by omega)) (anx rfl (zl (yh (ypv (zl (srx (mvx rfl (za rfl (jr rfl rfl (mvx rfl (zq 16 (.int .u64 ((r1 : Nat) : Int)) rfl ((by congr 1; omega : (.int .u64 (((U : Nat) : Int) - (((q1 : Nat) : Int) * 4294967294)) : Value) = _)) (zq 69 (.bool false) rfl ((by rw [decide_eq_false (by omega)] : (.bool (decide (4294967296 ≤ ((q1 : Nat) : Int))) : Value) = _)) (onx rfl (zp rfl (onx rfl (zp rfl (onx rfl (jf rfl rfl (wrap_u64 (by omega)) (onx rfl (zp rfl (onx rfl (jf rfl rfl (wrap_u64 (by omega)) (onx rfl (zp rfl (onx rfl (yp rfl rfl (wrap_u64 (by omega)) (onx rfl (vf rfl rfl (za rfl (zm rfl rfl (rnx (yd 78 (.bool false) rfl ((by rw [decide_eq_false (by omega)] : (.bool (decide (((4294967296 * ((r1 : Nat) : Int)) + ((V1 : Nat) : Int)) < (((q1 : Nat) : Int) * 0))) : Value) = _)) (zw rfl (vo (yf (yf (yx (zj (srx (mvx rfl (za rfl (jf rfl rfl (yvv U 4294967296) (mvx rfl ?_)))))))))))))))))))))))))))))))))))))))))))))))
  refine za rfl (yp rfl rfl (add_nat _ V1) (mvx rfl (mvx rfl (za rfl (jf rfl rfl (yvv q1 18446744065119617024) (za rfl (vq (z := ((W : Nat) : Int)) rfl rfl (sub_nat bW (wrap_rest (m := 4294967296) (kw hq1 hr1) hW rfl rfl)) (anx rfl (srx (mvx rfl (mvx rfl (za rfl (xx (z := ((W / 4294967294 : Nat) : Int)) rfl rfl (by decide) (quo_nat (n := 4294967294) bW) (zq 96 (.int .u64 ((q0 : Nat) : Int)) rfl ((by rw [hq0] : (.int .u64 ((W / 4294967294 : Nat) : Int) : Value) = _)) (anx rfl (srx (mvx rfl (mvx rfl (mvx rfl (za rfl (jf rfl rfl (wrap_u64 (by omega)) (za rfl (vq rfl rfl (wrap_u64 (by omega)) (anx rfl (zl (yh (ypv (zl (srx (mvx rfl (za rfl (jr rfl rfl (mvx rfl (zq 16 (.int .u64 ((r0 : Nat) : Int)) rfl ((by congr 1; omega : (.int .u64 (((W : Nat) : Int) - (((q0 : Nat) : Int) * 4294967294)) : Value) = _)) (zq 104 (.bool false) rfl ((by rw [decide_eq_false (by omega)] : (.bool (decide (4294967296 ≤ ((q0 : Nat) : Int))) : Value) = _)) (onx rfl (zp rfl (onx rfl (zp rfl ?_)))))))))))))))))))))))))))))))))))))))
  refine onx rfl (jf rfl rfl (wrap_u64 (by omega)) (onx rfl (zp rfl (onx rfl (jf rfl rfl (wrap_u64 (by omega)) (onx rfl (zp rfl (onx rfl (yp rfl rfl (wrap_u64 (by omega)) (onx rfl (vf rfl rfl (za rfl (zm rfl rfl (rnx (yd 113 (.bool false) rfl ((by rw [decide_eq_false (by omega)] : (.bool (decide (((4294967296 * ((r0 : Nat) : Int)) + ((V0 : Nat) : Int)) < (((q0 : Nat) : Int) * 0))) : Value) = _)) (zw rfl (vo (yf (yf (yx (zj (srx (mvx rfl (za rfl (jf rfl rfl (wrap_u64 (by omega)) (mvx rfl (za rfl (yp rfl rfl (wrap_u64 (by omega)) (mvx rfl (zq 124 (.int .u64 ((q1 * 4294967296 + q0 : Nat) : Int)) rfl ((by rw [Int.natCast_add, Int.natCast_mul]; rfl : (.int .u64 ((((q1 : Nat) : Int) * 4294967296) + ((q0 : Nat) : Int)) : Value) = _)) (za rfl (jf rfl rfl (yvv W 4294967296) (mvx rfl (za rfl (yp rfl rfl (add_nat _ V0) (mvx rfl (mvx rfl (za rfl (jf rfl rfl (yvv q0 18446744065119617024) (za rfl (vq (z := ((R * 8589934592 : Nat) : Int)) rfl rfl (sub_nat (Nat.lt_of_lt_of_le (Nat.mul_lt_mul_of_pos_right e2 (by decide)) (by decide)) (wrap_rest (m := 4294967296) (kw hq0 hr0) e1.symm rfl rfl)) (mvx rfl (za rfl (ju rfl rfl (by decide) (shr_nat (R * 8589934592) 33 (by decide)) (zq 134 (.int .u64 ((R : Nat) : Int)) rfl ((by rw [show R * 8589934592 / 2 ^ 33 = R from Nat.mul_div_cancel R (show 0 < 8589934592 by decide)] : (.int .u64 ((R * 8589934592 / 2 ^ 33 : Nat) : Int) : Value) = _)) (avx rfl (anx rfl (zo (zn (rs := [.tmp 6, .tmp 7]) (vs := [_, _]) rfl ⟨rfl, rfl, trivial⟩ ?_)))))))))))))))))))))))))))))))))))))))))))))))))
  exact ⟨by rw [eR, eQ]; rfl, (LW.step E XLW).toBelow⟩
theorem yox (hi lo : Nat) (h1 : hi < 18446744073709551616) (h2 : lo < 18446744073709551616) : Calls Try.prog 71 #[.int .u64 ((hi : Nat) : Int), .int .u64 ((lo : Nat) : Int), .int .u64 2147483647] w fun e w' => e = .returned (.int .u64 (((hi * 18446744073709551616 + lo) % 2147483647 : Nat) : Int)) ∧ Below w.heap.size w w' := by
 have e : (hi % 2147483647 * 18446744073709551616 + lo) % 2147483647 = (hi * 18446744073709551616 + lo) % 2147483647 := by omega
 have _ := h1;refine yb Try.func71 rfl Try.ntmps71 rfl ?_;have LW := erx (No) w;have XLW := grx (No) w;have E := erx (No) w
 refine srx (anx rfl (srx (mvx rfl (mvx rfl (za rfl (gh (z := ((hi % 2147483647 : Nat) : Int)) rfl rfl (by decide) (ygq hi 2147483647) (mvx rfl (mvx rfl (za rfl (zi en81 rfl ((div64_prime _ (hi % 2147483647) lo (Nat.mod_lt _ (by decide)) h2).mono ?_)))))))))));rintro e w1 ⟨rfl, hb⟩;refine ⟨_, rfl, ?_⟩;replace E := blx E hb
 refine mvx rfl (za rfl (zg rfl rfl (za rfl (zg rfl rfl (avx rfl (anx rfl (srx (mvx rfl (anx rfl (zo (zn (rs := [.tmp 6]) (vs := [_]) rfl ⟨rfl, trivial⟩ ?_)))))))))));exact ⟨by rw [← e]; rfl, (LW.step E XLW).toBelow⟩
end
theorem frF_parts {r : Nat} (hr : r < 9218868437227405312) (h0 : r ≠ 0) : frF r < 9218868437227405312 ∧ frF r ≠ 0 ∧ vl (frF r) = mg (nr r) * 2 ^ 1021 := by
 obtain ⟨m1, m2⟩ := mg_nr h0;obtain ⟨p1, p2⟩ := zpz (e := 1021) m1 m2;have e : frF r = 1021 * 4503599627370496 + mg (nr r) := by rw [frF_pos hr]; omega
 refine ⟨by omega, by omega, ?_⟩;rw [e, vl, p1, p2]
theorem fullQ {r : Nat} (h0 : r ≠ 0) : vl (1074 * 4503599627370496 + mg (nr r)) = mg (nr r) * 2 ^ 1074 ∧ 1074 * 4503599627370496 + mg (nr r) < 9218868437227405312 := by
 obtain ⟨m1, m2⟩ := mg_nr h0;obtain ⟨p1, p2⟩ := zpz (e := 1074) m1 m2;refine ⟨?_, by omega⟩;show mg _ * 2 ^ ex _ = _
 rewrite [p1, p2]; rfl
theorem FRes.isn {r : Nat} {w w' : World} (h : FRes none r w w') : isN r = true := by
 rcases h with ⟨h1, _⟩ | ⟨_, hn, _⟩
 · cases h1
 · exact nan_isN hn
theorem FRes.nan {z : Option Nat} {r : Nat} {w w' : World} (h : FRes z r w w') (hz : z = none) : isN r = true := by subst hz; exact h.isn
theorem bareN_num {m : Nat} (h : isN m = false) : jn m = m := by rw [jn, if_neg (by rw [h]; decide)]
section
variable (w : World)
/-! ### package real's -/
section
variable (a b : Nat) (ha : a < 18446744073709551616) (hbq : b < 18446744073709551616) (hz : isZ b = false)
include ha hbq hz
section
variable (hf : rg a < 9218868437227405312) (hn : isN b = false)
include hf hn
end
end
end
end Go.Proofs.Ytebjkmjfcijebaa

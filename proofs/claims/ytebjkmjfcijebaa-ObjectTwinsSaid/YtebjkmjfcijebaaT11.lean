/- Texts of this claim. -/
import Derived.Test.YtebjkmjfcijebaaT10
import Derived.Laws.StructEq
namespace Go.Proofs.Ytebjkmjfcijebaa
open Go.RowKit
set_option maxRecDepth 100000
def PlainV (P : Program) (t : TypeId) (v : Value) : Prop := (∃ k k' n, P.underlying t = some (.int k') ∧ v = .int k n) ∨ (∃ s, P.underlying t = some .string ∧ v = .string s)
section
variable {P : Program} {w : World}
theorem ztx {t : TypeId} {xs : Array Value} {off : Nat} {v : Value} (hx : xs[off]? = some v) (h : PlainV P t v) : (part t xs off).run P w = .ok v w := by
 rcases h with ⟨k, k', n, hu, rfl⟩ | ⟨s, hu, rfl⟩ <;> simp [part, isAgg, run_underlying hu, hx]
theorem same_plainV {t : TypeId} {v : Value} (d : Nat) (h : PlainV P t v) : (Op.equalIn (d + 1) t v v).run P w = .ok true w := by
 rcases h with ⟨k, k', n, hu, rfl⟩ | ⟨s, hu, rfl⟩
 · rw [run_equalIn_int w d t k k' n n hu, beq_self_eq_true]
 · rw [run_equalIn_string w d t s s hu, beq_self_eq_true]
theorem ydx {xs : Array Value} (d : Nat) : ∀ (fs : List Field), (∀ q ∈ fs.map (fun f => (f.type, f.offset)), ∃ v, xs[q.2]? = some v ∧ PlainV P q.1 v) → (Op.eqFields (d + 1) xs xs fs).run P w = .ok true w
 | [], _ => by simp [Op.eqFields]
 | f :: fs, h => by
  obtain ⟨v, hv, hp⟩ := h (f.type, f.offset) (by simp);have ih := ydx d fs fun q hq => h q (by simp only [List.map_cons, List.mem_cons]; exact Or.inr hq);rw [Op.eqFields];split
  · simp only [Sem.run_bind, ztx hv hp, Result.andThen_ok, same_plainV d hp, Bool.not_true, Bool.false_eq_true, if_false]
    exact ih
  · exact ih
def PlainS (P : Program) (T : TypeId) (cs : Array Value) : Prop := P.underlying T = some (.struct (P.fieldsOf T)) ∧ P.stoodInHeld T = false ∧ P.eqGuardType P.depth T = false ∧ ∀ q ∈ (P.fieldsOf T).toList.map (fun f => (f.type, f.offset)), ∃ v, cs[q.2]? = some v ∧ PlainV P q.1 v
theorem run_same {T : TypeId} {cs : Array Value} (h : PlainS P T cs) : (Op.equal T (.agg cs) (.agg cs)).run P w = .ok true w := by
 unfold Op.equal;rw [show Op.maxDepth = 9998 + 1 + 1 from rfl, run_equalIn_struct w (9998 + 1) T cs cs h.1 h.2.1];exact ydx 9998 _ h.2.2.2
variable {N : Nat} {ops : Array Oper} {Q : Exit → Act → World → Prop} {σ : Env} {ty : TypeId} {pos : String} {af : Array Edge} {dst : Option Nat} {Post : Value → World → Prop}
theorem ow_neqR {T U : TypeId} {x y : Operand} {cs : Array Value} (h : PlainS P T cs) (hx : ev σ x = some (.agg cs)) (hy : ev σ y = some (.agg cs)) (k : Post (.bool false) w) : OW P N ops Q ⟨dst, .binOp .neq T x y U, ty, pos, af, none⟩ σ w Post :=
 qp (fun ρ ha => by
  have e := run_same (w := w) h;simp only [execOp, ha hx, ha hy, eqGuard, binOp]
  simp [e, bne, go_sem, h.2.2.1]) k
end
/-! ### the structs of a function -/
theorem zjz (a b c : Int) : PlainS Try.prog 67 #[.int .i64 a, .int .i64 b, .int .i64 c] := by
 refine ⟨by kernel_rfl, by kernel_rfl, by kernel_rfl, fun q hq => ?_⟩;rw [show ((Try.prog.fieldsOf 67).toList.map (fun f => (f.type, f.offset))) = [(3, 0), (3, 1), (3, 2)] by kernel_rfl] at hq;simp only [List.mem_cons, List.not_mem_nil, or_false] at hq
 rcases hq with rfl | rfl | rfl <;> exact ⟨_, rfl, Or.inl ⟨_, _, _, Try.underlying3, rfl⟩⟩
end Go.Proofs.Ytebjkmjfcijebaa
namespace Go.Proofs.Ytebjkmjfcijebaa
open Go.RowKit
set_option maxRecDepth 100000
attribute [local irreducible] OW RS
theorem zgz (n : Nat) : qu (List.replicate n 0) = List.replicate n (.int .u64 0) := by unfold qu; rw [List.map_replicate]; rfl
structure IsList (W : List Nat) (top x n bk : Nat) : Prop where
 kind : yu x = 0
 seen : Seen W top (x / 4)
 five : yr (wat W (x / 4)) = 5
 two : yy (wat W (x / 4)) = 2
 four : yk (wat W (x / 4)) = 4
 num : wat W (x / 4 + 2) = 4 * n + 1
 most : n ≤ 20000
 blk : wat W (x / 4 + 3) = bk
 none_ : bk = 2 → n = 0
 some_ : bk ≠ 2 → yu bk = 0 ∧ Seen W top (bk / 4) ∧ yr (wat W (bk / 4)) = 11 ∧ yy (wat W (bk / 4)) = n
section
variable (w : World) (A : Option Addr) (W : List Nat) (c m top x n bk : Nat) (hM : MemA m w A W top) (hx : U64 x) (hL : IsList W top x n bk)
include hM hx hL
theorem alist_any : Calls Try.prog 28 #[xj A W c top, .int .u64 ((x : Nat) : Int)] w fun e w' => e = .returned (.tuple #[.int .i64 ((x / 4 : Nat) : Int), .int .i64 ((n : Nat) : Int), .int .i64 ((if bk = 2 then 0 else bk / 4 : Nat) : Int), .int .i64 ((n : Nat) : Int), .bool true]) ∧ Below w.heap.size w w' := by
 have hn := hL.most;have hbu : U64 bk := by rw [← hL.blk]; exact zcx hM.words.in_ _
 have e5 : yk (wat W (x / 4)) - 2 - yy (wat W (x / 4)) = 0 := by rw [hL.two, hL.four]
 have h4 := hL.four;have hlook : ∀ (z : World), Ext No w z → Calls Try.prog 27 #[xj A W c top, .int .u64 ((x : Nat) : Int)] z fun e w' => e = .returned (.tuple #[.int .i64 ((x / 4 : Nat) : Int), .agg #[.int .i64 5, .int .i64 2, .int .i64 0], .bool true]) ∧ Below z.heap.size z w' := fun z hz => by
  have := zmq z A W c m top x (hM.no hz) hx hL.kind hL.seen;rw [hL.five, e5, hL.two] at this;exact this
 refine yb Try.func28 rfl Try.ntmps28 rfl (srx (za rfl (yt rfl ?_)));rintro g1 wA B1 E1 G1;have hs1 := E1.size;refine avx rfl (avx rfl (avx rfl (avx rfl (anx rfl (srx (za rfl (zz Try.underlying24 rfl qx rfl B1 rfl (mvx rfl (za rfl (zi ycx rfl ((hlook _ E1).mono ?_)))))))))));rintro e w1 ⟨rfl, hb⟩;refine ⟨_, rfl, ?_⟩;have E2 := E1.trans (Ext.of_below hb No)
 have B12 := B1.ext (Ext.of_below hb No) (fun h => h.elim);have hs2 := (Ext.of_below hb No).size;refine mvx rfl (za rfl (zg rfl rfl (za rfl (zg rfl rfl (za rfl (zg rfl rfl (za rfl (ym xw ?_))))))));rintro g9 wB B9 E3 G9;refine avx rfl (yn (yi xe rfl rfl B9 rfl rfl rfl ?_));rintro wC B9a E4
 have hEC := ((E2.trans E3).noL w.heap.size).step E4 (fun q hq => Or.inl (show w.heap.size ≤ q by have := qd hq; omega));have h1l := B1.lt;have B13 : Blk wC g1 24 #[.slice A W.length c, .int .i64 ((top : Nat) : Int)] := (B12.ext E3 (fun h => h.elim)).ext E4 (fun h => by have := qd h; omega);have hMC := hM.low ⟨hEC, fun q hq => Nat.le_trans hM.size hq⟩
 obtain ⟨wu1, hwu1⟩ : ∃ wu1, wu1 = wC := ⟨_, rfl⟩;subst hwu1
 refine anx rfl (zl (srx (mvx rfl (za rfl (qa rfl (mvx rfl (onx rfl (zz Try.underlying67 rfl xe rfl B9a rfl (onx rfl (qb (cs := #[.int .i64 5, .int .i64 2, .int .i64 0]) pl67 xw rfl rfl (onx rfl (ow_neqR (zjz _ _ _) rfl rfl (za rfl (zm rfl rfl (rnx (zw rfl (zt (zj (srx (za rfl (zz Try.underlying24 rfl qx rfl B13 rfl (mvx rfl (za rfl (zi en29 rfl ((ztv _ A W c m top (x / 4) hMC hL.seen 0 (by omega)).mono ?_)))))))))))))))))))))))))
 rintro e w2 ⟨rfl, hb⟩;refine ⟨_, rfl, ?_⟩;have E5 := Ext.of_below hb No;refine zq 32 (.int .u64 ((4 * n + 1 : Nat) : Int)) rfl ((by rw [← hL.num] : (.int .u64 ((wat W (x / 4 + 2 + 0) : Nat) : Int) : Value) = _)) (za rfl (zi en48 rfl ((num_any _ (4 * n + 1) (by unfold U64; omega) (by rw [ziv (by omega), zoq (by omega), if_pos (by omega)]) (by omega)).mono ?_)))
 rintro e w3 ⟨rfl, hb⟩;refine ⟨_, rfl, (zq 33 (.tuple #[.int .i64 ((n : Nat) : Int), .int .i64 0]) rfl ((by rw [zoq (by omega), show (4 * n + 1) / 4 = n by omega] : (.tuple #[.int .i64 (wnum (4 * n + 1)), .int .i64 0] : Value) = _)) ?_)⟩;have E6 := E5.trans (Ext.of_below hb No);have B14 := B13.ext E6 (fun h => h.elim)
 refine mvx rfl (za rfl (zg rfl rfl (za rfl (zg rfl rfl (avx rfl (anx rfl (zl (srx (mvx rfl (za rfl (qh rfl rfl (mvx rfl (onx rfl (zp rfl (onx rfl (qo rfl rfl (za rfl (zm rfl rfl (rnx (yd 41 (.bool false) rfl ((by rw [decide_eq_false]; omega : (.bool (decide (((n : Nat) : Int) < 0)) : Value) = _)) (zw rfl (zt (zj (zl (srx (za rfl (zz Try.underlying24 rfl qx rfl B14 rfl (mvx rfl (za rfl (zi en29 rfl ((ztv _ A W c m top (x / 4) (hMC.no E6) hL.seen 1 (by omega)).mono ?_)))))))))))))))))))))))))))))))
 rintro e w4 ⟨rfl, hb⟩;refine ⟨_, rfl, (zq 44 (.int .u64 ((bk : Nat) : Int)) rfl ((by rw [← hL.blk] : (.int .u64 ((wat W (x / 4 + 2 + 1) : Nat) : Int) : Value) = _)) ?_)⟩;have E7 := E6.trans (Ext.of_below hb No);have B15 := B13.ext E7 (fun h => h.elim);refine anx rfl (srx (mvx rfl (za rfl (qh rfl rfl (rnx ?_)))));by_cases hb2 : bk = 2
 ·
  refine yd 46 (.bool false) rfl ((by rw [hb2]; rfl : (.bool (((bk : Nat) : Int) != 2) : Value) = _)) ?_;have hn0 := hL.none_ hb2
  refine zw rfl (zt (zj (srx (mvx rfl (mvx rfl (mvx rfl (mvx rfl (mvx rfl (mvx rfl (za rfl (kr rfl rfl (avx rfl (avx rfl (avx rfl (avx rfl (anx rfl (zo (ew_set 8 (.bool true) rfl ((by rw [hn0]; rfl : (.bool (decide (((n : Nat) : Int) ≤ 0)) : Value) = _)) (zn (rs := [.tmp 4, .tmp 5, .tmp 6, .tmp 7, .tmp 8]) (vs := [_, _, _, _, _]) rfl ⟨rfl, rfl, rfl, rfl, rfl, trivial⟩ ?_)))))))))))))))))))
  exact ⟨by rw [if_pos hb2, hn0]; rfl, (hEC.step E7 (fun _ h => h.elim)).below (fun _ h => h)⟩
 ·
  refine yd 46 (.bool true) rfl ((by congr 1; rw [bne_iff_ne]; omega : (.bool (((bk : Nat) : Int) != 2) : Value) = _)) ?_;obtain ⟨hk, hS, h11, htn⟩ := hL.some_ hb2;refine ye rfl (srx (za rfl (zz Try.underlying24 rfl qx rfl B15 rfl (mvx rfl (za rfl (zi ycx rfl ((zmq _ A W c m top bk (hMC.no E7) hbu hk hS).mono ?_)))))));rintro e w5 ⟨rfl, hb⟩;refine ⟨_, rfl, ?_⟩
  have E8 := E7.trans (Ext.of_below hb No);have hs8 := E8.size;have hsc := hEC.size;refine mvx rfl (za rfl (zg rfl rfl (za rfl (zg rfl rfl (za rfl (zg rfl rfl (za rfl (ym xw ?_))))))));rintro g13 wD Bd E9 Gd;refine avx rfl (yn (yi xe rfl rfl Bd rfl rfl rfl ?_));rintro wE Be E10
  have hEE := (hEC.step (E8.trans E9) (fun _ h => h.elim)).step E10 (fun q hq => Or.inl (show w.heap.size ≤ q by have := qd hq; omega));have Bf : Blk wE g13 67 #[.int .i64 11, .int .i64 ((n : Nat) : Int), .int .i64 ((yk (wat W (bk / 4)) - 2 - n : Nat) : Int)] := by
   rw [h11, htn] at Be;exact Be
  refine anx rfl (zl (srx (mvx rfl (za rfl (qa rfl (mvx rfl (onx rfl (zf Try.underlying67 rfl sz3 (by decide) rfl (onx rfl (zk Try.underlying3 rfl rfl Bf rfl (onx rfl (qh rfl rfl (za rfl (zm rfl rfl (rnx (zw rfl (zt (zj ?_))))))))))))))))));refine qt (No) Mut.none_ [] [] (gg [Fx.of (.int .i64 ((bk / 4 : Nat) : Int)),
   Fx.of (.pointer (some ⟨g13, 1, none⟩)),
   Fx.of (.int .i64 ((n : Nat) : Int)),
   Fx.of (.int .i64 ((bk / 4 : Nat) : Int)),
   Fx.of (.int .i64 ((n : Nat) : Int))]) vu rfl trivial (fun _ h => by cases h) ?_ ?_
  · refine ⟨?_, ?_, ?_, ?_, ?_, trivial⟩
    · intro vs X wq K;exact zp rfl ⟨Below.refl _ _, Left.of rfl⟩
    · intro vs X wq K;exact zf Try.underlying67 rfl sz3 (by decide) rfl ⟨Below.refl _ _, Left.of rfl⟩
    · intro vs X wq K;have LE := K.1;obtain ⟨_, e1, k1⟩ := K.dep 1 rfl rfl rfl;refine zc 62 (.pointer (some ⟨g13, 1, none⟩)) rfl e1 ?_;exact zk Try.underlying3 rfl rfl (qj LE Bf) rfl ⟨Below.refl _ _, Left.of rfl⟩
    · intro vs X wq K;obtain ⟨_, e0, k0⟩ := K.dep 0 rfl rfl rfl;refine zc 61 (.int .i64 ((bk / 4 : Nat) : Int)) rfl e0 ?_;exact yw rfl ⟨Below.refl _ _, Left.of rfl⟩
    · intro vs X wq K;obtain ⟨_, e2, k2⟩ := K.dep 2 rfl rfl rfl;refine zc 63 (.int .i64 ((n : Nat) : Int)) rfl e2 ?_;exact yw rfl ⟨Below.refl _ _, Left.of rfl⟩
  intro vs w6 LE AO AL AF AA;have hbd : Below (wE).heap.size (wE) w6 := (((Ext.refl No (wE)).drew).trans LE).toBelow;obtain ⟨_, e3, k3⟩ := AL.2.2.2.1;obtain ⟨_, e4, k4⟩ := AL.2.2.2.2.1;refine qy (τ := [(4, _), (5, _), (6, .int .i64 ((bk / 4 : Nat) : Int)), (7, .int .i64 ((n : Nat) : Int)), (8, _)]) ⟨rfl, rfl, congrArg some e3, congrArg some e4, rfl, trivial⟩ ?_;clear AL AF AA AO
  refine zj (srx (mvx rfl (mvx rfl (mvx rfl (mvx rfl (mvx rfl (mvx rfl (za rfl (kr rfl rfl (avx rfl (avx rfl (avx rfl (avx rfl (anx rfl (zo (ew_set 8 (.bool true) rfl ((by rw [decide_eq_true (Int.le_refl _)] : (.bool (decide (((n : Nat) : Int) ≤ ((n : Nat) : Int))) : Value) = _)) (zn (rs := [.tmp 4, .tmp 5, .tmp 6, .tmp 7, .tmp 8]) (vs := [_, _, _, _, _]) rfl ⟨rfl, rfl, rfl, rfl, rfl, trivial⟩ ?_)))))))))))))))))
  exact ⟨by rw [if_neg hb2]; rfl, (hEE.step (Ext.of_below hbd No) (fun _ h => h.elim)).below (fun _ h => h)⟩
end
structure HasItems (W : List Nat) (top x : Nat) (T : List Nat) : Prop where
 kind : yu x = 0
 seen : Seen W top (x / 4)
 or : (yr (wat W (x / 4)) = 6 ∧ yy (wat W (x / 4)) = T.length ∧ ∀ i v, T[i]? = some v → wat W (x / 4 + 2 + i) = v) ∨ (∃ bk, IsList W top x T.length bk ∧ ∀ i v, T[i]? = some v → wat W (bk / 4 + 2 + i) = v)
section
variable (w : World) (A : Option Addr) (W T : List Nat) (c m top x : Nat) (hM : MemA m w A W top) (hx : U64 x) (hI : HasItems W top x T)
include hM hx hI
set_option maxHeartbeats 1000000 in
theorem items_any : Calls Try.prog 12 #[xj A W c top, .int .u64 ((x : Nat) : Int)] w fun e w' => (∃ g, e = .returned (.tuple #[.slice (some ⟨g, 0, none⟩) T.length T.length, .int .i64 0]) ∧ Blk w' g 25 (qu T).toArray ∧ w.heap.size ≤ g) ∧ Below w.heap.size w w' := by
 have hWl := hM.most;have hT : ∀ v ∈ T, U64 v := fun v hv => by
  obtain ⟨i, hi⟩ := List.mem_iff_getElem?.1 hv;rcases hI.or with ⟨_, _, h⟩ | ⟨bk, _, h⟩
  · rw [← h i v hi]; exact zcx hM.words.in_ _
  · rw [← h i v hi]; exact zcx hM.words.in_ _
 refine yb Try.func12 rfl Try.ntmps12 rfl (srx (za rfl (yt rfl ?_)));rintro g1 wA B1 E1 G1;have hs1 := E1.size;refine avx rfl (anx rfl (srx (za rfl (zz Try.underlying24 rfl qx rfl B1 rfl (mvx rfl (za rfl (zi ycx rfl ((zmq _ A W c m top x (hM.no E1) hx hI.kind hI.seen).mono ?_))))))));rintro e w1 ⟨rfl, hb⟩;refine ⟨_, rfl, ?_⟩
 have E2 := E1.trans (Ext.of_below hb No);have B12 := B1.ext (Ext.of_below hb No) (fun h => h.elim);have hs2 := (Ext.of_below hb No).size;refine mvx rfl (za rfl (zg rfl rfl (za rfl (zg rfl rfl (za rfl (zg rfl rfl (za rfl (ym xw ?_))))))));rintro g7 wB B7 E3 G7;refine avx rfl (yn (yi xe rfl rfl B7 rfl rfl rfl ?_));rintro wC B7a E4
 have B7b : Blk wC g7 67 #[.int .i64 ((yr (wat W (x / 4)) : Nat) : Int), .int .i64 ((yy (wat W (x / 4)) : Nat) : Int), .int .i64 ((yk (wat W (x / 4)) - 2 - yy (wat W (x / 4)) : Nat) : Int)] := B7a;have hEC := ((E2.trans E3).noL w.heap.size).step E4 (fun q hq => Or.inl (show w.heap.size ≤ q by have := qd hq; omega));have h1l := B1.lt
 have B13 : Blk wC g1 24 #[.slice A W.length c, .int .i64 ((top : Nat) : Int)] := (B12.ext E3 (fun h => h.elim)).ext E4 (fun h => by have := qd h; omega);have hMC := hM.low ⟨hEC, fun q hq => Nat.le_trans hM.size hq⟩;obtain ⟨wu1, hwu1⟩ : ∃ wu1, wu1 = wC := ⟨_, rfl⟩;subst hwu1
 refine anx rfl (zl (srx (mvx rfl (za rfl (qa rfl (rnx (zw rfl (zt (zj (srx (za rfl (zf Try.underlying67 rfl sz3 (by decide) rfl (za rfl (zk Try.underlying3 rfl rfl B7b rfl (mvx rfl (avx rfl (anx rfl (zl (srx (za rfl (zf Try.underlying67 rfl sz3 (by decide) rfl (za rfl (zk Try.underlying3 rfl rfl B7b rfl ?_)))))))))))))))))))))))
 obtain ⟨from_, hfrom⟩ : ∃ f : Nat, f = if yr (wat W (x / 4)) = 6 then x / 4 else wat W (x / 4 + 3) / 4 := ⟨_, rfl⟩
 have hget : ∀ i v, T[i]? = some v → Seen W top from_ ∧ i + 2 < yk (wat W from_) ∧ wat W (from_ + 2 + i) = v ∧ v < 18446744073709551616 := fun i v hi => by
  have hil := (List.getElem?_eq_some_iff.1 hi).1;have hv : v < 18446744073709551616 := hT v (List.mem_of_getElem? hi);rcases hI.or with ⟨h6, ht, h⟩ | ⟨bk, hL, h⟩
  · rw [if_pos h6] at hfrom;rw [hfrom];have := hI.seen.fit;exact ⟨hI.seen, by omega, h i v hi, hv⟩
  · rw [hL.five, if_neg (by decide), hL.blk] at hfrom;rw [hfrom];by_cases hb : bk = 2
    · have := hL.none_ hb;omega
    · obtain ⟨_, hS, _, ht⟩ := hL.some_ hb;have := hS.fit;exact ⟨hS, by omega, h i v hi, hv⟩
 have hTl : T.length ≤ 1048576 := by
  rcases hI.or with ⟨h6, ht, h⟩ | ⟨bk, hL, h⟩
  · have := hI.seen.fit;have := hI.seen.room;have := hI.seen.len;omega
  · have := hL.most;omega
 refine za rfl (qh rfl rfl (rnx ?_));by_cases h6 : yr (wat W (x / 4)) = 6
 ·
  have ht : yy (wat W (x / 4)) = T.length := by
   rcases hI.or with ⟨_, ht, _⟩ | ⟨bk, hL, _⟩
   · exact ht
   · rw [hL.five] at h6; cases h6
  rw [if_pos h6] at hfrom;refine yd 27 (.bool false) rfl ((by rw [h6]; rfl : (.bool (((yr (wat W (x / 4)) : Nat) : Int) != 6) : Value) = _)) (yd 9 (.int .i64 ((T.length : Nat) : Int)) rfl ((by rw [ht] : (.int .i64 ((yy (wat W (x / 4)) : Nat) : Int) : Value) = _)) (yd 10 (.int .i64 ((from_ : Nat) : Int)) rfl ((by rw [hfrom] : (.int .i64 ((x / 4 : Nat) : Int) : Value) = _)) ?_))
  have hEZ := hEC;have B1z := B13;refine zw rfl (zt (zj (srx (mvx rfl (za rfl (zjq (n := T.length) Try.underlying22 inf25 rfl rfl rfl rfl rfl (by omega) (by omega) ?_))))));rintro gs wS Bs0 ES Gs;have hsz := hEZ.size;have Bs : Blk wS gs 25 (qu (qw T 0 0)).toArray := by
   rw [yev, zgz];exact Bs0
  have B1s := B1z.ext ES (fun h => h.elim);have hES := hEZ.step ES (fun _ h => h.elim);have hgs : w.heap.size ≤ gs := by omega
  have h1s : g1 < gs := by have := B1z.lt; omega
  refine anx rfl (zl (srx (mvx rfl (za rfl (qe Try.underlying22 rfl (mvx rfl (rnx (yh (jd (ι := Nat) (fun i => [(2, .pointer (some ⟨g1, 0, none⟩)), (10, .int .i64 ((from_ : Nat) : Int)), (11, .slice (some ⟨gs, 0, none⟩) T.length T.length), (42, .int .i64 ((T.length : Nat) : Int)), (43, .int .i64 ((i : Nat) : Int))]) (fun i w' => i ≤ T.length ∧ Blk w' gs 25 (qu (qw T 0 i)).toArray ∧ Ext (fun q => gs ≤ q) wS w') (fun i => T.length - i) 0 ⟨rfl, rfl, rfl, rfl, rfl, trivial⟩ (⟨Nat.zero_le _, Bs, Ext.refl _ _⟩) ?_)))))))))
  rintro i w3 ⟨hi0, Bi, hEi⟩;have hEiw := hES.step hEi (fun q hq => Or.inl (show w.heap.size ≤ q by have hq : gs ≤ q := hq; omega));refine srx (za rfl (qo rfl rfl (rnx (zl (yv rfl (fun hc => ?_) (fun hc => ?_))))))
  ·
   have hc := of_decide_eq_true hc;have hlt : i < T.length := by omega
   obtain ⟨v, hv⟩ : ∃ v, T[i]? = some v := ⟨_, List.getElem?_eq_getElem hlt⟩;obtain ⟨hSf, hsf, hvf, _⟩ := hget i v hv;have B1i := B1s.ext hEi (fun h => by have h : gs ≤ g1 := h; omega);have hMi := hM.low ⟨hEiw, fun q hq => Nat.le_trans hM.size hq⟩
   refine zt (zj (zl (yh (srx (mvx rfl (anx rfl (yq (mvx rfl (mvx rfl (za rfl (zz Try.underlying24 rfl qx rfl B1i rfl (mvx rfl (mvx rfl (za rfl (zi en29 rfl ((ztv _ A W c m top from_ hMi hSf i hsf).mono ?_))))))))))))))));rintro e w4 ⟨rfl, hb⟩;refine ⟨_, rfl, ?_⟩;have E9 := Ext.of_below hb No;have Bj := Bi.ext E9 (fun h => h.elim)
   refine zq 51 (.int .u64 ((v : Nat) : Int)) rfl ((by rw [hvf] : (.int .u64 ((wat W (from_ + 2 + i) : Nat) : Int) : Value) = _)) (za rfl (yc (j := i) Try.underlying22 vc rfl rfl rfl hlt (yn (ko (cs' := (qu (qw T 0 (i + 1))).toArray) vc rfl rfl Bj rfl rfl (by rw [List.size_toArray, zax, oo hi0]; omega) (by rw [Nat.zero_add, List.setIfInBounds_toArray, kg, zhx hv]) ?_))))
   rintro wT BT ET;refine qz (zx (zj (yq (za rfl (yp rfl rfl (zy (by omega)) (mvx rfl (qz ?_)))))));exact ve (i + 1) (by show T.length - (i + 1) < T.length - i; omega) ⟨rfl, rfl, rfl, rfl, rfl, trivial⟩ (⟨hlt, BT, (hEi.step E9 (fun _ h => h.elim)).step ET (fun q hq => Or.inl (show gs ≤ q by have := qd hq; omega))⟩)
  ·
   have hc := of_decide_eq_false hc;have hie : i = T.length := by omega
   rw [hie, zhz] at Bi;refine vo (yf (yf (yx (zj (srx (mvx rfl (avx rfl (anx rfl (zo (zn (rs := [.tmp 4, .tmp 5]) (vs := [_, _]) rfl ⟨rfl, rfl, trivial⟩ ?_))))))))));exact ⟨⟨gs, rfl, Bi, hgs⟩, hEiw.below (fun _ h => h)⟩
 ·
  obtain ⟨bk, hL, _⟩ : ∃ bk, IsList W top x T.length bk ∧ ∀ i v, T[i]? = some v → wat W (bk / 4 + 2 + i) = v := hI.or.resolve_left (fun h => h6 h.1);rw [if_neg h6, hL.blk] at hfrom
  refine yd 27 (.bool true) rfl ((by congr 1; rw [bne_iff_ne]; omega : (.bool (((yr (wat W (x / 4)) : Nat) : Int) != 6) : Value) = _)) (ye rfl (srx (za rfl (zz Try.underlying24 rfl qx rfl B13 rfl (mvx rfl (za rfl (zi en28 rfl ((alist_any _ A W c m top x T.length bk hMC hx hL).mono ?_))))))));rintro e w5 ⟨rfl, hb⟩;refine ⟨_, rfl, ?_⟩
  have hEZ := hEC.step (Ext.of_below hb No) (fun _ h => h.elim);have B1z := B13.ext (Ext.of_below hb No) (fun h => h.elim)
  refine mvx rfl (za rfl (zg rfl rfl (za rfl (zg rfl rfl (za rfl (zg rfl rfl (za rfl (zg rfl rfl (za rfl (zg rfl rfl (avx rfl (avx rfl (anx rfl (srx (mvx rfl (za rfl (qa rfl (rnx (zw rfl (zt (zj (srx (mvx rfl (zq 10 (.int .i64 ((from_ : Nat) : Int)) rfl ((by rw [hfrom]; split <;> simp_all : (.int .i64 ((if bk = 2 then 0 else bk / 4 : Nat) : Int) : Value) = _)) (za rfl (zjq (n := T.length) Try.underlying22 inf25 rfl rfl rfl rfl rfl (by omega) (by omega) ?_))))))))))))))))))))))))))
  rintro gs wS Bs0 ES Gs;have hsz := hEZ.size;have Bs : Blk wS gs 25 (qu (qw T 0 0)).toArray := by
   rw [yev, zgz];exact Bs0
  have B1s := B1z.ext ES (fun h => h.elim);have hES := hEZ.step ES (fun _ h => h.elim);have hgs : w.heap.size ≤ gs := by omega
  have h1s : g1 < gs := by have := B1z.lt; omega
  refine anx rfl (zl (srx (mvx rfl (za rfl (qe Try.underlying22 rfl (mvx rfl (rnx (yh (jd (ι := Nat) (fun i => [(2, .pointer (some ⟨g1, 0, none⟩)), (10, .int .i64 ((from_ : Nat) : Int)), (11, .slice (some ⟨gs, 0, none⟩) T.length T.length), (42, .int .i64 ((T.length : Nat) : Int)), (43, .int .i64 ((i : Nat) : Int))]) (fun i w' => i ≤ T.length ∧ Blk w' gs 25 (qu (qw T 0 i)).toArray ∧ Ext (fun q => gs ≤ q) wS w') (fun i => T.length - i) 0 ⟨rfl, rfl, rfl, rfl, rfl, trivial⟩ (⟨Nat.zero_le _, Bs, Ext.refl _ _⟩) ?_)))))))))
  rintro i w7 ⟨hi0, Bi, hEi⟩;have hEiw := hES.step hEi (fun q hq => Or.inl (show w.heap.size ≤ q by have hq : gs ≤ q := hq; omega));refine srx (za rfl (qo rfl rfl (rnx (zl (yv rfl (fun hc => ?_) (fun hc => ?_))))))
  ·
   have hc := of_decide_eq_true hc;have hlt : i < T.length := by omega
   obtain ⟨v, hv⟩ : ∃ v, T[i]? = some v := ⟨_, List.getElem?_eq_getElem hlt⟩;obtain ⟨hSf, hsf, hvf, _⟩ := hget i v hv;have B1i := B1s.ext hEi (fun h => by have h : gs ≤ g1 := h; omega);have hMi := hM.low ⟨hEiw, fun q hq => Nat.le_trans hM.size hq⟩
   refine zt (zj (zl (yh (srx (mvx rfl (anx rfl (yq (mvx rfl (mvx rfl (za rfl (zz Try.underlying24 rfl qx rfl B1i rfl (mvx rfl (mvx rfl (za rfl (zi en29 rfl ((ztv _ A W c m top from_ hMi hSf i hsf).mono ?_))))))))))))))));rintro e w8 ⟨rfl, hb⟩;refine ⟨_, rfl, ?_⟩;have E9 := Ext.of_below hb No;have Bj := Bi.ext E9 (fun h => h.elim)
   refine zq 51 (.int .u64 ((v : Nat) : Int)) rfl ((by rw [hvf] : (.int .u64 ((wat W (from_ + 2 + i) : Nat) : Int) : Value) = _)) (za rfl (yc (j := i) Try.underlying22 vc rfl rfl rfl hlt (yn (ko (cs' := (qu (qw T 0 (i + 1))).toArray) vc rfl rfl Bj rfl rfl (by rw [List.size_toArray, zax, oo hi0]; omega) (by rw [Nat.zero_add, List.setIfInBounds_toArray, kg, zhx hv]) ?_))))
   rintro wT BT ET;refine qz (zx (zj (yq (za rfl (yp rfl rfl (zy (by omega)) (mvx rfl (qz ?_)))))));exact ve (i + 1) (by show T.length - (i + 1) < T.length - i; omega) ⟨rfl, rfl, rfl, rfl, rfl, trivial⟩ (⟨hlt, BT, (hEi.step E9 (fun _ h => h.elim)).step ET (fun q hq => Or.inl (show gs ≤ q by have := qd hq; omega))⟩)
  ·
   have hc := of_decide_eq_false hc;have hie : i = T.length := by omega
   rw [hie, zhz] at Bi;refine vo (yf (yf (yx (zj (srx (mvx rfl (avx rfl (anx rfl (zo (zn (rs := [.tmp 4, .tmp 5]) (vs := [_, _]) rfl ⟨rfl, rfl, trivial⟩ ?_))))))))));exact ⟨⟨gs, rfl, Bi, hgs⟩, hEiw.below (fun _ h => h)⟩
end
end Go.Proofs.Ytebjkmjfcijebaa
namespace Go.Proofs.Ytebjkmjfcijebaa
open Go.RowKit
set_option maxRecDepth 100000
theorem IsList.agree {W W' : List Nat} {top top' x n bk : Nat} (h : IsList W top x n bk) (hA : ytq W W' top) (ht : top ≤ top') (hl : top' ≤ W'.length) : IsList W' top' x n bk := by
 have h1 := h.seen.room;have h2 := h.four;have h3 := h.seen.lo;have e0 : wat W' (x / 4) = wat W (x / 4) := hA _ (by omega);have e2 : wat W' (x / 4 + 2) = wat W (x / 4 + 2) := hA _ (by omega);have e3 : wat W' (x / 4 + 3) = wat W (x / 4 + 3) := hA _ (by omega)
 refine ⟨h.kind, h.seen.agree hA ht hl, by rw [e0]; exact h.five, by rw [e0]; exact h.two, by rw [e0]; exact h.four, by rw [e2]; exact h.num, h.most, by rw [e3]; exact h.blk, h.none_, fun hb => ?_⟩;obtain ⟨k1, k2, k3, k4⟩ := h.some_ hb;have k5 := k2.hi;have e : wat W' (bk / 4) = wat W (bk / 4) := hA _ (by omega);exact ⟨k1, k2.agree hA ht hl, by rw [e]; exact k3, by rw [e]; exact k4⟩
theorem HasItems.agree {W W' T : List Nat} {top top' x : Nat} (h : HasItems W top x T) (hA : ytq W W' top) (ht : top ≤ top') (hl : top' ≤ W'.length) : HasItems W' top' x T := by
 refine ⟨h.kind, h.seen.agree hA ht hl, ?_⟩;have h1 := h.seen.room;have h2 := h.seen.fit;have e0 : wat W' (x / 4) = wat W (x / 4) := hA _ (by omega);rcases h.or with ⟨h6, htg, hi⟩ | ⟨bk, hL, hi⟩
 · refine Or.inl ⟨by rw [e0]; exact h6, by rw [e0]; exact htg, fun i v hv => ?_⟩;have := (List.getElem?_eq_some_iff.1 hv).1;rw [hA _ (by omega)];exact hi i v hv
 · refine Or.inr ⟨bk, hL.agree hA ht hl, fun i v hv => ?_⟩;have h9 := (List.getElem?_eq_some_iff.1 hv).1;by_cases hb : bk = 2
   · have := hL.none_ hb; omega
   · obtain ⟨k1, k2, k3, k4⟩ := hL.some_ hb;have := k2.room;have := k2.fit;rw [hA _ (by omega)];exact hi i v hv
structure Grown2 (W : List Nat) (top : Nat) (l : List Nat) (W' : List Nat) (top' : Nat) (l' : List Nat) : Prop where
 form : FormL W' top' l'
 len : W'.length = W.length
 agree : ytq W W' top
 top : top ≤ top'
 objs : ∀ x ∈ l, x ∈ l'
theorem Grown2.refl {W l : List Nat} {top : Nat} (h : FormL W top l) : Grown2 W top l W top l := ⟨h, rfl, fun _ _ => rfl, Nat.le_refl _, fun _ h => h⟩
theorem Grown2.ok {W l W' l' : List Nat} {top top' x : Nat} (h : Grown2 W top l W' top' l') (hx : WordOk l x) : WordOk l' x := ⟨hx.1, fun h0 => h.objs _ (hx.2 h0)⟩
end Go.Proofs.Ytebjkmjfcijebaa
namespace Go.Proofs.Ytebjkmjfcijebaa
open Go.RowKit
set_option maxRecDepth 100000
attribute [local irreducible] OW RS
theorem Objs.step {W : List Nat} {top a : Nat} {r : List Nat} (h : Objs W top a r) (ha : a < top) : ∃ r', r = a :: r' ∧ Lies W top a ∧ Objs W top (a + yk (wat W a)) r' := by
 cases h with
 | nil => omega
 | cons h1 h2 => exact ⟨_, rfl, h1, h2⟩
theorem Objs.stop {W : List Nat} {top a : Nat} {r : List Nat} (h : Objs W top a r) (ha : ¬ a < top) : r = [] := by
 cases h with
 | nil => rfl
 | cons h1 h2 => have := h1.hi; omega
theorem Lies.small {W : List Nat} {top a : Nat} (h : Lies W top a) : wat W a / 2 ^ 56 = 0 := by
 have h1 : yr (wat W a) < 256 := by unfold yr; omega
 have h2 : yy (wat W a) < 16777216 := by unfold yy; omega
 have h3 : yk (wat W a) < 16777216 := by unfold yk; omega
 rw [h.head];unfold gu;omega
section
variable (w : World) (A : Option Addr) (W l : List Nat) (c n top : Nat) (hM : MemA n w A W top) (hF : FormL W top l) (hcap : W.length ≤ c)
include hM hF hcap
end
end Go.Proofs.Ytebjkmjfcijebaa
namespace Go.Proofs.Ytebjkmjfcijebaa
open Go.RowKit
set_option maxRecDepth 100000
attribute [local irreducible] OW RS
def xp (s : ByteArray) (i : Nat) : Nat := ((s.data[i]?).map (·.toNat)).getD 0
theorem byteN_some {s : ByteArray} {i : Nat} (h : i < s.size) : (s.data[i]?).map (·.toNat) = some (xp s i) := by
 have h' : i < s.data.size := h;unfold xp;rw [Array.getElem?_eq_getElem h']; rfl
theorem byteN_lt (s : ByteArray) (i : Nat) : xp s i < 256 := by
 unfold xp;cases h : s.data[i]? with
 | none => decide
 | some b => exact UInt8.toNat_lt b
def pkN (s : ByteArray) : Nat → Nat → Nat
 | 0, _ => 0
 | i + 1, j => pkN s i j + if i / 8 = j then xp s i * 2 ^ (8 * (i % 8)) else 0
theorem pkN_low (s : ByteArray) {i j : Nat} (h : i ≤ 8 * j) : pkN s i j = 0 := by
 induction i with
 | zero => rfl
 | succ i ih => rw [pkN, ih (by omega), if_neg (by omega)]
theorem pkN_lt (s : ByteArray) (j : Nat) : ∀ r, r ≤ 8 → pkN s (8 * j + r) j < 2 ^ (8 * r)
 | 0, _ => by rw [Nat.add_zero, pkN_low s (Nat.le_refl _)]; decide
 | r + 1, h => by
  have ih := pkN_lt s j r (by omega);rw [← Nat.add_assoc, pkN, if_pos (by omega), show (8 * j + r) % 8 = r by omega];have hb := byteN_lt s (8 * j + r);have e : 2 ^ (8 * (r + 1)) = 2 ^ (8 * r) * 256 := by rw [show 8 * (r + 1) = 8 * r + 8 by omega, Nat.pow_add]
  have h2 : xp s (8 * j + r) * 2 ^ (8 * r) ≤ 255 * 2 ^ (8 * r) := Nat.mul_le_mul_right _ (by omega);omega
theorem pkN_at (s : ByteArray) (i : Nat) : pkN s i (i / 8) < 2 ^ (8 * (i % 8)) := by
 have h := pkN_lt s (i / 8) (i % 8) (by omega);rwa [show 8 * (i / 8) + i % 8 = i by omega] at h
def pkL (s : ByteArray) (i m : Nat) : List Nat := s.size :: (List.range m).map (pkN s i)
def xb (s : ByteArray) : List Nat := pkL s s.size ((s.size + 7) / 8)
theorem yiz (s : ByteArray) (i m : Nat) : (pkL s i m).length = 1 + m := by unfold pkL; simp; omega
theorem packW_len (s : ByteArray) : (xb s).length = 1 + (s.size + 7) / 8 := yiz _ _ _
theorem pkL_at (s : ByteArray) {i m j : Nat} (h : j < m) : (pkL s i m)[1 + j]? = some (pkN s i j) := by
 unfold pkL;rw [Nat.add_comm, List.getElem?_cons_succ, List.getElem?_map, List.getElem?_range h]; rfl
theorem pkL_0 (s : ByteArray) (m : Nat) : pkL s 0 m = s.size :: List.replicate m 0 := by
 unfold pkL;congr 1
 apply List.ext_getElem?
 intro j;rw [List.getElem?_map, List.getElem?_replicate];by_cases h : j < m
 · rw [List.getElem?_range h, if_pos h]; rfl
 · rw [List.getElem?_eq_none (by simpa using Nat.le_of_not_lt h), if_neg h]; rfl
theorem pkL_next (s : ByteArray) {i m : Nat} (h : i / 8 < m) : (pkL s i m).set (1 + i / 8) (pkN s i (i / 8) + xp s i * 2 ^ (8 * (i % 8))) = pkL s (i + 1) m := by
 apply List.ext_getElem?
 intro j;rw [List.getElem?_set, yiz];match j with
 | 0 => rw [if_neg (by omega)]; rfl
 | j + 1 =>
  by_cases hj : j < m
  · rw [Nat.add_comm j 1, pkL_at s hj, pkL_at s hj, pkN];by_cases e : i / 8 = j
    · rw [if_pos (by omega), if_pos (by omega), if_pos e, e]
    · rw [if_neg (by omega), if_neg e, Nat.add_zero]
  · rw [if_neg (by omega), List.getElem?_eq_none (by rw [yiz]; omega), List.getElem?_eq_none (by rw [yiz]; omega)]
theorem kh {W : List Nat} {j v : Nat} (h : W[j]? = some v) : (qu W).toArray[j]? = some (.int .u64 ((v : Nat) : Int)) := by
 unfold qu;rw [List.getElem?_toArray, List.getElem?_map, h]; rfl
theorem packed_any (w : World) (s : ByteArray) (hs : s.size ≤ 20000) : Calls Try.prog 22 #[.string s] w fun e w' => (∃ g, e = .returned (.slice (some ⟨g, 0, none⟩) (xb s).length (xb s).length) ∧ Blk w' g 25 (qu (xb s)).toArray ∧ w.heap.size ≤ g) ∧ Below w.heap.size w w' := by
 obtain ⟨m, hm⟩ : ∃ m, m = (s.size + 7) / 8 := ⟨_, rfl⟩;have hpl : (xb s).length = 1 + m := by rw [hm]; exact packW_len s
 refine yb Try.func22 rfl Try.ntmps22 rfl (srx (anx rfl (srx (mvx rfl (za rfl (zyv Try.underlying9 rfl (za rfl (yp rfl rfl (zy (by omega)) (zq 7 (.int .i64 ((s.size + 7 : Nat) : Int)) rfl (by first | rfl | (congr 1; omega)) (za rfl (xx rfl rfl (by decide) (show IntKind.i64.wrap (((s.size + 7 : Nat) : Int).tdiv 8) = ((m : Nat) : Int) from by rw [Int.tdiv_eq_ediv_of_nonneg (by omega), hm]; exact zy (by omega)) (za rfl (yp rfl rfl (zy (by omega)) (zq 9 (.int .i64 ((1 + m : Nat) : Int)) rfl ((by first | rfl | (congr 1; omega) : (.int .i64 (1 + ((m : Nat) : Int)) : Value) = _)) (za rfl (zjq (n := 1 + m) Try.underlying22 inf25 rfl rfl rfl rfl rfl (by omega) (by omega) ?_))))))))))))))))
 rintro gs wB Bs E1 Gs
 refine anx rfl (srx (mvx rfl (mvx rfl (za rfl (zyv Try.underlying9 rfl (za rfl (qc Try.underlying25 Try.underlying3 rfl (wrap_u64 (by omega)) (za rfl (yc (j := 0) Try.underlying22 vc rfl rfl rfl (by omega) (yn (ko (cs' := (qu (pkL s 0 m)).toArray) vc rfl rfl Bs rfl rfl (by simp; omega) (by rw [pkL_0, Nat.add_comm 1 m, List.replicate_succ, List.setIfInBounds_toArray, List.set_cons_zero]; unfold qu; rw [List.map_cons, List.map_replicate]; rfl) ?_)))))))))))
 rintro wC B0 E2;have hEC : Ext (fun q => w.heap.size ≤ q) w wC := (E1.noL w.heap.size).step E2 (fun q hq => Or.inl (show w.heap.size ≤ q by have := qd hq; omega))
 refine rnx (zl (srx (mvx rfl (za rfl (zyv Try.underlying9 rfl (mvx rfl (rnx (yh (jd (ι := Nat) (fun i => [(0, .string s), (3, .slice (some ⟨gs, 0, none⟩) (1 + m) (1 + m)), (17, .int .i64 ((s.size : Nat) : Int)), (18, .int .i64 ((i : Nat) : Int))]) (fun i w' => i ≤ s.size ∧ Blk w' gs 25 (qu (pkL s i m)).toArray ∧ Ext (fun q => w.heap.size ≤ q) w w') (fun i => s.size - i) 0 ⟨rfl, rfl, rfl, rfl, trivial⟩ (⟨Nat.zero_le _, B0, hEC⟩) ?_)))))))))
 rintro i w2 ⟨hi0, Bi, hEi⟩;refine srx (za rfl (qo rfl rfl (rnx (zl (yv rfl (fun hc => ?_) (fun hc => ?_))))))
 ·
  have hc := of_decide_eq_true hc;have hlt : i < s.size := by omega
  have hjm : i / 8 < m := by omega
  have hbl := byteN_lt s i;have hsh : xp s i * 2 ^ (8 * (i % 8)) < 18446744073709551616 := by
   have h1 : 2 ^ (8 * (i % 8)) ≤ 2 ^ 56 := Nat.pow_le_pow_right (by decide) (by omega);have h2 : xp s i * 2 ^ (8 * (i % 8)) ≤ 255 * 2 ^ (8 * (i % 8)) := Nat.mul_le_mul_right _ (by omega);omega
  obtain ⟨r8, hr8⟩ : ∃ r8, r8 = 8 * (i % 8) := ⟨_, rfl⟩;have hr64 : r8 < 64 := by omega
  rw [← hr8] at hsh;have hor := yok (x := pkN s i (i / 8)) (y := xp s i * 2 ^ r8) (k := r8) (by rw [hr8]; exact pkN_at s i) hsh (by omega) (Nat.mul_mod_left _ _);refine zt (zj (zl (yh (srx (mvx rfl (anx rfl (zbz vu (zbv 16 rfl ?_))))))));refine zwk (No) Mut.none_ [] [] (gg [Fx.of (.slice (some ⟨gs, 0, none⟩) (1 + m) (1 + m)),
   Fx.of (.int .i64 ((i : Nat) : Int)),
   Fx.of (.int .i64 ((i / 8 : Nat) : Int)),
   Fx.of (.int .i64 ((1 + i / 8 : Nat) : Int)),
   Fx.of (.pointer (some ⟨gs, 0 + (1 + i / 8), none⟩)),
   Fx.of (.int .u64 ((pkN s i (i / 8) : Nat) : Int)),
   Fx.of (.string s),
   Fx.of (.int .i64 ((i : Nat) : Int)),
   Fx.of (.int .u8 ((xp s i : Nat) : Int)),
   Fx.of (.int .u64 ((xp s i : Nat) : Int)),
   Fx.of (.int .i64 ((i : Nat) : Int)),
   Fx.of (.int .i64 ((i % 8 : Nat) : Int)),
   Fx.of (.int .i64 ((r8 : Nat) : Int)),
   Fx.of (.int .u64 ((xp s i * 2 ^ r8 : Nat) : Int)),
   Fx.of (.int .u64 ((pkN s i (i / 8) + xp s i * 2 ^ r8 : Nat) : Int)),
   Fx.of (.pointer (some ⟨gs, 0 + (1 + i / 8), none⟩))]) rfl trivial (fun _ h => by cases h) ?_ ?_
  · refine ⟨?_, ?_, ?_, ?_, ?_, ?_, ?_, ?_, ?_, ?_, ?_, ?_, ?_, ?_, ?_, ?_, trivial⟩
    · intro vs X wq K;exact zp rfl ⟨Below.refl _ _, Left.of rfl⟩
    · intro vs X wq K;exact zp rfl ⟨Below.refl _ _, Left.of rfl⟩
    · intro vs X wq K;obtain ⟨_, e1, k1⟩ := K.dep 1 rfl rfl rfl;refine zc 22 (.int .i64 ((i : Nat) : Int)) rfl e1 ?_;exact xx rfl rfl (by decide) (show IntKind.i64.wrap (((i : Nat) : Int).tdiv 8) = ((i / 8 : Nat) : Int) from by rw [Int.tdiv_eq_ediv_of_nonneg (by omega)]; exact zy (by omega)) ⟨Below.refl _ _, Left.of rfl⟩
    · intro vs X wq K;obtain ⟨_, e2, k2⟩ := K.dep 2 rfl rfl rfl;refine zc 23 (.int .i64 ((i / 8 : Nat) : Int)) rfl e2 ?_;exact yp rfl rfl (show IntKind.i64.wrap (1 + ((i / 8 : Nat) : Int)) = ((1 + i / 8 : Nat) : Int) from by rw [zy (by omega)]; omega) ⟨Below.refl _ _, Left.of rfl⟩
    · intro vs X wq K;obtain ⟨_, e0, k0⟩ := K.dep 0 rfl rfl rfl;refine zc 21 (.slice (some ⟨gs, 0, none⟩) (1 + m) (1 + m)) rfl e0 ?_;obtain ⟨_, e3, k3⟩ := K.dep 3 rfl rfl rfl;refine zc 24 (.int .i64 ((1 + i / 8 : Nat) : Int)) rfl e3 ?_;exact yc (j := 1 + i / 8) Try.underlying22 vc rfl rfl rfl (by omega) ⟨Below.refl _ _, Left.of rfl⟩
    · intro vs X wq K;have LE := K.1;obtain ⟨_, e4, k4⟩ := K.dep 4 rfl rfl rfl;refine zc 25 (.pointer (some ⟨gs, 0 + (1 + i / 8), none⟩)) rfl e4 ?_;exact zk Try.underlying25 rfl rfl (qj LE Bi) (by rw [Nat.zero_add]; exact kh (pkL_at s hjm)) ⟨Below.refl _ _, Left.of rfl⟩
    · intro vs X wq K;exact zp rfl ⟨Below.refl _ _, Left.of rfl⟩
    · intro vs X wq K;exact zp rfl ⟨Below.refl _ _, Left.of rfl⟩
    · intro vs X wq K;obtain ⟨_, e6, k6⟩ := K.dep 6 rfl rfl rfl;refine zc 27 (.string s) rfl e6 ?_;obtain ⟨_, e7, k7⟩ := K.dep 7 rfl rfl rfl;refine zc 28 (.int .i64 ((i : Nat) : Int)) rfl e7 ?_;exact ow_indexSL (j := i) (b := xp s i) Try.underlying9 rfl rfl rfl (byteN_some hlt) ⟨Below.refl _ _, Left.of rfl⟩
    · intro vs X wq K;obtain ⟨_, e8, k8⟩ := K.dep 8 rfl rfl rfl;refine zc 29 (.int .u8 ((xp s i : Nat) : Int)) rfl e8 ?_;exact qc Try.underlying25 Try.underlying5 rfl (show IntKind.u64.wrap ((xp s i : Nat) : Int) = _ from wrap_u64 (by omega)) ⟨Below.refl _ _, Left.of rfl⟩
    · intro vs X wq K;exact zp rfl ⟨Below.refl _ _, Left.of rfl⟩
    · intro vs X wq K;obtain ⟨_, e10, k10⟩ := K.dep 10 rfl rfl rfl;refine zc 31 (.int .i64 ((i : Nat) : Int)) rfl e10 ?_;exact gh rfl rfl (by decide) (show (((i : Nat) : Int).tmod 8) = ((i % 8 : Nat) : Int) from by rw [Int.tmod_eq_emod_of_nonneg (by omega)]; rfl) ⟨Below.refl _ _, Left.of rfl⟩
    · intro vs X wq K;obtain ⟨_, e11, k11⟩ := K.dep 11 rfl rfl rfl;refine zc 32 (.int .i64 ((i % 8 : Nat) : Int)) rfl e11 ?_;exact jf rfl rfl (show IntKind.i64.wrap (8 * ((i % 8 : Nat) : Int)) = ((r8 : Nat) : Int) from by rw [hr8, zy (by omega)]; omega) ⟨Below.refl _ _, Left.of rfl⟩
    · intro vs X wq K;obtain ⟨_, e9, k9⟩ := K.dep 9 rfl rfl rfl;refine zc 30 (.int .u64 ((xp s i : Nat) : Int)) rfl e9 ?_;obtain ⟨_, e12, k12⟩ := K.dep 12 rfl rfl rfl;refine zc 33 (.int .i64 ((r8 : Nat) : Int)) rfl e12 ?_;exact oq rfl rfl (by omega) (shl_O (x := xp s i) (k := r8) hr64 hsh) ⟨Below.refl _ _, Left.of rfl⟩
    · intro vs X wq K;obtain ⟨_, e5, k5⟩ := K.dep 5 rfl rfl rfl;refine zc 26 (.int .u64 ((pkN s i (i / 8) : Nat) : Int)) rfl e5 ?_;obtain ⟨_, e13, k13⟩ := K.dep 13 rfl rfl rfl;refine zc 34 (.int .u64 ((xp s i * 2 ^ r8 : Nat) : Int)) rfl e13 ?_;exact ycq rfl rfl hor ⟨Below.refl _ _, Left.of rfl⟩
    · intro vs X wq K;obtain ⟨_, e0, k0⟩ := K.dep 0 rfl rfl rfl;refine zc 21 (.slice (some ⟨gs, 0, none⟩) (1 + m) (1 + m)) rfl e0 ?_;obtain ⟨_, e3, k3⟩ := K.dep 3 rfl rfl rfl;refine zc 24 (.int .i64 ((1 + i / 8 : Nat) : Int)) rfl e3 ?_;exact yc (j := 1 + i / 8) Try.underlying22 vc rfl rfl rfl (by omega) ⟨Below.refl _ _, Left.of rfl⟩
  intro vs w3 LE AO AL AF AA;have hbd : Below (w2).heap.size (w2) w3 := (((Ext.refl No (w2)).drew).trans LE).toBelow;obtain ⟨_, e14, k14⟩ := AL.2.2.2.2.2.2.2.2.2.2.2.2.2.2.1;obtain ⟨_, e15, k15⟩ := AL.2.2.2.2.2.2.2.2.2.2.2.2.2.2.2.1
  refine qy (τ := [(0, _), (3, _), (17, _), (18, _), (35, .int .u64 ((pkN s i (i / 8) + xp s i * 2 ^ r8 : Nat) : Int)), (36, .pointer (some ⟨gs, 0 + (1 + i / 8), none⟩))]) ⟨rfl, rfl, rfl, rfl, congrArg some e14, congrArg some e15, trivial⟩ ?_;clear AL AF AA AO;refine znq (kq (by kernel_rfl) (fun _ _ d_ _ _ h => by cases d_ <;> exact h) ?_);have hEd := Ext.of_below hbd No
  have Bd := Bi.ext hEd (fun h => h.elim);refine yn (ko (cs' := (qu (pkL s (i + 1) m)).toArray) vc rfl rfl Bd rfl rfl (by rw [List.size_toArray, zax, yiz]; omega) (by rw [hr8, Nat.zero_add, List.setIfInBounds_toArray, kg, pkL_next s hjm]) ?_);rintro wT BT ET
  refine qz (zx (zj (yq (za rfl (yp rfl rfl (zy (by omega)) (mvx rfl (qz ?_)))))));exact ve (i + 1) (by show s.size - (i + 1) < s.size - i; omega) ⟨rfl, rfl, rfl, rfl, trivial⟩ (⟨hlt, BT, (hEi.step hEd (fun _ h => h.elim)).step ET (fun q hq => Or.inl (show w.heap.size ≤ q by have := qd hq; omega))⟩)
 ·
  have hc := of_decide_eq_false hc;have hie : i = s.size := by omega
  rw [hie, hm] at Bi;refine vo (yf (yf (yx (zj (srx (mvx rfl (anx rfl (zo (zn (rs := [.tmp 2]) (vs := [_]) rfl ⟨rfl, trivial⟩ ?_)))))))));exact ⟨⟨gs, by rw [hpl]; rfl, Bi, by omega⟩, hEi.below (fun _ h => h)⟩
end Go.Proofs.Ytebjkmjfcijebaa
namespace Go.Proofs.Ytebjkmjfcijebaa
open Go.RowKit
set_option maxRecDepth 100000
attribute [local irreducible] OW RS
theorem wo18_1 : Gives 18 #[.agg #[.int .i64 4, .bool false, .bool false, .slice none 0 0, .int .u64 0, .string ⟨#[97, 98]⟩, .slice none 0 0]] (.bool true) := by
 intro w;refine yb Try.func18 rfl Try.ntmps18 rfl ?_;have HF : Per (No) w (fun _ => True) := Per.true_;have LW := erx (No) w;have XLW := grx (No) w;have E := erx (No) w;refine srx (za rfl (yt rfl ?_));intro gb1 w2 Bb1 Eb1 Gb1;have Gb1 : _ ≤ gb1 := Nat.le_trans E.size Gb1;have GLb1 := Nat.le_trans LW.size Gb1;replace E := E.trans Eb1.no;replace HF := HF.cons (yj Gb1)
 replace E := E.cons (some gb1);replace XLW := Mut.grow XLW (fun k e => Or.inr (Nat.le_trans LW.size ((yj Gb1) k e)));replace HF := HF.on E;replace LW := LW.step E XLW;have SB : ∀ q9, No q9 → Mut [(some gb1)] q9 := (Mut.skip Mut.nil_);replace HF := HF.less SB;replace XLW := fun k h => XLW k (SB k h);clear SB;replace E := erx (No) w2;replace HF := HF.and (Per.blkN Bb1 NotIn.nil)
 refine anx rfl (zl (srx (za rfl (zf Try.underlying43 rfl sz41 (by decide) rfl (za rfl (zk Try.underlying41 rfl rfl (HF.on E).here.2 rfl (za rfl (qe Try.underlying41 rfl (zq 6 (.int .i64 0) rfl (by kernel_rfl : (.int .i64 (0 : Nat) : Value) = _) (za rfl (vf rfl rfl (rnx (zw rfl (zt (zj (srx (za rfl (zf Try.underlying43 rfl vk (by decide) rfl (za rfl (zf Try.underlying40 rfl sz4 (by decide) rfl (za rfl (zk Try.underlying4 rfl rfl (HF.on E).here.2 rfl (za rfl (qa rfl (mvx rfl (onx rfl (zf Try.underlying43 rfl vk (by decide) rfl (onx rfl (zf Try.underlying40 rfl kl (by decide) rfl (onx rfl (zk Try.underlying22 rfl rfl (HF.on E).here.2 rfl (onx rfl (qe Try.underlying22 rfl (zq 16 (.int .i64 0) rfl (by kernel_rfl : (.int .i64 (0 : Nat) : Value) = _) (onx rfl (yl rfl rfl (za rfl (ya rfl rfl (anx rfl (zl (srx (za rfl (zf Try.underlying43 rfl sz3 (by decide) rfl (za rfl (zk Try.underlying3 rfl rfl (HF.on E).here.2 rfl (rnx ?_))))))))))))))))))))))))))))))))))))))))))))))
 refine yh (srx (za rfl (yl rfl rfl (anx rfl (zw rfl (srx (za rfl (yl rfl rfl (anx rfl (zw rfl (srx (za rfl (yl rfl rfl (anx rfl (zw rfl (srx (za rfl (yl rfl rfl (anx rfl (zw rfl (srx (za rfl (yl rfl rfl (anx rfl (ye rfl (srx (mvx rfl (mvx rfl ?_))))))))))))))))))))))))))))
 refine onx rfl (zf Try.underlying43 rfl sz4 (by decide) rfl (onx rfl (zk Try.underlying4 rfl rfl (HF.on E).here.2 rfl (onx rfl (qa rfl (za rfl (ya rfl rfl (mvx rfl (onx rfl (zf Try.underlying43 rfl vc (by decide) rfl (onx rfl (zk Try.underlying25 rfl rfl (HF.on E).here.2 rfl (onx rfl (yl rfl rfl (za rfl (ya rfl rfl (mvx rfl (onx rfl (zf Try.underlying43 rfl sz9 (by decide) rfl (onx rfl (zk Try.underlying9 rfl rfl (HF.on E).here.2 rfl (onx rfl (zyv Try.underlying9 rfl (onx rfl (kr rfl rfl (za rfl (ya rfl rfl (anx rfl (zo (zr (zh (zn (rs := [.tmp 2]) (vs := [.bool true]) rfl ⟨rfl, trivial⟩ ?_))))))))))))))))))))))))))))))))
 exact ⟨rfl, (LW.step E XLW).toBelow⟩
theorem pack_ab : xb ⟨#[97, 98]⟩ = [2, 25185] := by decide
theorem putab_any (lo gm gW cap top : Nat) (w : World) (W : List Nat) (hM : OwnM lo w gm gW cap W top) (hmW : gm ≠ gW) (hz : ∀ i, top ≤ i → wat W i = 0) (hf : top + 4 ≤ W.length) : Calls Try.prog 9 #[.pointer (some ⟨gm, 0, none⟩), .agg #[.int .i64 4, .bool false, .bool false, .slice none 0 0, .int .u64 0, .string ⟨#[97, 98]⟩, .slice none 0 0]] w fun e w' => e = .returned (.tuple #[.int .u64 ((4 * top : Nat) : Int), .int .i64 0]) ∧ OwnM lo w' gm gW cap (laid W top 4 [] [2, 25185]) (top + 4) ∧ Ext (Mut [some gm, some gW]) w w' := by
 have hlt := hM.lt;refine yb Try.func9 rfl Try.ntmps9 rfl (srx (za rfl (yt rfl ?_)));rintro g3 wA B3 E1 G3;refine avx rfl (anx rfl (zl (srx (za rfl (zz Try.underlying43 rfl vi rfl B3 rfl (za rfl (zi en18 rfl ((wo18_1 _).mono ?_))))))));rintro e w1 ⟨rfl, hb⟩;refine ⟨_, rfl, ?_⟩;have E2 := E1.trans (Ext.of_below hb No)
 have B4 := B3.ext (Ext.of_below hb No) (fun h => h.elim)
 refine za rfl (qa rfl (rnx (zw rfl (zt (zj (zl (srx (mvx rfl (za rfl (yiq Try.underlying38 rfl rfl (rnx (zw rfl (zt (zj (zl (srx (za rfl (zf Try.underlying43 rfl sz3 (by decide) rfl (za rfl (zk Try.underlying3 rfl rfl B4 rfl (rnx (yh (srx (za rfl (yl rfl rfl (anx rfl (zw rfl (srx (za rfl (yl rfl rfl (anx rfl (zw rfl (srx ?_)))))))))))))))))))))))))))))))))
 refine za rfl (yl rfl rfl (anx rfl (zw rfl (srx (za rfl (yl rfl rfl (anx rfl (ye rfl (srx (mvx rfl (za rfl (zf Try.underlying43 rfl sz9 (by decide) rfl (za rfl (zk Try.underlying9 rfl rfl B4 rfl (za rfl (zi en22 rfl ((packed_any _ ⟨#[97, 98]⟩ (by decide)).mono ?_)))))))))))))))));rintro e w2 ⟨⟨gs, rfl, Bs, Gs⟩, hb⟩;refine ⟨_, rfl, ?_⟩
 have E3 := E2.trans (Ext.of_below hb No);have hs2 := E2.size;have hM3 := hM.ext E3 (fun h => h) (fun h => h);rw [pack_ab] at Bs
 refine zq 47 (.slice (some ⟨gs, 0, none⟩) 2 2) rfl ((by rw [pack_ab]; rfl : (.slice (some ⟨gs, 0, none⟩) (xb ⟨#[97, 98]⟩).length (xb ⟨#[97, 98]⟩).length : Value) = _)) (za rfl (zi en20 rfl ((yik lo gm gW cap top 4 0 2 (gs + 1) _ W [] [2, 25185] none (some ⟨gs, 0, none⟩) hM3 (by omega) (Nat.zero_le _) (by decide) hmW (fun z hz => .nil _ _ _) (fun z hz => zlz z (Bs.ext hz (fun h => by rcases h with h | h | h <;> first | exact h.elim | (have := Option.some.inj h; omega))) (Nat.lt_succ_self gs) (by unfold U64; decide) (by unfold U64; decide)) (fun x hx => (by cases hx)) hz hf).mono ?_)))
 rintro e w3 ⟨rfl, hMT, hET⟩;refine ⟨_, rfl, (za rfl (zg rfl rfl (za rfl (zg rfl rfl (avx rfl (anx rfl (zo (zr (zh (zn (rs := [.tmp 4, .tmp 5]) (vs := [_, _]) rfl ⟨rfl, rfl, trivial⟩ ?_))))))))))⟩;exact ⟨rfl, hMT, (E3.mono (Y := Mut [some gm, some gW]) (fun _ h _ => h.elim)).step hET (fun q hq => Or.inl hq)⟩
theorem str_any (w : World) (s : ByteArray) : Calls Try.prog 10 #[.string s] w fun e w' => e = .returned (.agg #[.int .i64 4, .bool false, .bool false, .slice none 0 0, .int .u64 0, .string s, .slice none 0 0]) ∧ Below w.heap.size w w' := by
 refine yb Try.func10 rfl Try.ntmps10 rfl (srx (za rfl (ym og ?_)));rintro g2 wB B2 E2 G2;refine rnx (srx (mvx rfl (za rfl (qb (cs := #[.int .i64 4, .bool false, .bool false, .slice none 0 0, .int .u64 0, .string s, .slice none 0 0]) zkx og rfl rfl (yn (yi vi rfl rfl B2 rfl rfl rfl ?_))))));rintro wC B2e E4
 refine rnx (zo (zn (rs := [.cell 2 43]) (vs := [_]) rfl ⟨⟨_, rfl, qk Try.underlying43 rfl vi B2e rfl⟩, trivial⟩ ?_));exact ⟨rfl, ((E2.noL w.heap.size).step E4 (fun q hq => Or.inl (show w.heap.size ≤ q by have := qd hq; omega))).below (fun _ h => h)⟩
def K0 : List Nat := List.replicate 30 0
def K1 : List Nat := laid K0 1 4 [] [2, 25185]
def K2 : List Nat := laid K1 5 11 [21, 2] []
def K3 : List Nat := laid K2 9 5 [9, 20] []
theorem k1_len : K1.length = 30 := by decide
theorem k0_nil (i : Nat) : wat K0 i = 0 := by
 unfold wat K0;rw [List.getD_eq_getElem?_getD, List.getElem?_replicate];split <;> rfl
theorem k0_form : FormL K0 1 [] := ⟨by decide, by decide, by decide, by decide, k0_nil 0, fun i _ => k0_nil i, .nil, fun a ha => (by cases ha)⟩
theorem k1_form : FormL K1 5 [1] := k0_form.laid (top := 1) (k := 4) (tagged := []) (raw := [2, 25185]) (by decide) (by decide) (by decide) (fun w hw => (by cases hw))
theorem k_seen : Seen K3 13 5 := ⟨by decide, by decide, by decide, by decide, by decide, by decide⟩
theorem k_list : IsList K3 13 36 2 20 := ⟨by decide, ⟨by decide, by decide, by decide, by decide, by decide, by decide⟩, by decide, by decide, by decide, by decide, by decide, by decide, fun h => (by omega), fun _ => ⟨by decide, k_seen, by decide, by decide⟩⟩
theorem k_items : HasItems K3 13 36 [21, 2] := ⟨by decide, k_list.seen, Or.inr ⟨20, k_list, fun i v hi => by
 match i, hi with
 | 0, hi => cases hi; decide
 | 1, hi => cases hi; decide
 | i + 2, hi => cases hi⟩⟩
theorem ownM_new {w : World} {lo gm g n : Nat} (hb : Blk w gm 24 #[.slice (some ⟨g, 0, none⟩) n n, .int .i64 1]) (hB : Blk w g 25 (List.replicate n (Value.int .u64 0)).toArray) (hg : lo ≤ g) (h1 : 1 ≤ n) (hn : n ≤ 1048576) : OwnM lo w gm g n (List.replicate n 0) 1 :=
 ⟨by rw [List.length_replicate]; exact hb, by
  rw [List.length_replicate, zgz];exact ⟨by simp, Or.inr ⟨g, n, _, rfl, hg, hB, Nat.le_refl _, by unfold maxLen; omega, by simp, by simp⟩⟩, fun x hx => by rw [(List.mem_replicate.1 hx).2]; unfold U64; decide, Nat.le_refl _, by rw [List.length_replicate]; exact h1, by rw [List.length_replicate]; exact hn⟩
theorem known_any (w : World) : Calls Try.prog 4 #[] w fun e w' => e = .returned (.bool true) ∧ Below w.heap.size w w' := by
 refine yb Try.func4 rfl Try.ntmps4 rfl (srx (anx rfl (srx (za rfl (zi en8 rfl ((new_any _ 30 (by decide) (by decide)).mono ?_))))));rintro e w1 ⟨⟨gW, rfl, BW, GW⟩, hb⟩;refine ⟨_, rfl, ?_⟩;have E1 := Ext.of_below hb No;have hlW := BW.lt;refine mvx rfl (za rfl (zg rfl rfl (za rfl (zg rfl rfl (za rfl (ym zr24 ?_))))));rintro gm wA B1 E2 G1
 have BW2 := BW.ext E2 (fun h => h.elim);refine yn (yi qx rfl rfl B1 rfl rfl rfl ?_);rintro wB B1b E3;have hmW : gm ≠ gW := by omega
 have BW3 := BW2.ext E3 (fun h => by have := qd h; omega);have hM0 : OwnM w.heap.size wB gm gW 30 K0 1 := ownM_new B1b BW3 GW (by decide) (by decide);have hE3 : Ext (fun q => w.heap.size ≤ q) w wB := ((E1.trans E2).noL w.heap.size).step E3 (fun q hq => Or.inl (show w.heap.size ≤ q by have := qd hq; have := E1.size; omega));have hgm : w.heap.size ≤ gm := by have := E1.size; omega
 have hX : ∀ q, Mut [some gm, some gW] q → w.heap.size ≤ q := fun q hq => by rcases hq with h | h | h <;> first | exact h.elim | (have := Option.some.inj h; omega)
 refine anx rfl (srx (za rfl (zi en10 rfl ((str_any _ ⟨#[97, 98]⟩).mono ?_))));rintro e w2 ⟨rfl, hb⟩;refine ⟨_, rfl, ?_⟩;have E4 := Ext.of_below hb No;have hM1 := hM0.ext E4 (fun h => h) (fun h => h);refine za rfl (zi en9 rfl ((putab_any w.heap.size gm gW 30 1 _ K0 hM1 hmW (fun i _ => k0_nil i) (by decide)).mono ?_));rintro e w3 ⟨rfl, hM2, E5⟩
 refine ⟨_, rfl, (zq 15 (.tuple #[.int .u64 4, .int .i64 0]) rfl ((by rfl : (.tuple #[.int .u64 ((4 * 1 : Nat) : Int), .int .i64 0] : Value) = _)) ?_)⟩;have hE5 := (hE3.step E4 (fun _ h => h.elim)).step E5 (fun q hq => Or.inl (hX q hq))
 refine mvx rfl (za rfl (zg rfl rfl (za rfl (zg rfl rfl (avx rfl (anx rfl (srx (za rfl (kx (cs := #[.int .u64 ((21 : Nat) : Int), .int .u64 ((2 : Nat) : Int)]) Try.underlying22 vc zr25 (by decide) rfl (by rw [zav]; rfl) ?_)))))))));rintro gx wX Bx Ex Gx;have hM3 : OwnM w.heap.size wX gm gW 30 K1 5 := hM2.ext Ex (fun h => h) (fun h => h)
 have hXx : ∀ q, Mut [some gm, some gW] q → q ≠ gx := fun q hq => by
  have := E5.size;have h3 := E3.size;have h4 := E4.size;have := B1b.lt;rcases hq with h | h | h <;> first | exact h.elim | (have := Option.some.inj h; have := hM2.lt; omega)
 obtain ⟨wu1, hwu1⟩ : ∃ wu1, wu1 = wX := ⟨_, rfl⟩;subst hwu1
 have hList := (olist_any w.heap.size gm gW 30 5 2 (gx + 1) wu1 K1 [21, 2] (some ⟨gx, 0, none⟩) [1] hM3 k1_form hmW (fun z hz => zlz z (Bx.ext hz (fun h => hXx gx h rfl)) (Nat.lt_succ_self gx) (by unfold U64; decide) (by unfold U64; decide)) Bx.lt (fun x hx => by simp only [List.mem_cons, List.not_mem_nil, or_false] at hx; rcases hx with rfl | rfl <;> exact ⟨by decide, fun h => absurd h (by decide)⟩)).mono (R' := fun e w' => e = .returned (.tuple #[.int .u64 ((36 : Nat) : Int), .int .i64 0]) ∧ OwnM w.heap.size w' gm gW 30 K3 13 ∧ Ext (Mut [some gm, some gW]) wu1 w') (fun e w' h => by
  rcases h with ⟨er, _, _, _, hn⟩ | ⟨W1, top1, bk, rfl, _, h, _, hM, hE⟩
  · have := hn (by decide);rw [k1_len] at this;exact absurd this (by decide)
  · rcases h with ⟨h, _⟩ | ⟨_, rfl, rfl, rfl⟩
    · cases h
    · exact ⟨rfl, hM, hE⟩)
 refine za rfl (zi en11 rfl ((hList).mono ?_));rintro e w4 ⟨rfl, hM4, E6⟩;refine ⟨_, rfl, ?_⟩;have hE6 := (hE5.step Ex (fun _ h => h.elim)).step E6 (fun q hq => Or.inl (hX q hq))
 refine mvx rfl (za rfl (zg rfl rfl (za rfl (zg rfl rfl (avx rfl (anx rfl (srx (za rfl (zz Try.underlying24 rfl qx rfl hM4.mb rfl (mvx rfl (za rfl (zi en12 rfl ((items_any _ (some ⟨gW, 0, none⟩) K3 [21, 2] 30 _ 13 36 hM4.mem (by unfold U64; decide) k_items).mono ?_)))))))))))));rintro e w5 ⟨⟨gr, rfl, Br, Gr⟩, hb⟩;refine ⟨_, rfl, ?_⟩
 have E7 := Ext.of_below hb No;have hM5 := hM4.ext E7 (fun h => h) (fun h => h);have hE7 := hE6.step E7 (fun _ h => h.elim);obtain ⟨gm4, om4, hA4, _, hc4⟩ := hM5.mem.words.at (show 4 < K3.length by decide);cases hA4
 refine mvx rfl (za rfl (zg rfl rfl (za rfl (zg rfl rfl (avx rfl (anx rfl (srx (mvx rfl (za rfl (yl rfl rfl (mvx rfl (onx rfl (zp rfl (onx rfl (yl rfl rfl (za rfl (ya rfl rfl (mvx rfl (onx rfl (zf Try.underlying24 rfl kl (by decide) rfl (onx rfl (zk Try.underlying22 rfl rfl hM5.mb rfl (onx rfl (yc (j := 4) Try.underlying22 vc rfl rfl rfl (by decide) (onx rfl (qm Try.underlying25 rfl rfl hc4 (zq 39 (.int .u64 25185) rfl ((by rw [show wat K3 4 = 25185 by decide]; rfl : (.int .u64 ((wat K3 4 : Nat) : Int) : Value) = _)) (onx rfl (yl rfl rfl (za rfl (ya rfl rfl (mvx rfl (onx rfl (zp rfl (onx rfl (yl rfl rfl (za rfl (ya rfl rfl (mvx rfl (onx rfl (zp rfl (onx rfl (yl rfl rfl (za rfl (ya rfl rfl (mvx rfl (onx rfl (zp rfl (onx rfl (kx (cs := #[.int .u64 ((21 : Nat) : Int), .int .u64 ((2 : Nat) : Int)]) Try.underlying22 vc zr25 (by decide) rfl (by rw [zav]; rfl) ?_))))))))))))))))))))))))))))))))))))))))))))))))))
 rintro gy wY By Ey Gy;have hwr : WordsA wY.heap.size wY (some ⟨gr, 0, none⟩) [21, 2] := ygz (W := [21, 2]) (Br.ext Ey (fun h => h.elim)) (Br.ext Ey (fun h => h.elim)).lt (by decide) (fun x hx => by simp only [List.mem_cons, List.not_mem_nil, or_false] at hx; rcases hx with rfl | rfl <;> (unfold U64; decide))
 have hwy : WordsA wY.heap.size wY (some ⟨gy, 0, none⟩) [21, 2] := zlz wY By By.lt (by unfold U64; decide) (by unfold U64; decide);refine onx rfl (zi en13 rfl ((same_words _ (some ⟨gr, 0, none⟩) (some ⟨gy, 0, none⟩) 2 2 _ _ [21, 2] hwr hwy).mono ?_));rintro e w6 ⟨rfl, hb⟩
 refine ⟨_, rfl, (za rfl (ya rfl rfl (anx rfl (zo (zn (rs := [.tmp 0]) (vs := [_]) rfl ⟨rfl, trivial⟩ ?_)))))⟩;exact ⟨rfl, ((hE7.step Ey (fun _ h => h.elim)).step (Ext.of_below hb No) (fun _ h => h.elim)).below (fun _ h => h)⟩
end Go.Proofs.Ytebjkmjfcijebaa
namespace Go.Proofs.Ytebjkmjfcijebaa
open Go.RowKit
set_option maxRecDepth 100000
section
variable {P : Program} {w : World}
theorem ykk {xs ys : Array Value} (d : Nat) : ∀ (fs : List Field), (∀ q ∈ fs.map (fun f => (f.type, f.offset)), ∃ k k' m n, P.underlying q.1 = some (.int k') ∧ xs[q.2]? = some (.int k m) ∧ ys[q.2]? = some (.int k n)) → ∃ b, (Op.eqFields (d + 1) xs ys fs).run P w = .ok b w ∧ (b = true ↔ ∀ q ∈ (fs.filter (fun f => f.name != "_")).map (fun f => f.offset), xs[q]? = ys[q]?)
 | [], _ => ⟨true, by simp [Op.eqFields], by simp⟩
 | f :: fs, h => by
  obtain ⟨k, k', m, n, hu, hx, hy⟩ := h (f.type, f.offset) (by simp);obtain ⟨b, hr, hb⟩ := ykk d fs fun q hq => h q (by simp only [List.map_cons, List.mem_cons]; exact Or.inr hq);rw [Op.eqFields];by_cases hn : f.name = "_"
  · refine ⟨b, by rw [if_neg (fun h => h hn)]; exact hr, ?_⟩;rw [List.filter_cons_of_neg (by simp [hn])];exact hb
  · rw [if_pos hn, List.filter_cons_of_pos (by simp [hn])];simp only [Sem.run_bind, ztx hx (Or.inl ⟨k, k', m, hu, rfl⟩), ztx hy (Or.inl ⟨k, k', n, hu, rfl⟩), Result.andThen_ok, run_equalIn_int w d f.type k k' m n hu]
    by_cases he : m = n
    · refine ⟨b, by rw [he, beq_self_eq_true, Bool.not_true, if_neg (by decide)]; exact hr, ?_⟩;simp only [List.map_cons, List.mem_cons, forall_eq_or_imp]
      rw [hx, hy, he];simp [hb]
    · refine ⟨false, by rw [show (m == n) = false from beq_eq_false_iff_ne.2 he, Bool.not_false, if_pos rfl]; rfl, ?_⟩;simp only [List.map_cons, List.mem_cons, forall_eq_or_imp]
      rw [hx, hy];simp [he]
end
theorem shape_run (w : World) (a b c d e f : Int) : (Op.equal 67 (.agg #[.int .i64 a, .int .i64 b, .int .i64 c]) (.agg #[.int .i64 d, .int .i64 e, .int .i64 f])).run Try.prog w = .ok (decide (a = d ∧ b = e ∧ c = f)) w := by
 have hp := zjz 0 0 0;unfold Op.equal;rw [show Op.maxDepth = 9998 + 1 + 1 from rfl, run_equalIn_struct w (9998 + 1) 67 _ _ hp.1 hp.2.1];obtain ⟨r, h1, h2⟩ := ykk (P := Try.prog) (w := w) (xs := #[.int .i64 a, .int .i64 b, .int .i64 c]) (ys := #[.int .i64 d, .int .i64 e, .int .i64 f]) 9998 (Try.prog.fieldsOf 67).toList (by
  rw [show ((Try.prog.fieldsOf 67).toList.map (fun f => (f.type, f.offset))) = [(3, 0), (3, 1), (3, 2)] by kernel_rfl];intro q hq;simp only [List.mem_cons, List.not_mem_nil, or_false] at hq
  rcases hq with rfl | rfl | rfl <;> exact ⟨_, _, _, _, Try.underlying3, rfl, rfl⟩)
 rw [h1];congr 1
 rw [show (((Try.prog.fieldsOf 67).toList.filter (fun f => f.name != "_")).map (fun f => f.offset)) = [0, 1, 2] by kernel_rfl] at h2;rw [Bool.eq_iff_iff, h2, decide_eq_true_iff];simp
section
variable {N : Nat} {ops : Array Oper} {Q : Exit → Act → World → Prop} {σ : Env} {w : World} {ty : TypeId} {pos : String} {af : Array Edge} {dst : Option Nat} {Post : Value → World → Prop}
theorem ow_shapeE {U : TypeId} {x y : Operand} {a b c d e f : Int} (hx : ev σ x = some (.agg #[.int .i64 a, .int .i64 b, .int .i64 c])) (hy : ev σ y = some (.agg #[.int .i64 d, .int .i64 e, .int .i64 f])) (k : Post (.bool (decide (a = d ∧ b = e ∧ c = f))) w) : OW Try.prog N ops Q ⟨dst, .binOp .eql 67 x y U, ty, pos, af, none⟩ σ w Post :=
 qp (fun ρ ha => by
  have e := shape_run w a b c d e f;simp only [execOp, ha hx, ha hy, eqGuard, binOp]
  simp [e, go_sem, (zjz 0 0 0).2.2.1]) k
theorem ow_shapeN {U : TypeId} {x y : Operand} {a b c d e f : Int} (hx : ev σ x = some (.agg #[.int .i64 a, .int .i64 b, .int .i64 c])) (hy : ev σ y = some (.agg #[.int .i64 d, .int .i64 e, .int .i64 f])) (k : Post (.bool (!decide (a = d ∧ b = e ∧ c = f))) w) : OW Try.prog N ops Q ⟨dst, .binOp .neq 67 x y U, ty, pos, af, none⟩ σ w Post :=
 qp (fun ρ ha => by
  have e := shape_run w a b c d e f;simp only [execOp, ha hx, ha hy, eqGuard, binOp]
  simp [e, go_sem, (zjz 0 0 0).2.2.1]) k
theorem ow_shapeT {U : TypeId} {x y : Operand} {a b c d e f : Int} (hx : ev σ x = some (.agg #[.int .i64 a, .int .i64 b, .int .i64 c])) (hy : ev σ y = some (.agg #[.int .i64 d, .int .i64 e, .int .i64 f])) (h : a = d ∧ b = e ∧ c = f) (k : Post (.bool true) w) : OW Try.prog N ops Q ⟨dst, .binOp .eql 67 x y U, ty, pos, af, none⟩ σ w Post :=
 ow_shapeE hx hy (by rw [decide_eq_true h]; exact k)
theorem zlv {U : TypeId} {x y : Operand} {a b c d e f : Int} (hx : ev σ x = some (.agg #[.int .i64 a, .int .i64 b, .int .i64 c])) (hy : ev σ y = some (.agg #[.int .i64 d, .int .i64 e, .int .i64 f])) (h : ¬ (a = d ∧ b = e ∧ c = f)) (k : Post (.bool false) w) : OW Try.prog N ops Q ⟨dst, .binOp .eql 67 x y U, ty, pos, af, none⟩ σ w Post :=
 ow_shapeE hx hy (by rw [decide_eq_false h]; exact k)
theorem ow_sliceOne {P : Program} {T e : TypeId} {x y : Operand} {g n c m : Nat} {q : IntKind} (hd : P.underlying T = some (.slice e)) (hs : ja P e 1) (hx : ev σ x = some (.slice (some ⟨g, 0, none⟩) n c)) (hy : ev σ y = some (.int q 1)) (hn : n = m + 1) (hc : n ≤ c) (h2 : 1 < c)
 (k : Post (.slice (some ⟨g, 1, none⟩) m (c - 1)) w) : OW P N ops Q ⟨dst, .slice T x (some y) none none, ty, pos, af, none⟩ σ w Post :=
 ow_slice (l := 1) (h := n) hd hs hx ⟨q, hy⟩ rfl (by omega) hc (by
  rw [if_neg (by omega)];subst hn;exact k)
end
end Go.Proofs.Ytebjkmjfcijebaa

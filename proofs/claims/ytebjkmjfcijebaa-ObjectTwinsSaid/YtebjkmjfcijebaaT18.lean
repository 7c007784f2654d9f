/- Texts of this claim. -/
import Derived.Test.YtebjkmjfcijebaaT17
namespace Go.Proofs.Ytebjkmjfcijebaa
open Go.RowKit
set_option maxRecDepth 100000
attribute [local irreducible] OW RS
def wkC (A : Option Addr) (W : List Nat) (c top left : Nat) : Array Value := #[.slice A W.length c, .int .i64 ((top : Nat) : Int), .int .i64 ((left : Nat) : Int)]
theorem je {w : World} {g : Nat} {t : TypeId} {A : Option Addr} {W : List Nat} {c top left : Nat} (h : Blk w g t (wkC A W c top left)) : ∀ (j : Nat) (v : Value), #[Value.slice A W.length c, .int .i64 ((top : Nat) : Int)][j]? = some v → w.cell? ⟨g, 0 + j, none⟩ = some v := fun j v hj => by
 have hj2 := (Array.getElem?_eq_some_iff.1 hj).1;rw [Nat.zero_add];match j, hj2 with
 | 0, _ => exact (h.cell 0).trans hj
 | 1, _ => exact (h.cell 1).trans hj
def stE (left d : Nat) : Int := if left = 0 then 12 else if 40 < d then 11 else 0
theorem ostep_any (w : World) (gk : Nat) (A : Option Addr) (W : List Nat) (c top left d : Nat) (hk : Blk w gk 55 (wkC A W c top left)) (hl : left ≤ 20000) (hd : d ≤ 41) : Calls Try.prog 34 #[.pointer (some ⟨gk, 0, none⟩), .int .i64 ((d : Nat) : Int)] w fun e w' => e = .returned (.int .i64 (stE left d)) ∧ Blk w' gk 55 (wkC A W c top (left - 1)) ∧ Ext (Mut [some gk]) w w' := by
 have Bk : Blk w gk 55 #[.slice A W.length c, .int .i64 ((top : Nat) : Int), .int .i64 ((left : Nat) : Int)] := hk;refine yb Try.func34 rfl Try.ntmps34 rfl (srx (anx rfl (zl (srx (mvx rfl (za rfl (yo rfl (za rfl (zf Try.underlying55 rfl sz3 (by decide) rfl (za rfl (zk Try.underlying3 rfl rfl Bk rfl (za rfl (yl rfl rfl ?_)))))))))))))
 by_cases h0 : left = 0
 ·
  refine zq 9 (.bool true) rfl ((by rw [h0]; rfl : (.bool (((left : Nat) : Int) == 0) : Value) = _)) (rnx (ye rfl (srx (anx rfl (zo (zh (zn (rs := [.tmp 4]) (vs := [_]) rfl ⟨rfl, trivial⟩ ?_)))))));exact ⟨by unfold stE; rw [if_pos h0]; rfl, by rw [h0]; rw [h0] at hk; exact hk, Ext.refl _ _⟩
 ·
  refine zq 9 (.bool false) rfl ((by congr 1; rw [beq_eq_false_iff_ne]; omega : (.bool (((left : Nat) : Int) == 0) : Value) = _)) (rnx (zw rfl (zt (zj (srx (mvx rfl (za rfl (yo rfl (za rfl (zf Try.underlying55 rfl sz3 (by decide) rfl (za rfl (zk Try.underlying3 rfl rfl Bk rfl (za rfl (vq rfl rfl (zy (by omega)) (za rfl (yo rfl (za rfl (zf Try.underlying55 rfl sz3 (by decide) rfl (zq 14 (.int .i64 ((left - 1 : Nat) : Int)) rfl ((by first | rfl | (congr 1; omega) : (.int .i64 (((left : Nat) : Int) - 1) : Value) = _)) (yn (ko (cs' := #[.slice A W.length c, .int .i64 ((top : Nat) : Int), .int .i64 ((left - 1 : Nat) : Int)]) sz3 rfl rfl Bk rfl rfl (show 2 < 3 by decide) rfl ?_)))))))))))))))))))))
  rintro wT BT ET;refine rnx (zl (srx (mvx rfl (za rfl (vf rfl rfl (rnx ?_))))));by_cases h4 : 40 < d
  ·
   refine yd 18 (.bool true) rfl ((by rw [decide_eq_true]; omega : (.bool (decide (40 < ((d : Nat) : Int))) : Value) = _)) (ye rfl (srx (anx rfl (zo (zh (zn (rs := [.tmp 4]) (vs := [_]) rfl ⟨rfl, trivial⟩ ?_))))));exact ⟨by unfold stE; rw [if_neg h0, if_pos h4]; rfl, BT, ET⟩
  ·
   refine yd 18 (.bool false) rfl ((by rw [decide_eq_false]; omega : (.bool (decide (40 < ((d : Nat) : Int))) : Value) = _)) (zw rfl (zt (zj (srx (anx rfl (zo (zn (rs := [.tmp 4]) (vs := [_]) rfl ⟨rfl, trivial⟩ ?_)))))));exact ⟨by unfold stE; rw [if_neg h0, if_neg h4]; rfl, BT, ET⟩
def RetEq (gk : Nat) (A : Option Addr) (W : List Nat) (c top : Nat) (w : World) (r : (Bool × Int) × Nat) (e : Ending) (w' : World) : Prop := e = .returned (.tuple #[.bool r.1.1, .int .i64 r.1.2]) ∧ Blk w' gk 55 (wkC A W c top r.2) ∧ Ext (Mut [some gk]) w w'
def EqAt (gk m : Nat) (A : Option Addr) (W : List Nat) (c top n : Nat) : Prop := ∀ (w : World) (p q left d : Nat), d + n = 41 → U64 p → U64 q → left ≤ 20000 → MemA m w A W top → m ≤ gk → Blk w gk 55 (wkC A W c top left) → Calls Try.prog 16 #[.pointer (some ⟨gk, 0, none⟩), .int .u64 ((p : Nat) : Int), .int .u64 ((q : Nat) : Int), .int .i64 ((d : Nat) : Int)] w (RetEq gk A W c top w (eqW (qq W top) n p q left))
theorem nums_ext {X : Nat → Prop} {w w' : World} {A : Option Addr} {xs : List Nat} (h : Nums w A xs) (E : Ext X w w') (hX : ∀ q, X q → w.heap.size ≤ q) : Nums w' A xs := h.keep E.size fun p hp => E.cell hp fun hx => absurd (hX _ hx) (by omega)
theorem some_of {α : Type} {o : Option α} {d v : α} (hv : v = o.getD d) (h : o.isSome = true) : o = some v := by
 cases o with
 | none => cases h
 | some x => rw [hv]; rfl
theorem xg {W : List Nat} {top x : Nat} (hW : ∀ y ∈ W, U64 y) : ∀ y ∈ (gz W top x).getD [], U64 y := by
 unfold gz;split
 · split
   · exact zoz hW _ _
   · split
     · exact zoz hW _ _
     · exact fun y h => (by cases h)
 · exact fun y h => (by cases h)
theorem zqk {W : List Nat} {top x : Nat} (h : W.length ≤ 1048576) : ((gz W top x).getD []).length ≤ 1048576 := by
 unfold gz;split
 · split
   · show (vd W _ _).length ≤ _
     rw [zaz];exact lkT_le h
   · split
     · rename_i hL
       show (vd W _ _).length ≤ _
       rw [zaz];exact (lsN_of hL h).2.1
     · exact Nat.zero_le _
 · exact Nat.zero_le _
set_option maxHeartbeats 2000000 in
theorem oeq_step (gk m : Nat) (A : Option Addr) (W : List Nat) (c top n : Nat) (ih : ∀ k, n = k + 1 → EqAt gk m A W c top k) : EqAt gk m A W c top n := by
 intro w p q left d hdn hp hq hl2 hM hmk hk;have hW := hM.words.in_;obtain ⟨u, hu⟩ : ∃ u, u = (jp W top p).getD vNil := ⟨_, rfl⟩;obtain ⟨v, hv⟩ : ∃ v, v = (jp W top q).getD vNil := ⟨_, rfl⟩;obtain ⟨eu, heu⟩ : ∃ eu : Int, eu = if (jp W top p).isSome then 0 else 9 := ⟨_, rfl⟩
 obtain ⟨ev_, hev⟩ : ∃ ev_ : Int, ev_ = if (jp W top q).isSome then 0 else 9 := ⟨_, rfl⟩
 obtain ⟨l, hl⟩ : ∃ l, l = (gz W top p).getD [] := ⟨_, rfl⟩;obtain ⟨r, hr⟩ : ∃ r, r = (gz W top q).getD [] := ⟨_, rfl⟩;obtain ⟨e1, he1⟩ : ∃ e : Int, e = if (gz W top p).isSome then 0 else 1 := ⟨_, rfl⟩
 obtain ⟨e2, he2⟩ : ∃ e : Int, e = if (gz W top q).isSome then 0 else 1 := ⟨_, rfl⟩
 have ub := ynq (top := top) (x := p) hW;have vb := ynq (top := top) (x := q) hW;have ul := (zyz W top p).2;have vl := (zyz W top q).2;have hM1 : ∀ z, Ext (Mut [some gk]) w z → MemA m z A W top := fun z hz => hM.low ⟨hz, fun q hq => by have := qd hq; omega⟩;rw [← hu] at ub ul;rw [← hv] at vb vl
 refine yb Try.func16 rfl Try.ntmps16 rfl (srx (avx rfl (anx rfl (zl (srx (mvx rfl (mvx rfl (za rfl (zi en34 rfl ((ostep_any _ gk A W c top left d hk hl2 (by omega)).mono ?_))))))))));rintro e w1 ⟨rfl, Bk, ES⟩;refine ⟨_, rfl, ?_⟩;obtain ⟨wu1, hwu1⟩ : ∃ z, z = w1 := ⟨_, rfl⟩;refine anx rfl (srx (mvx rfl (za rfl (qh rfl rfl (rnx ?_)))));by_cases h0 : left = 0
 ·
  have hst : stE left d = 12 := if_pos h0;refine yd 30 (.bool true) rfl ((by rw [hst]; rfl : (.bool ((stE left d) != 0) : Value) = _)) (ye rfl (srx (mvx rfl (avx rfl (anx rfl (zo (zh (zn (rs := [.tmp 8, .tmp 9]) (vs := [_, _]) rfl ⟨rfl, rfl, trivial⟩ ?_))))))));exact ⟨by rw [hst, h0, eqW_0]; rfl, by rw [h0, eqW_0]; rw [h0] at Bk; exact Bk, ES⟩
 ·
  by_cases h4 : 40 < d
  ·
   have hst : stE left d = 11 := by unfold stE; rw [if_neg h0, if_pos h4]
   have hn0 : n = 0 := by omega
   refine yd 30 (.bool true) rfl ((by rw [hst]; rfl : (.bool ((stE left d) != 0) : Value) = _)) (ye rfl (srx (mvx rfl (avx rfl (anx rfl (zo (zh (zn (rs := [.tmp 8, .tmp 9]) (vs := [_, _]) rfl ⟨rfl, rfl, trivial⟩ ?_))))))));exact ⟨by rw [hst, hn0, eqW_d h0]; rfl, by rw [hn0, eqW_d h0]; exact Bk, ES⟩
  ·
   have hst : stE left d = 0 := by unfold stE; rw [if_neg h0, if_neg h4]
   obtain ⟨n, rfl⟩ : ∃ n', n = n' + 1 := ⟨n - 1, by omega⟩;have ihn := ih n rfl
   refine yd 30 (.bool false) rfl ((by rw [hst]; rfl : (.bool ((stE left d) != 0) : Value) = _)) (zw rfl (zt (zj (srx (mvx rfl (za rfl (yo rfl (za rfl (zf Try.underlying55 rfl qx (by decide) rfl (za rfl (vr (cs := #[.slice A W.length c, .int .i64 ((top : Nat) : Int)]) Try.underlying24 rfl qx rfl rfl (je @Bk) (mvx rfl (za rfl (zi en35 rfl ((otk_v _ A W c m top p (hM1 _ ES) hp u hu eu heu).mono ?_)))))))))))))))
   rintro e w2 ⟨⟨A1, c1, rfl, hx1⟩, hb⟩;refine ⟨_, rfl, ?_⟩;have E2 := Ext.of_below hb No;have B2 := Bk.ext E2 (fun h => h.elim);have hE2 := ES.step E2 (fun _ h => h.elim);obtain ⟨wu2, hwu2⟩ : ∃ z, z = w2 := ⟨_, rfl⟩;subst hwu2;have hs2 := hE2.size;refine mvx rfl (za rfl (zg rfl rfl (za rfl (zg rfl rfl (za rfl (ym og ?_))))));rintro g11 wA BA0 E3 GA
   refine yn (yi vi rfl rfl BA0 rfl rfl rfl ?_);rintro wB BA E4;have F4 : Ext (fun q => wu2.heap.size ≤ q) wu2 wB := (E3.noL wu2.heap.size).step E4 (fun q hq => Or.inl (show wu2.heap.size ≤ q by have := qd hq; omega));have hE4 := hE2.step F4 (fun q hq => Or.inr (Nat.le_trans hs2 hq));have B4 := B2.ext F4 (fun h => by have h : wu2.heap.size ≤ gk := h; have := B2.lt; omega)
   have lA := BA.lt;refine anx rfl (srx (mvx rfl (za rfl (yo rfl (za rfl (zf Try.underlying55 rfl qx (by decide) rfl (za rfl (vr (cs := #[.slice A W.length c, .int .i64 ((top : Nat) : Int)]) Try.underlying24 rfl qx rfl rfl (je @B4) (mvx rfl (za rfl (zi en35 rfl ((otk_v _ A W c m top q (hM1 _ hE4) hq v hv ev_ hev).mono ?_))))))))))))
   rintro e w3 ⟨⟨A2, c2, rfl, hx2⟩, hb⟩;refine ⟨_, rfl, ?_⟩;have E5 := Ext.of_below hb No;have B5 := B4.ext E5 (fun h => h.elim);have hE5 := hE4.step E5 (fun _ h => h.elim);have BA5 := BA.ext E5 (fun h => h.elim);obtain ⟨wu5, hwu5⟩ : ∃ z, z = w3 := ⟨_, rfl⟩;subst hwu5;have hs5 := hE5.size
   refine mvx rfl (za rfl (zg rfl rfl (za rfl (zg rfl rfl (za rfl (ym og ?_))))));rintro g13 wC BC0 E6 GC;refine yn (yi vi rfl rfl BC0 rfl rfl rfl ?_);rintro wD BC E7;have F7 : Ext (fun q => wu5.heap.size ≤ q) wu5 wD := (E6.noL wu5.heap.size).step E7 (fun q hq => Or.inl (show wu5.heap.size ≤ q by have := qd hq; omega))
   have hED := hE5.step F7 (fun q hq => Or.inr (Nat.le_trans hs5 hq));have BkD := B5.ext F7 (fun h => by have h : wu5.heap.size ≤ gk := h; have := B5.lt; omega);have BAD := BA5.ext F7 (fun h => by have h : wu5.heap.size ≤ g11 := h; have := BA5.lt; omega);have F4s := F4.size;have E5s := E5.size
   have hx1D := nums_ext hx1 ((F4.step E5 (fun _ h => h.elim)).step F7 (fun q hq => Or.inl (show wu2.heap.size ≤ q by have hq : wu5.heap.size ≤ q := hq; omega))) (fun q hq => hq);have hx2D := nums_ext hx2 F7 (fun q hq => hq);obtain ⟨wu6, hwu6⟩ : ∃ z, z = wD := ⟨_, rfl⟩;subst hwu6;refine anx rfl (zl (srx (mvx rfl (za rfl (yl rfl rfl ?_)))));by_cases su : (jp W top p).isSome = true
   ·
    have zu : eu = 0 := by rw [heu, if_pos su]
    have tu := some_of hu su;refine zq 51 (.bool true) rfl ((by rw [zu]; rfl : (.bool (eu == 0) : Value) = _)) (mvx rfl (onx rfl (zp rfl (onx rfl (yl rfl rfl ?_)))));by_cases sv : (jp W top q).isSome = true
    ·
     have zv : ev_ = 0 := by rw [hev, if_pos sv]
     have tv := some_of hv sv
     refine zq 54 (.bool true) rfl ((by rw [zv]; rfl : (.bool (ev_ == 0) : Value) = _)) (za rfl (ya rfl rfl (rnx (ye rfl (srx (za rfl (zz Try.underlying43 rfl vi rfl BAD rfl (za rfl (zz Try.underlying43 rfl vi rfl BC rfl (za rfl (zi en36 rfl ((pl_equal _ u v A1 none A2 none c1 0 c2 0 hx1D (by omega) ub hx2D (by omega) vb).mono ?_))))))))))))
     rintro e w4 ⟨rfl, hb⟩;refine ⟨_, rfl, ?_⟩;have E8 := Ext.of_below hb No;refine avx rfl (anx rfl (zo (zh (zn (rs := [.tmp 8, .tmp 9]) (vs := [_, _]) rfl ⟨rfl, rfl, trivial⟩ ?_))));exact ⟨by rw [eqW_v h0 tu tv]; rfl, by rw [eqW_v h0 tu tv]; exact BkD.ext E8 (fun h => h.elim), hED.step E8 (fun _ h => h.elim)⟩
    ·
     have hsv : ¬ ((jp W top p).isSome = true ∧ (jp W top q).isSome = true) := fun h => sv h.2;have zv : ev_ = 9 := by rw [hev, if_neg sv]
     refine zq 54 (.bool false) rfl ((by rw [zv]; rfl : (.bool (ev_ == 0) : Value) = _)) (za rfl (ya rfl rfl (rnx (zw rfl (zt (zj (zl (srx (mvx rfl (mvx rfl (za rfl (yl rfl rfl (rnx ?_)))))))))))));by_cases hpq : p = q
     ·
      refine yd 61 (.bool true) rfl ((by rw [hpq, beq_self_eq_true] : (.bool (((p : Nat) : Int) == ((q : Nat) : Int)) : Value) = _)) (ye rfl (srx (avx rfl (anx rfl (zo (zh (zn (rs := [.tmp 8, .tmp 9]) (vs := [_, _]) rfl ⟨rfl, rfl, trivial⟩ ?_)))))));exact ⟨by rw [ykz h0 hsv, if_pos hpq]; rfl, by rw [ykz h0 hsv, if_pos hpq]; exact BkD, hED⟩
     ·
      refine yd 61 (.bool false) rfl ((by congr 1; rw [beq_eq_false_iff_ne]; omega : (.bool (((p : Nat) : Int) == ((q : Nat) : Int)) : Value) = _)) (zw rfl (zt (zj (srx (mvx rfl (za rfl (yo rfl (za rfl (zf Try.underlying55 rfl qx (by decide) rfl (za rfl (vr (cs := #[.slice A W.length c, .int .i64 ((top : Nat) : Int)]) Try.underlying24 rfl qx rfl rfl (je @BkD) (mvx rfl (za rfl (zi ycx rfl ((kb _ A W c m top p (hM1 _ hED) hp).mono ?_)))))))))))))))
      rintro e w5 ⟨rfl, hb⟩;refine ⟨_, rfl, ?_⟩;have EG := Ext.of_below hb No;have BkG := BkD.ext EG (fun h => h.elim);have hEG := hED.step EG (fun _ h => h.elim);obtain ⟨wuG, hwuG⟩ : ∃ z, z = w5 := ⟨_, rfl⟩;subst hwuG;have hsG := hEG.size;refine mvx rfl (za rfl (zg rfl rfl (za rfl (zg rfl rfl (za rfl (zg rfl rfl (za rfl (ym xw ?_))))))))
      rintro g16 wH BH0 EH GH;refine avx rfl (yn (yi xe rfl rfl BH0 rfl rfl rfl ?_));rintro wI BH EI;have FI : Ext (fun q => wuG.heap.size ≤ q) wuG wI := (EH.noL wuG.heap.size).step EI (fun q hq => Or.inl (show wuG.heap.size ≤ q by have := qd hq; omega));have hEI := hEG.step FI (fun q hq => Or.inr (Nat.le_trans hsG hq))
      have BkI := BkG.ext FI (fun h => by have h : wuG.heap.size ≤ gk := h; have := BkG.lt; omega)
      refine anx rfl (srx (mvx rfl (za rfl (yo rfl (za rfl (zf Try.underlying55 rfl qx (by decide) rfl (za rfl (vr (cs := #[.slice A W.length c, .int .i64 ((top : Nat) : Int)]) Try.underlying24 rfl qx rfl rfl (je @BkI) (mvx rfl (za rfl (zi ycx rfl ((kb _ A W c m top q (hM1 _ hEI) hq).mono ?_))))))))))));rintro e w6 ⟨rfl, hb⟩
      refine ⟨_, rfl, ?_⟩;have EJ := Ext.of_below hb No;have BkJ := BkI.ext EJ (fun h => h.elim);have BHJ := BH.ext EJ (fun h => h.elim);have hEJ := hEI.step EJ (fun _ h => h.elim);obtain ⟨wuJ, hwuJ⟩ : ∃ z, z = w6 := ⟨_, rfl⟩;subst hwuJ;have hsJ := hEJ.size
      refine mvx rfl (za rfl (zg rfl rfl (za rfl (zg rfl rfl (za rfl (zg rfl rfl (za rfl (ym xw ?_))))))));rintro g19 wK BK0 EK GK;refine avx rfl (yn (yi xe rfl rfl BK0 rfl rfl rfl ?_));rintro wL BL0 EL
      have FL : Ext (fun q => wuJ.heap.size ≤ q) wuJ wL := (EK.noL wuJ.heap.size).step EL (fun q hq => Or.inl (show wuJ.heap.size ≤ q by have := qd hq; omega));have hE7 := hEJ.step FL (fun q hq => Or.inr (Nat.le_trans hsJ hq));have B7 := BkJ.ext FL (fun h => by have h : wuJ.heap.size ≤ gk := h; have := BkJ.lt; omega)
      have BP0 := BHJ.ext FL (fun h => by have h : wuJ.heap.size ≤ g16 := h; have := BHJ.lt; omega);have BP : Blk wL g16 67 #[.int .i64 ((lkK W top p : Nat) : Int), .int .i64 ((lkT W top p : Nat) : Int), .int .i64 ((lkR W top p : Nat) : Int)] := BP0
      have BQ : Blk wL g19 67 #[.int .i64 ((lkK W top q : Nat) : Int), .int .i64 ((lkT W top q : Nat) : Int), .int .i64 ((lkR W top q : Nat) : Int)] := BL0;obtain ⟨wu7, hwu7⟩ : ∃ z, z = wL := ⟨_, rfl⟩;subst hwu7;have hM7 : ∀ z, Ext (fun q => wu7.heap.size ≤ q) wu7 z → MemA m z A W top := fun z hz => hM1 z (hE7.step hz (fun q hq => Or.inr (Nat.le_trans hE7.size hq)))
      refine anx rfl (zl (srx (za rfl (zf Try.underlying67 rfl sz3 (by decide) rfl (za rfl (zk Try.underlying3 rfl rfl BP rfl (za rfl (zf Try.underlying67 rfl sz3 (by decide) rfl (za rfl (zk Try.underlying3 rfl rfl BQ rfl (za rfl (qh rfl rfl ?_))))))))))));by_cases hK : lkK W top p = lkK W top q
      ·
       refine zq 86 (.bool false) rfl ((by rw [hK, bne_self_eq_false] : (.bool (((lkK W top p : Nat) : Int) != ((lkK W top q : Nat) : Int)) : Value) = _)) (mvx rfl (onx rfl (zf Try.underlying67 rfl sz3 (by decide) rfl (onx rfl (zk Try.underlying3 rfl rfl BP rfl (onx rfl (qh rfl rfl ?_)))))));by_cases k6 : lkK W top p = 6
       ·
        refine zq 90 (.bool false) rfl ((by rw [k6]; rfl : (.bool (((lkK W top p : Nat) : Int) != 6) : Value) = _)) ?_;have hitem := eqW_i (o := qq W top) (n := n) h0 hsv hpq (show ¬ (lkK W top p ≠ lkK W top q ∨ (lkK W top p ≠ 6 ∧ lkK W top p ≠ 5)) by omega) hl hr he1 he2
        refine onx rfl (zp rfl (za rfl (zd rfl (za rfl (zd rfl (za rfl (zd rfl (onx rfl (zm rfl rfl (za rfl (zm rfl rfl (rnx (zw rfl (zt (zj (srx (mvx rfl (za rfl (yo rfl (za rfl (zf Try.underlying55 rfl qx (by decide) rfl (za rfl (vr (cs := #[.slice A W.length c, .int .i64 ((top : Nat) : Int)]) Try.underlying24 rfl qx rfl rfl (je @B7) (mvx rfl (za rfl (zi en12 rfl ((ztk _ A W c m top p (hM7 _ (Ext.refl _ _)) hp l hl e1 he1).mono ?_)))))))))))))))))))))))))))
        rintro e w7 ⟨⟨C1, d1, rfl, hC1⟩, hb⟩;refine ⟨_, rfl, ?_⟩;have E8 := Ext.of_below hb No;have B8 := B7.ext E8 (fun h => h.elim);obtain ⟨wu8, hwu8⟩ : ∃ z, z = w7 := ⟨_, rfl⟩;subst hwu8
        refine mvx rfl (za rfl (zg rfl rfl (za rfl (zg rfl rfl (avx rfl (anx rfl (srx (mvx rfl (za rfl (yo rfl (za rfl (zf Try.underlying55 rfl qx (by decide) rfl (za rfl (vr (cs := #[.slice A W.length c, .int .i64 ((top : Nat) : Int)]) Try.underlying24 rfl qx rfl rfl (je @B8) (mvx rfl (za rfl (zi en12 rfl ((ztk _ A W c m top q (hM7 _ (E8.noL wu7.heap.size)) hq r hr e2 he2).mono ?_))))))))))))))))))
        rintro e w8 ⟨⟨C2, d2, rfl, hC2⟩, hb⟩;refine ⟨_, rfl, ?_⟩;have E9 := Ext.of_below hb No;have B9 := B8.ext E9 (fun h => h.elim);obtain ⟨wu9, hwu9⟩ : ∃ z, z = w8 := ⟨_, rfl⟩;subst hwu9;have hE9 := (hE7.step E8 (fun _ h => h.elim)).step E9 (fun _ h => h.elim)
        refine mvx rfl (za rfl (zg rfl rfl (za rfl (zg rfl rfl (avx rfl (anx rfl (zl (srx (mvx rfl (za rfl (qh rfl rfl ?_)))))))))));by_cases z1 : e1 = 0
        ·
         refine zq 116 (.bool false) rfl ((by rw [z1]; rfl : (.bool (e1 != 0) : Value) = _)) (mvx rfl (onx rfl (zp rfl (onx rfl (qh rfl rfl ?_)))));by_cases z2 : e2 = 0
         ·
          refine zq 119 (.bool false) rfl ((by rw [z2]; rfl : (.bool (e2 != 0) : Value) = _)) (za rfl (zm rfl rfl (mvx rfl (onx rfl (zp rfl (onx rfl (qe Try.underlying22 rfl (onx rfl (zp rfl (onx rfl (qe Try.underlying22 rfl (onx rfl (qh rfl rfl ?_)))))))))))));by_cases z3 : l.length = r.length
          ·
           refine zq 126 (.bool false) rfl ((by rw [z3, bne_self_eq_false] : (.bool (((l.length : Nat) : Int) != ((r.length : Nat) : Int)) : Value) = _)) ?_;obtain ⟨gl, rfl, Bl0, Gl⟩ := hC1 z1;obtain ⟨gr, rfl, Br, Gr⟩ := hC2 z2;have Bl := Bl0.ext E9 (fun h => h.elim);have hlu : ∀ y ∈ l, U64 y := by rw [hl]; exact xg hW
           have hru : ∀ y ∈ r, U64 y := by rw [hr]; exact xg hW
           have hs8 := E8.size;have hglk : gk < gl := by have := B7.lt; omega
           have hgrk : gk < gr := by have := B8.lt; omega
           have hll : l.length ≤ 1048576 := by rw [hl]; exact zqk hM.most
           have hres : eqW (qq W top) (n + 1) p q left = eqL (eqW (qq W top) n) l r (left - 1) := by
            rw [hitem, if_neg (fun h => by rcases h with h | h | h <;> contradiction)]
           refine za rfl (zm rfl rfl (rnx (zw rfl (zt (zj (zl (srx (mvx rfl (za rfl (qe Try.underlying22 rfl (mvx rfl (rnx (yh (jd (ι := Nat × Nat) (fun (i, f) => [(0, .pointer (some ⟨gk, 0, none⟩)), (3, .int .i64 ((d : Nat) : Int)), (21, .slice (some ⟨gl, 0, none⟩) l.length d1), (22, .slice (some ⟨gr, 0, none⟩) r.length d2), (129, .int .i64 ((l.length : Nat) : Int)), (130, .int .i64 ((i : Nat) : Int))]) (fun (i, f) w' => i ≤ l.length ∧ f ≤ 20000 ∧ Blk w' gk 55 (wkC A W c top f) ∧ Ext (Mut [some gk]) wu9 w' ∧ eqL (eqW (qq W top) n) l r (left - 1) = eqL (eqW (qq W top) n) (l.drop i) (r.drop i) f) (fun (i, _) => l.length - i) (0, left - 1) ⟨rfl, rfl, rfl, rfl, rfl, rfl, trivial⟩ (⟨Nat.zero_le _, by omega, B9, Ext.refl _ _, rfl⟩) ?_))))))))))))))
           rintro ⟨i, f⟩ w10 ⟨hi0, hf2, Bi, hEi, hsum⟩;refine srx (za rfl (qo rfl rfl (rnx (zl (yv rfl (fun hc => ?_) (fun hc => ?_))))))
           ·
            have hc := of_decide_eq_true hc;have hlt : i < l.length := by omega
            have hli : l[i]? = some (wat l i) := kz hlt;have hri : r[i]? = some (wat r i) := kz (by omega);have Bli := Bl.ext hEi (fun h => by have := qd h; omega);have Bri := Br.ext hEi (fun h => by have := qd h; omega);refine zt (zj (zl (yh (srx (mvx rfl (anx rfl (zl (zbz vu (zbv 11 rfl ?_)))))))))
            refine zwk (No) Mut.none_ [] [] (gg [Fx.of (.pointer (some ⟨gk, 0, none⟩)),
             Fx.of (.slice (some ⟨gl, 0, none⟩) l.length d1),
             Fx.of (.int .i64 ((i : Nat) : Int)),
             Fx.of (.pointer (some ⟨gl, 0 + i, none⟩)),
             Fx.of (.int .u64 ((wat l i : Nat) : Int)),
             Fx.of (.slice (some ⟨gr, 0, none⟩) r.length d2),
             Fx.of (.int .i64 ((i : Nat) : Int)),
             Fx.of (.pointer (some ⟨gr, 0 + i, none⟩)),
             Fx.of (.int .u64 ((wat r i : Nat) : Int)),
             Fx.of (.int .i64 ((d : Nat) : Int)),
             Fx.of (.int .i64 ((d + 1 : Nat) : Int))]) rfl trivial (fun _ h => by cases h) ?_ ?_
            · refine ⟨?_, ?_, ?_, ?_, ?_, ?_, ?_, ?_, ?_, ?_, ?_, trivial⟩
              · intro vs X wq K;exact zp rfl ⟨Below.refl _ _, Left.of rfl⟩
              · intro vs X wq K;exact zp rfl ⟨Below.refl _ _, Left.of rfl⟩
              · intro vs X wq K;exact zp rfl ⟨Below.refl _ _, Left.of rfl⟩
              · intro vs X wq K;obtain ⟨_, e1, k1⟩ := K.dep 1 rfl rfl rfl;refine zc 135 (.slice (some ⟨gl, 0, none⟩) l.length d1) rfl e1 ?_;obtain ⟨_, e2, k2⟩ := K.dep 2 rfl rfl rfl;refine zc 136 (.int .i64 ((i : Nat) : Int)) rfl e2 ?_;exact yc (j := i) Try.underlying22 vc rfl rfl rfl hlt ⟨Below.refl _ _, Left.of rfl⟩
              · intro vs X wq K;have LE := K.1;obtain ⟨_, e3, k3⟩ := K.dep 3 rfl rfl rfl;refine zc 137 (.pointer (some ⟨gl, 0 + i, none⟩)) rfl e3 ?_;exact zk Try.underlying25 rfl rfl (qj LE Bli) (by rw [Nat.zero_add]; exact kh hli) ⟨Below.refl _ _, Left.of rfl⟩
              · intro vs X wq K;exact zp rfl ⟨Below.refl _ _, Left.of rfl⟩
              · intro vs X wq K;exact zp rfl ⟨Below.refl _ _, Left.of rfl⟩
              · intro vs X wq K;obtain ⟨_, e5, k5⟩ := K.dep 5 rfl rfl rfl;refine zc 139 (.slice (some ⟨gr, 0, none⟩) r.length d2) rfl e5 ?_;obtain ⟨_, e6, k6⟩ := K.dep 6 rfl rfl rfl;refine zc 140 (.int .i64 ((i : Nat) : Int)) rfl e6 ?_;exact yc (j := i) Try.underlying22 vc rfl rfl rfl (by omega) ⟨Below.refl _ _, Left.of rfl⟩
              · intro vs X wq K;have LE := K.1;obtain ⟨_, e7, k7⟩ := K.dep 7 rfl rfl rfl;refine zc 141 (.pointer (some ⟨gr, 0 + i, none⟩)) rfl e7 ?_;exact zk Try.underlying25 rfl rfl (qj LE Bri) (by rw [Nat.zero_add]; exact kh hri) ⟨Below.refl _ _, Left.of rfl⟩
              · intro vs X wq K;exact zp rfl ⟨Below.refl _ _, Left.of rfl⟩
              · intro vs X wq K;obtain ⟨_, e9, k9⟩ := K.dep 9 rfl rfl rfl;refine zc 143 (.int .i64 ((d : Nat) : Int)) rfl e9 ?_;exact yp rfl rfl (zy (by omega)) ⟨Below.refl _ _, Left.of ((by first | rfl | (congr 1; omega) : (.int .i64 (((d : Nat) : Int) + 1) : Value) = _))⟩
            intro vs w11 LE AO AL AF AA;have hbd : Below (w10).heap.size (w10) w11 := (((Ext.refl No (w10)).drew).trans LE).toBelow;obtain ⟨_, e0, k0⟩ := AL.1;obtain ⟨_, e4, k4⟩ := AL.2.2.2.2.1;obtain ⟨_, e8, k8⟩ := AL.2.2.2.2.2.2.2.2.1;obtain ⟨_, e10, k10⟩ := AL.2.2.2.2.2.2.2.2.2.2.1
            refine qy (τ := [(0, _), (3, _), (21, _), (22, _), (129, _), (130, _), (134, .pointer (some ⟨gk, 0, none⟩)), (138, .int .u64 ((wat l i : Nat) : Int)), (142, .int .u64 ((wat r i : Nat) : Int)), (144, .int .i64 ((d + 1 : Nat) : Int))]) ⟨rfl, rfl, rfl, rfl, rfl, rfl, congrArg some e0, congrArg some e4, congrArg some e8, congrArg some e10, trivial⟩ ?_;clear AL AF AA AO
            refine znq (kq (by kernel_rfl) (fun _ _ d_ _ _ h => by cases d_ <;> exact h) ?_);have EX := Ext.of_below hbd No;have hEx := hEi.step EX (fun _ h => h.elim);have BiX := Bi.ext EX (fun h => h.elim);obtain ⟨z, hz⟩ : ∃ z, z = eqW (qq W top) n (wat l i) (wat r i) f := ⟨_, rfl⟩;have hzl : z.2 ≤ f := by rw [hz]; exact eqW_le _ _ _ _
            have hst2 := ykq (f := eqW (qq W top) n) (k := f) hli hri;rw [← hz] at hst2;refine za rfl (zi en16 rfl ((ihn _ (wat l i) (wat r i) f (d + 1) (by omega) (hlu _ (List.mem_of_getElem? hli)) (hru _ (List.mem_of_getElem? hri)) hf2 (hM1 _ (hE9.step hEx (fun _ h => Or.inl h))) hmk BiX).mono ?_));rintro e w12 ⟨rfl, BR, ER⟩;refine ⟨_, rfl, ?_⟩;rw [← hz] at BR
            have hER := hEx.step ER (fun _ h => Or.inl h);refine mvx rfl (za rfl (zg rfl rfl (za rfl (zg rfl rfl (avx rfl (anx rfl (srx (mvx rfl (za rfl (qa rfl (mvx rfl (zq 25 (.int .i64 z.1.2) rfl ((by rw [hz] : (.int .i64 (eqW (qq W top) n (wat l i) (wat r i) f).1.2 : Value) = _)) ?_))))))))))));by_cases zb : z.1.1 = true
            ·
             refine zq 150 (.bool false) rfl ((by rw [← hz, zb]; rfl : (.bool (!(eqW (qq W top) n (wat l i) (wat r i) f).1.1) : Value) = _)) (onx rfl (zp rfl (onx rfl (qh rfl rfl ?_))));by_cases ze : z.1.2 = 0
             ·
              refine zq 152 (.bool false) rfl ((by rw [ze]; rfl : (.bool (z.1.2 != 0) : Value) = _)) ?_;rw [if_pos ⟨zb, ze⟩] at hst2;refine za rfl (zm rfl rfl (rnx (zw rfl (zt (zx (zj (yq (za rfl (yp rfl rfl (zy (by omega)) (mvx rfl (qz ?_)))))))))))
              exact ve (i + 1, z.2) (by show l.length - (i + 1) < l.length - i; omega) ⟨rfl, rfl, rfl, rfl, rfl, rfl, trivial⟩ (⟨hlt, by omega, BR, hER, hsum.trans hst2⟩)
             ·
              refine zq 152 (.bool true) rfl ((by congr 1; rw [bne_iff_ne]; exact ze : (.bool (z.1.2 != 0) : Value) = _)) ?_;rw [if_neg (fun h => ze h.2)] at hst2
              refine za rfl (zm rfl rfl (rnx (ye rfl (srx (mvx rfl (avx rfl (anx rfl (zo (zr (zh (zh (zr (zh (zn (rs := [.tmp 8, .tmp 9]) (vs := [_, _]) rfl ⟨rfl, rfl, trivial⟩ ?_))))))))))))));exact ⟨by rw [hres, hsum, hst2]; rfl, by rw [hres, hsum, hst2]; exact BR, hE9.step hER (fun _ h => Or.inl h)⟩
            ·
             refine zq 150 (.bool true) rfl ((by rw [← hz, Bool.eq_false_iff.2 zb]; rfl : (.bool (!(eqW (qq W top) n (wat l i) (wat r i) f).1.1) : Value) = _)) ?_;rw [if_neg (fun h => zb h.1)] at hst2
             refine za rfl (zd rfl (za rfl (zd rfl (za rfl (ya rfl rfl (rnx (ye rfl (srx (mvx rfl (avx rfl (anx rfl (zo (zr (zh (zh (zr (zh (zn (rs := [.tmp 8, .tmp 9]) (vs := [_, _]) rfl ⟨rfl, rfl, trivial⟩ ?_))))))))))))))))))
             exact ⟨by rw [hres, hsum, hst2]; rfl, by rw [hres, hsum, hst2]; exact BR, hE9.step hER (fun _ h => Or.inl h)⟩
           ·
            have hc := of_decide_eq_false hc;refine vo (yf (yf (yx (zj (srx (avx rfl (anx rfl (zo (zn (rs := [.tmp 8, .tmp 9]) (vs := [_, _]) rfl ⟨rfl, rfl, trivial⟩ ?_)))))))));exact ⟨by rw [hres, hsum, zjk (by omega)]; rfl, by rw [hres, hsum, zjk (by omega)]; exact Bi, hE9.step hEi (fun _ h => Or.inl h)⟩
          ·
           refine zq 126 (.bool true) rfl ((by congr 1; rw [bne_iff_ne]; omega : (.bool (((l.length : Nat) : Int) != ((r.length : Nat) : Int)) : Value) = _)) (za rfl (zm rfl rfl (rnx (ye rfl (srx (avx rfl (anx rfl (zo (zh (zn (rs := [.tmp 8, .tmp 9]) (vs := [_, _]) rfl ⟨rfl, rfl, trivial⟩ ?_))))))))))
           exact ⟨by rw [hitem, if_pos (Or.inr (Or.inr z3))]; rfl, by rw [hitem, if_pos (Or.inr (Or.inr z3))]; exact B9, hE9⟩
         ·
          refine zq 119 (.bool true) rfl ((by congr 1; rw [bne_iff_ne]; exact z2 : (.bool (e2 != 0) : Value) = _)) (za rfl (zm rfl rfl (mvx rfl (za rfl (zd rfl (za rfl (zd rfl (za rfl (zd rfl (za rfl (zd rfl (za rfl (zd rfl (za rfl (ya rfl rfl (rnx (ye rfl (srx (avx rfl (anx rfl (zo (zh (zn (rs := [.tmp 8, .tmp 9]) (vs := [_, _]) rfl ⟨rfl, rfl, trivial⟩ ?_)))))))))))))))))))))))
          exact ⟨by rw [hitem, if_pos (Or.inr (Or.inl z2))]; rfl, by rw [hitem, if_pos (Or.inr (Or.inl z2))]; exact B9, hE9⟩
        ·
         refine zq 116 (.bool true) rfl ((by congr 1; rw [bne_iff_ne]; exact z1 : (.bool (e1 != 0) : Value) = _)) (mvx rfl (za rfl (zd rfl (za rfl (zd rfl (za rfl (ya rfl rfl (mvx rfl (za rfl (zd rfl (za rfl (zd rfl (za rfl (zd rfl (za rfl (zd rfl (za rfl (zd rfl (za rfl (ya rfl rfl (rnx (ye rfl (srx (avx rfl (anx rfl (zo (zh (zn (rs := [.tmp 8, .tmp 9]) (vs := [_, _]) rfl ⟨rfl, rfl, trivial⟩ ?_))))))))))))))))))))))))))))
         exact ⟨by rw [hitem, if_pos (Or.inl z1)]; rfl, by rw [hitem, if_pos (Or.inl z1)]; exact B9, hE9⟩
       ·
        refine zq 90 (.bool true) rfl ((by congr 1; rw [bne_iff_ne]; omega : (.bool (((lkK W top p : Nat) : Int) != 6) : Value) = _)) (onx rfl (zp rfl (onx rfl (zf Try.underlying67 rfl sz3 (by decide) rfl (onx rfl (zk Try.underlying3 rfl rfl BP rfl (onx rfl (qh rfl rfl ?_))))))));by_cases k5 : lkK W top p = 5
        ·
         refine zq 94 (.bool false) rfl ((by rw [k5]; rfl : (.bool (((lkK W top p : Nat) : Int) != 5) : Value) = _)) ?_;have hitem := eqW_i (o := qq W top) (n := n) h0 hsv hpq (show ¬ (lkK W top p ≠ lkK W top q ∨ (lkK W top p ≠ 6 ∧ lkK W top p ≠ 5)) by omega) hl hr he1 he2
         refine onx rfl (ya rfl rfl (za rfl (zm rfl rfl (rnx (zw rfl (zt (zj (srx (mvx rfl (za rfl (yo rfl (za rfl (zf Try.underlying55 rfl qx (by decide) rfl (za rfl (vr (cs := #[.slice A W.length c, .int .i64 ((top : Nat) : Int)]) Try.underlying24 rfl qx rfl rfl (je @B7) (mvx rfl (za rfl (zi en12 rfl ((ztk _ A W c m top p (hM7 _ (Ext.refl _ _)) hp l hl e1 he1).mono ?_)))))))))))))))))))
         rintro e w13 ⟨⟨C1, d1, rfl, hC1⟩, hb⟩;refine ⟨_, rfl, ?_⟩;have E8 := Ext.of_below hb No;have B8 := B7.ext E8 (fun h => h.elim);obtain ⟨wu8, hwu8⟩ : ∃ z, z = w13 := ⟨_, rfl⟩;subst hwu8
         refine mvx rfl (za rfl (zg rfl rfl (za rfl (zg rfl rfl (avx rfl (anx rfl (srx (mvx rfl (za rfl (yo rfl (za rfl (zf Try.underlying55 rfl qx (by decide) rfl (za rfl (vr (cs := #[.slice A W.length c, .int .i64 ((top : Nat) : Int)]) Try.underlying24 rfl qx rfl rfl (je @B8) (mvx rfl (za rfl (zi en12 rfl ((ztk _ A W c m top q (hM7 _ (E8.noL wu7.heap.size)) hq r hr e2 he2).mono ?_))))))))))))))))))
         rintro e w14 ⟨⟨C2, d2, rfl, hC2⟩, hb⟩;refine ⟨_, rfl, ?_⟩;have E9 := Ext.of_below hb No;have B9 := B8.ext E9 (fun h => h.elim);obtain ⟨wu9, hwu9⟩ : ∃ z, z = w14 := ⟨_, rfl⟩;subst hwu9;have hE9 := (hE7.step E8 (fun _ h => h.elim)).step E9 (fun _ h => h.elim)
         refine mvx rfl (za rfl (zg rfl rfl (za rfl (zg rfl rfl (avx rfl (anx rfl (zl (srx (mvx rfl (za rfl (qh rfl rfl ?_)))))))))));by_cases z1 : e1 = 0
         ·
          refine zq 116 (.bool false) rfl ((by rw [z1]; rfl : (.bool (e1 != 0) : Value) = _)) (mvx rfl (onx rfl (zp rfl (onx rfl (qh rfl rfl ?_)))));by_cases z2 : e2 = 0
          ·
           refine zq 119 (.bool false) rfl ((by rw [z2]; rfl : (.bool (e2 != 0) : Value) = _)) (za rfl (zm rfl rfl (mvx rfl (onx rfl (zp rfl (onx rfl (qe Try.underlying22 rfl (onx rfl (zp rfl (onx rfl (qe Try.underlying22 rfl (onx rfl (qh rfl rfl ?_)))))))))))));by_cases z3 : l.length = r.length
           ·
            refine zq 126 (.bool false) rfl ((by rw [z3, bne_self_eq_false] : (.bool (((l.length : Nat) : Int) != ((r.length : Nat) : Int)) : Value) = _)) ?_;obtain ⟨gl, rfl, Bl0, Gl⟩ := hC1 z1;obtain ⟨gr, rfl, Br, Gr⟩ := hC2 z2;have Bl := Bl0.ext E9 (fun h => h.elim);have hlu : ∀ y ∈ l, U64 y := by rw [hl]; exact xg hW
            have hru : ∀ y ∈ r, U64 y := by rw [hr]; exact xg hW
            have hs8 := E8.size;have hglk : gk < gl := by have := B7.lt; omega
            have hgrk : gk < gr := by have := B8.lt; omega
            have hll : l.length ≤ 1048576 := by rw [hl]; exact zqk hM.most
            have hres : eqW (qq W top) (n + 1) p q left = eqL (eqW (qq W top) n) l r (left - 1) := by
             rw [hitem, if_neg (fun h => by rcases h with h | h | h <;> contradiction)]
            refine za rfl (zm rfl rfl (rnx (zw rfl (zt (zj (zl (srx (mvx rfl (za rfl (qe Try.underlying22 rfl (mvx rfl (rnx (yh (jd (ι := Nat × Nat) (fun (i, f) => [(0, .pointer (some ⟨gk, 0, none⟩)), (3, .int .i64 ((d : Nat) : Int)), (21, .slice (some ⟨gl, 0, none⟩) l.length d1), (22, .slice (some ⟨gr, 0, none⟩) r.length d2), (129, .int .i64 ((l.length : Nat) : Int)), (130, .int .i64 ((i : Nat) : Int))]) (fun (i, f) w' => i ≤ l.length ∧ f ≤ 20000 ∧ Blk w' gk 55 (wkC A W c top f) ∧ Ext (Mut [some gk]) wu9 w' ∧ eqL (eqW (qq W top) n) l r (left - 1) = eqL (eqW (qq W top) n) (l.drop i) (r.drop i) f) (fun (i, _) => l.length - i) (0, left - 1) ⟨rfl, rfl, rfl, rfl, rfl, rfl, trivial⟩ (⟨Nat.zero_le _, by omega, B9, Ext.refl _ _, rfl⟩) ?_))))))))))))))
            rintro ⟨i, f⟩ w16 ⟨hi0, hf2, Bi, hEi, hsum⟩;refine srx (za rfl (qo rfl rfl (rnx (zl (yv rfl (fun hc => ?_) (fun hc => ?_))))))
            ·
             have hc := of_decide_eq_true hc;have hlt : i < l.length := by omega
             have hli : l[i]? = some (wat l i) := kz hlt;have hri : r[i]? = some (wat r i) := kz (by omega);have Bli := Bl.ext hEi (fun h => by have := qd h; omega);have Bri := Br.ext hEi (fun h => by have := qd h; omega);refine zt (zj (zl (yh (srx (mvx rfl (anx rfl (zl (zbz vu (zbv 11 rfl ?_)))))))))
             refine zwk (No) Mut.none_ [] [] (gg [Fx.of (.pointer (some ⟨gk, 0, none⟩)),
              Fx.of (.slice (some ⟨gl, 0, none⟩) l.length d1),
              Fx.of (.int .i64 ((i : Nat) : Int)),
              Fx.of (.pointer (some ⟨gl, 0 + i, none⟩)),
              Fx.of (.int .u64 ((wat l i : Nat) : Int)),
              Fx.of (.slice (some ⟨gr, 0, none⟩) r.length d2),
              Fx.of (.int .i64 ((i : Nat) : Int)),
              Fx.of (.pointer (some ⟨gr, 0 + i, none⟩)),
              Fx.of (.int .u64 ((wat r i : Nat) : Int)),
              Fx.of (.int .i64 ((d : Nat) : Int)),
              Fx.of (.int .i64 ((d + 1 : Nat) : Int))]) rfl trivial (fun _ h => by cases h) ?_ ?_
             · refine ⟨?_, ?_, ?_, ?_, ?_, ?_, ?_, ?_, ?_, ?_, ?_, trivial⟩
               · intro vs X wq K;exact zp rfl ⟨Below.refl _ _, Left.of rfl⟩
               · intro vs X wq K;exact zp rfl ⟨Below.refl _ _, Left.of rfl⟩
               · intro vs X wq K;exact zp rfl ⟨Below.refl _ _, Left.of rfl⟩
               · intro vs X wq K;obtain ⟨_, e1, k1⟩ := K.dep 1 rfl rfl rfl;refine zc 135 (.slice (some ⟨gl, 0, none⟩) l.length d1) rfl e1 ?_;obtain ⟨_, e2, k2⟩ := K.dep 2 rfl rfl rfl;refine zc 136 (.int .i64 ((i : Nat) : Int)) rfl e2 ?_;exact yc (j := i) Try.underlying22 vc rfl rfl rfl hlt ⟨Below.refl _ _, Left.of rfl⟩
               · intro vs X wq K;have LE := K.1;obtain ⟨_, e3, k3⟩ := K.dep 3 rfl rfl rfl;refine zc 137 (.pointer (some ⟨gl, 0 + i, none⟩)) rfl e3 ?_;exact zk Try.underlying25 rfl rfl (qj LE Bli) (by rw [Nat.zero_add]; exact kh hli) ⟨Below.refl _ _, Left.of rfl⟩
               · intro vs X wq K;exact zp rfl ⟨Below.refl _ _, Left.of rfl⟩
               · intro vs X wq K;exact zp rfl ⟨Below.refl _ _, Left.of rfl⟩
               · intro vs X wq K;obtain ⟨_, e5, k5⟩ := K.dep 5 rfl rfl rfl;refine zc 139 (.slice (some ⟨gr, 0, none⟩) r.length d2) rfl e5 ?_;obtain ⟨_, e6, k6⟩ := K.dep 6 rfl rfl rfl;refine zc 140 (.int .i64 ((i : Nat) : Int)) rfl e6 ?_;exact yc (j := i) Try.underlying22 vc rfl rfl rfl (by omega) ⟨Below.refl _ _, Left.of rfl⟩
               · intro vs X wq K;have LE := K.1;obtain ⟨_, e7, k7⟩ := K.dep 7 rfl rfl rfl;refine zc 141 (.pointer (some ⟨gr, 0 + i, none⟩)) rfl e7 ?_;exact zk Try.underlying25 rfl rfl (qj LE Bri) (by rw [Nat.zero_add]; exact kh hri) ⟨Below.refl _ _, Left.of rfl⟩
               · intro vs X wq K;exact zp rfl ⟨Below.refl _ _, Left.of rfl⟩
               · intro vs X wq K;obtain ⟨_, e9, k9⟩ := K.dep 9 rfl rfl rfl;refine zc 143 (.int .i64 ((d : Nat) : Int)) rfl e9 ?_;exact yp rfl rfl (zy (by omega)) ⟨Below.refl _ _, Left.of ((by first | rfl | (congr 1; omega) : (.int .i64 (((d : Nat) : Int) + 1) : Value) = _))⟩
             intro vs w17 LE AO AL AF AA;have hbd : Below (w16).heap.size (w16) w17 := (((Ext.refl No (w16)).drew).trans LE).toBelow;obtain ⟨_, e0, k0⟩ := AL.1;obtain ⟨_, e4, k4⟩ := AL.2.2.2.2.1;obtain ⟨_, e8, k8⟩ := AL.2.2.2.2.2.2.2.2.1;obtain ⟨_, e10, k10⟩ := AL.2.2.2.2.2.2.2.2.2.2.1
             refine qy (τ := [(0, _), (3, _), (21, _), (22, _), (129, _), (130, _), (134, .pointer (some ⟨gk, 0, none⟩)), (138, .int .u64 ((wat l i : Nat) : Int)), (142, .int .u64 ((wat r i : Nat) : Int)), (144, .int .i64 ((d + 1 : Nat) : Int))]) ⟨rfl, rfl, rfl, rfl, rfl, rfl, congrArg some e0, congrArg some e4, congrArg some e8, congrArg some e10, trivial⟩ ?_;clear AL AF AA AO
             refine znq (kq (by kernel_rfl) (fun _ _ d_ _ _ h => by cases d_ <;> exact h) ?_);have EX := Ext.of_below hbd No;have hEx := hEi.step EX (fun _ h => h.elim);have BiX := Bi.ext EX (fun h => h.elim);obtain ⟨z, hz⟩ : ∃ z, z = eqW (qq W top) n (wat l i) (wat r i) f := ⟨_, rfl⟩;have hzl : z.2 ≤ f := by rw [hz]; exact eqW_le _ _ _ _
             have hst2 := ykq (f := eqW (qq W top) n) (k := f) hli hri;rw [← hz] at hst2;refine za rfl (zi en16 rfl ((ihn _ (wat l i) (wat r i) f (d + 1) (by omega) (hlu _ (List.mem_of_getElem? hli)) (hru _ (List.mem_of_getElem? hri)) hf2 (hM1 _ (hE9.step hEx (fun _ h => Or.inl h))) hmk BiX).mono ?_));rintro e w18 ⟨rfl, BR, ER⟩;refine ⟨_, rfl, ?_⟩;rw [← hz] at BR
             have hER := hEx.step ER (fun _ h => Or.inl h);refine mvx rfl (za rfl (zg rfl rfl (za rfl (zg rfl rfl (avx rfl (anx rfl (srx (mvx rfl (za rfl (qa rfl (mvx rfl (zq 25 (.int .i64 z.1.2) rfl ((by rw [hz] : (.int .i64 (eqW (qq W top) n (wat l i) (wat r i) f).1.2 : Value) = _)) ?_))))))))))));by_cases zb : z.1.1 = true
             ·
              refine zq 150 (.bool false) rfl ((by rw [← hz, zb]; rfl : (.bool (!(eqW (qq W top) n (wat l i) (wat r i) f).1.1) : Value) = _)) (onx rfl (zp rfl (onx rfl (qh rfl rfl ?_))));by_cases ze : z.1.2 = 0
              ·
               refine zq 152 (.bool false) rfl ((by rw [ze]; rfl : (.bool (z.1.2 != 0) : Value) = _)) ?_;rw [if_pos ⟨zb, ze⟩] at hst2;refine za rfl (zm rfl rfl (rnx (zw rfl (zt (zx (zj (yq (za rfl (yp rfl rfl (zy (by omega)) (mvx rfl (qz ?_)))))))))))
               exact ve (i + 1, z.2) (by show l.length - (i + 1) < l.length - i; omega) ⟨rfl, rfl, rfl, rfl, rfl, rfl, trivial⟩ (⟨hlt, by omega, BR, hER, hsum.trans hst2⟩)
              ·
               refine zq 152 (.bool true) rfl ((by congr 1; rw [bne_iff_ne]; exact ze : (.bool (z.1.2 != 0) : Value) = _)) ?_;rw [if_neg (fun h => ze h.2)] at hst2
               refine za rfl (zm rfl rfl (rnx (ye rfl (srx (mvx rfl (avx rfl (anx rfl (zo (zr (zh (zh (zr (zh (zn (rs := [.tmp 8, .tmp 9]) (vs := [_, _]) rfl ⟨rfl, rfl, trivial⟩ ?_))))))))))))));exact ⟨by rw [hres, hsum, hst2]; rfl, by rw [hres, hsum, hst2]; exact BR, hE9.step hER (fun _ h => Or.inl h)⟩
             ·
              refine zq 150 (.bool true) rfl ((by rw [← hz, Bool.eq_false_iff.2 zb]; rfl : (.bool (!(eqW (qq W top) n (wat l i) (wat r i) f).1.1) : Value) = _)) ?_;rw [if_neg (fun h => zb h.1)] at hst2
              refine za rfl (zd rfl (za rfl (zd rfl (za rfl (ya rfl rfl (rnx (ye rfl (srx (mvx rfl (avx rfl (anx rfl (zo (zr (zh (zh (zr (zh (zn (rs := [.tmp 8, .tmp 9]) (vs := [_, _]) rfl ⟨rfl, rfl, trivial⟩ ?_))))))))))))))))))
              exact ⟨by rw [hres, hsum, hst2]; rfl, by rw [hres, hsum, hst2]; exact BR, hE9.step hER (fun _ h => Or.inl h)⟩
            ·
             have hc := of_decide_eq_false hc;refine vo (yf (yf (yx (zj (srx (avx rfl (anx rfl (zo (zn (rs := [.tmp 8, .tmp 9]) (vs := [_, _]) rfl ⟨rfl, rfl, trivial⟩ ?_)))))))));exact ⟨by rw [hres, hsum, zjk (by omega)]; rfl, by rw [hres, hsum, zjk (by omega)]; exact Bi, hE9.step hEi (fun _ h => Or.inl h)⟩
           ·
            refine zq 126 (.bool true) rfl ((by congr 1; rw [bne_iff_ne]; omega : (.bool (((l.length : Nat) : Int) != ((r.length : Nat) : Int)) : Value) = _)) (za rfl (zm rfl rfl (rnx (ye rfl (srx (avx rfl (anx rfl (zo (zh (zn (rs := [.tmp 8, .tmp 9]) (vs := [_, _]) rfl ⟨rfl, rfl, trivial⟩ ?_))))))))))
            exact ⟨by rw [hitem, if_pos (Or.inr (Or.inr z3))]; rfl, by rw [hitem, if_pos (Or.inr (Or.inr z3))]; exact B9, hE9⟩
          ·
           refine zq 119 (.bool true) rfl ((by congr 1; rw [bne_iff_ne]; exact z2 : (.bool (e2 != 0) : Value) = _)) (za rfl (zm rfl rfl (mvx rfl (za rfl (zd rfl (za rfl (zd rfl (za rfl (zd rfl (za rfl (zd rfl (za rfl (zd rfl (za rfl (ya rfl rfl (rnx (ye rfl (srx (avx rfl (anx rfl (zo (zh (zn (rs := [.tmp 8, .tmp 9]) (vs := [_, _]) rfl ⟨rfl, rfl, trivial⟩ ?_)))))))))))))))))))))))
           exact ⟨by rw [hitem, if_pos (Or.inr (Or.inl z2))]; rfl, by rw [hitem, if_pos (Or.inr (Or.inl z2))]; exact B9, hE9⟩
         ·
          refine zq 116 (.bool true) rfl ((by congr 1; rw [bne_iff_ne]; exact z1 : (.bool (e1 != 0) : Value) = _)) (mvx rfl (za rfl (zd rfl (za rfl (zd rfl (za rfl (ya rfl rfl (mvx rfl (za rfl (zd rfl (za rfl (zd rfl (za rfl (zd rfl (za rfl (zd rfl (za rfl (zd rfl (za rfl (ya rfl rfl (rnx (ye rfl (srx (avx rfl (anx rfl (zo (zh (zn (rs := [.tmp 8, .tmp 9]) (vs := [_, _]) rfl ⟨rfl, rfl, trivial⟩ ?_))))))))))))))))))))))))))))
          exact ⟨by rw [hitem, if_pos (Or.inl z1)]; rfl, by rw [hitem, if_pos (Or.inl z1)]; exact B9, hE9⟩
        ·
         refine zq 94 (.bool true) rfl ((by congr 1; rw [bne_iff_ne]; omega : (.bool (((lkK W top p : Nat) : Int) != 5) : Value) = _)) ?_;have hkk : eqW (qq W top) (n + 1) p q left = ((false, 0), left - 1) := by
          rw [ykz h0 hsv, if_neg hpq, if_pos (show (qq W top).K p ≠ (qq W top).K q ∨ ((qq W top).K p ≠ 6 ∧ (qq W top).K p ≠ 5) from Or.inr ⟨k6, k5⟩)]
         refine onx rfl (ya rfl rfl (za rfl (zm rfl rfl (rnx (ye rfl (srx (avx rfl (anx rfl (zo (zh (zn (rs := [.tmp 8, .tmp 9]) (vs := [_, _]) rfl ⟨rfl, rfl, trivial⟩ ?_)))))))))));exact ⟨by rw [hkk]; rfl, by rw [hkk]; exact B7, hE7⟩
      ·
       refine zq 86 (.bool true) rfl ((by congr 1; rw [bne_iff_ne]; omega : (.bool (((lkK W top p : Nat) : Int) != ((lkK W top q : Nat) : Int)) : Value) = _)) ?_;have hkk : eqW (qq W top) (n + 1) p q left = ((false, 0), left - 1) := by
        rw [ykz h0 hsv, if_neg hpq, if_pos (show (qq W top).K p ≠ (qq W top).K q ∨ ((qq W top).K p ≠ 6 ∧ (qq W top).K p ≠ 5) from Or.inl hK)]
       refine mvx rfl (za rfl (zd rfl (za rfl (zd rfl (za rfl (zd rfl (za rfl (zd rfl (za rfl (ot rfl rfl (za rfl (ot rfl rfl (za rfl (ot rfl rfl (za rfl (zd rfl (za rfl (ya rfl rfl (rnx (ye rfl (srx (avx rfl (anx rfl (zo (zh (zn (rs := [.tmp 8, .tmp 9]) (vs := [_, _]) rfl ⟨rfl, rfl, trivial⟩ ?_))))))))))))))))))))))))))
       exact ⟨by rw [hkk]; rfl, by rw [hkk]; exact B7, hE7⟩
   ·
    have hsv : ¬ ((jp W top p).isSome = true ∧ (jp W top q).isSome = true) := fun h => su h.1;have zu : eu = 9 := by rw [heu, if_neg su]
    refine zq 51 (.bool false) rfl ((by rw [zu]; rfl : (.bool (eu == 0) : Value) = _)) (mvx rfl (za rfl (zd rfl (za rfl (zd rfl (za rfl (zm rfl rfl (rnx (zw rfl (zt (zj (zl (srx (mvx rfl (mvx rfl (za rfl (yl rfl rfl (rnx ?_))))))))))))))))));by_cases hpq : p = q
    ·
     refine yd 61 (.bool true) rfl ((by rw [hpq, beq_self_eq_true] : (.bool (((p : Nat) : Int) == ((q : Nat) : Int)) : Value) = _)) (ye rfl (srx (avx rfl (anx rfl (zo (zh (zn (rs := [.tmp 8, .tmp 9]) (vs := [_, _]) rfl ⟨rfl, rfl, trivial⟩ ?_)))))));exact ⟨by rw [ykz h0 hsv, if_pos hpq]; rfl, by rw [ykz h0 hsv, if_pos hpq]; exact BkD, hED⟩
    ·
     refine yd 61 (.bool false) rfl ((by congr 1; rw [beq_eq_false_iff_ne]; omega : (.bool (((p : Nat) : Int) == ((q : Nat) : Int)) : Value) = _)) (zw rfl (zt (zj (srx (mvx rfl (za rfl (yo rfl (za rfl (zf Try.underlying55 rfl qx (by decide) rfl (za rfl (vr (cs := #[.slice A W.length c, .int .i64 ((top : Nat) : Int)]) Try.underlying24 rfl qx rfl rfl (je @BkD) (mvx rfl (za rfl (zi ycx rfl ((kb _ A W c m top p (hM1 _ hED) hp).mono ?_)))))))))))))))
     rintro e w19 ⟨rfl, hb⟩;refine ⟨_, rfl, ?_⟩;have EG := Ext.of_below hb No;have BkG := BkD.ext EG (fun h => h.elim);have hEG := hED.step EG (fun _ h => h.elim);obtain ⟨wuG, hwuG⟩ : ∃ z, z = w19 := ⟨_, rfl⟩;subst hwuG;have hsG := hEG.size;refine mvx rfl (za rfl (zg rfl rfl (za rfl (zg rfl rfl (za rfl (zg rfl rfl (za rfl (ym xw ?_))))))))
     rintro g16 wH BH0 EH GH;refine avx rfl (yn (yi xe rfl rfl BH0 rfl rfl rfl ?_));rintro wI BH EI;have FI : Ext (fun q => wuG.heap.size ≤ q) wuG wI := (EH.noL wuG.heap.size).step EI (fun q hq => Or.inl (show wuG.heap.size ≤ q by have := qd hq; omega));have hEI := hEG.step FI (fun q hq => Or.inr (Nat.le_trans hsG hq))
     have BkI := BkG.ext FI (fun h => by have h : wuG.heap.size ≤ gk := h; have := BkG.lt; omega)
     refine anx rfl (srx (mvx rfl (za rfl (yo rfl (za rfl (zf Try.underlying55 rfl qx (by decide) rfl (za rfl (vr (cs := #[.slice A W.length c, .int .i64 ((top : Nat) : Int)]) Try.underlying24 rfl qx rfl rfl (je @BkI) (mvx rfl (za rfl (zi ycx rfl ((kb _ A W c m top q (hM1 _ hEI) hq).mono ?_))))))))))));rintro e w20 ⟨rfl, hb⟩
     refine ⟨_, rfl, ?_⟩;have EJ := Ext.of_below hb No;have BkJ := BkI.ext EJ (fun h => h.elim);have BHJ := BH.ext EJ (fun h => h.elim);have hEJ := hEI.step EJ (fun _ h => h.elim);obtain ⟨wuJ, hwuJ⟩ : ∃ z, z = w20 := ⟨_, rfl⟩;subst hwuJ;have hsJ := hEJ.size
     refine mvx rfl (za rfl (zg rfl rfl (za rfl (zg rfl rfl (za rfl (zg rfl rfl (za rfl (ym xw ?_))))))));rintro g19 wK BK0 EK GK;refine avx rfl (yn (yi xe rfl rfl BK0 rfl rfl rfl ?_));rintro wL BL0 EL
     have FL : Ext (fun q => wuJ.heap.size ≤ q) wuJ wL := (EK.noL wuJ.heap.size).step EL (fun q hq => Or.inl (show wuJ.heap.size ≤ q by have := qd hq; omega));have hE7 := hEJ.step FL (fun q hq => Or.inr (Nat.le_trans hsJ hq));have B7 := BkJ.ext FL (fun h => by have h : wuJ.heap.size ≤ gk := h; have := BkJ.lt; omega)
     have BP0 := BHJ.ext FL (fun h => by have h : wuJ.heap.size ≤ g16 := h; have := BHJ.lt; omega);have BP : Blk wL g16 67 #[.int .i64 ((lkK W top p : Nat) : Int), .int .i64 ((lkT W top p : Nat) : Int), .int .i64 ((lkR W top p : Nat) : Int)] := BP0
     have BQ : Blk wL g19 67 #[.int .i64 ((lkK W top q : Nat) : Int), .int .i64 ((lkT W top q : Nat) : Int), .int .i64 ((lkR W top q : Nat) : Int)] := BL0;obtain ⟨wu7, hwu7⟩ : ∃ z, z = wL := ⟨_, rfl⟩;subst hwu7;have hM7 : ∀ z, Ext (fun q => wu7.heap.size ≤ q) wu7 z → MemA m z A W top := fun z hz => hM1 z (hE7.step hz (fun q hq => Or.inr (Nat.le_trans hE7.size hq)))
     refine anx rfl (zl (srx (za rfl (zf Try.underlying67 rfl sz3 (by decide) rfl (za rfl (zk Try.underlying3 rfl rfl BP rfl (za rfl (zf Try.underlying67 rfl sz3 (by decide) rfl (za rfl (zk Try.underlying3 rfl rfl BQ rfl (za rfl (qh rfl rfl ?_))))))))))));by_cases hK : lkK W top p = lkK W top q
     ·
      refine zq 86 (.bool false) rfl ((by rw [hK, bne_self_eq_false] : (.bool (((lkK W top p : Nat) : Int) != ((lkK W top q : Nat) : Int)) : Value) = _)) (mvx rfl (onx rfl (zf Try.underlying67 rfl sz3 (by decide) rfl (onx rfl (zk Try.underlying3 rfl rfl BP rfl (onx rfl (qh rfl rfl ?_)))))));by_cases k6 : lkK W top p = 6
      ·
       refine zq 90 (.bool false) rfl ((by rw [k6]; rfl : (.bool (((lkK W top p : Nat) : Int) != 6) : Value) = _)) ?_;have hitem := eqW_i (o := qq W top) (n := n) h0 hsv hpq (show ¬ (lkK W top p ≠ lkK W top q ∨ (lkK W top p ≠ 6 ∧ lkK W top p ≠ 5)) by omega) hl hr he1 he2
       refine onx rfl (zp rfl (za rfl (zd rfl (za rfl (zd rfl (za rfl (zd rfl (onx rfl (zm rfl rfl (za rfl (zm rfl rfl (rnx (zw rfl (zt (zj (srx (mvx rfl (za rfl (yo rfl (za rfl (zf Try.underlying55 rfl qx (by decide) rfl (za rfl (vr (cs := #[.slice A W.length c, .int .i64 ((top : Nat) : Int)]) Try.underlying24 rfl qx rfl rfl (je @B7) (mvx rfl (za rfl (zi en12 rfl ((ztk _ A W c m top p (hM7 _ (Ext.refl _ _)) hp l hl e1 he1).mono ?_)))))))))))))))))))))))))))
       rintro e w21 ⟨⟨C1, d1, rfl, hC1⟩, hb⟩;refine ⟨_, rfl, ?_⟩;have E8 := Ext.of_below hb No;have B8 := B7.ext E8 (fun h => h.elim);obtain ⟨wu8, hwu8⟩ : ∃ z, z = w21 := ⟨_, rfl⟩;subst hwu8
       refine mvx rfl (za rfl (zg rfl rfl (za rfl (zg rfl rfl (avx rfl (anx rfl (srx (mvx rfl (za rfl (yo rfl (za rfl (zf Try.underlying55 rfl qx (by decide) rfl (za rfl (vr (cs := #[.slice A W.length c, .int .i64 ((top : Nat) : Int)]) Try.underlying24 rfl qx rfl rfl (je @B8) (mvx rfl (za rfl (zi en12 rfl ((ztk _ A W c m top q (hM7 _ (E8.noL wu7.heap.size)) hq r hr e2 he2).mono ?_))))))))))))))))))
       rintro e w22 ⟨⟨C2, d2, rfl, hC2⟩, hb⟩;refine ⟨_, rfl, ?_⟩;have E9 := Ext.of_below hb No;have B9 := B8.ext E9 (fun h => h.elim);obtain ⟨wu9, hwu9⟩ : ∃ z, z = w22 := ⟨_, rfl⟩;subst hwu9;have hE9 := (hE7.step E8 (fun _ h => h.elim)).step E9 (fun _ h => h.elim)
       refine mvx rfl (za rfl (zg rfl rfl (za rfl (zg rfl rfl (avx rfl (anx rfl (zl (srx (mvx rfl (za rfl (qh rfl rfl ?_)))))))))));by_cases z1 : e1 = 0
       ·
        refine zq 116 (.bool false) rfl ((by rw [z1]; rfl : (.bool (e1 != 0) : Value) = _)) (mvx rfl (onx rfl (zp rfl (onx rfl (qh rfl rfl ?_)))));by_cases z2 : e2 = 0
        ·
         refine zq 119 (.bool false) rfl ((by rw [z2]; rfl : (.bool (e2 != 0) : Value) = _)) (za rfl (zm rfl rfl (mvx rfl (onx rfl (zp rfl (onx rfl (qe Try.underlying22 rfl (onx rfl (zp rfl (onx rfl (qe Try.underlying22 rfl (onx rfl (qh rfl rfl ?_)))))))))))));by_cases z3 : l.length = r.length
         ·
          refine zq 126 (.bool false) rfl ((by rw [z3, bne_self_eq_false] : (.bool (((l.length : Nat) : Int) != ((r.length : Nat) : Int)) : Value) = _)) ?_;obtain ⟨gl, rfl, Bl0, Gl⟩ := hC1 z1;obtain ⟨gr, rfl, Br, Gr⟩ := hC2 z2;have Bl := Bl0.ext E9 (fun h => h.elim);have hlu : ∀ y ∈ l, U64 y := by rw [hl]; exact xg hW
          have hru : ∀ y ∈ r, U64 y := by rw [hr]; exact xg hW
          have hs8 := E8.size;have hglk : gk < gl := by have := B7.lt; omega
          have hgrk : gk < gr := by have := B8.lt; omega
          have hll : l.length ≤ 1048576 := by rw [hl]; exact zqk hM.most
          have hres : eqW (qq W top) (n + 1) p q left = eqL (eqW (qq W top) n) l r (left - 1) := by
           rw [hitem, if_neg (fun h => by rcases h with h | h | h <;> contradiction)]
          refine za rfl (zm rfl rfl (rnx (zw rfl (zt (zj (zl (srx (mvx rfl (za rfl (qe Try.underlying22 rfl (mvx rfl (rnx (yh (jd (ι := Nat × Nat) (fun (i, f) => [(0, .pointer (some ⟨gk, 0, none⟩)), (3, .int .i64 ((d : Nat) : Int)), (21, .slice (some ⟨gl, 0, none⟩) l.length d1), (22, .slice (some ⟨gr, 0, none⟩) r.length d2), (129, .int .i64 ((l.length : Nat) : Int)), (130, .int .i64 ((i : Nat) : Int))]) (fun (i, f) w' => i ≤ l.length ∧ f ≤ 20000 ∧ Blk w' gk 55 (wkC A W c top f) ∧ Ext (Mut [some gk]) wu9 w' ∧ eqL (eqW (qq W top) n) l r (left - 1) = eqL (eqW (qq W top) n) (l.drop i) (r.drop i) f) (fun (i, _) => l.length - i) (0, left - 1) ⟨rfl, rfl, rfl, rfl, rfl, rfl, trivial⟩ (⟨Nat.zero_le _, by omega, B9, Ext.refl _ _, rfl⟩) ?_))))))))))))))
          rintro ⟨i, f⟩ w24 ⟨hi0, hf2, Bi, hEi, hsum⟩;refine srx (za rfl (qo rfl rfl (rnx (zl (yv rfl (fun hc => ?_) (fun hc => ?_))))))
          ·
           have hc := of_decide_eq_true hc;have hlt : i < l.length := by omega
           have hli : l[i]? = some (wat l i) := kz hlt;have hri : r[i]? = some (wat r i) := kz (by omega);have Bli := Bl.ext hEi (fun h => by have := qd h; omega);have Bri := Br.ext hEi (fun h => by have := qd h; omega);refine zt (zj (zl (yh (srx (mvx rfl (anx rfl (zl (zbz vu (zbv 11 rfl ?_)))))))))
           refine zwk (No) Mut.none_ [] [] (gg [Fx.of (.pointer (some ⟨gk, 0, none⟩)),
            Fx.of (.slice (some ⟨gl, 0, none⟩) l.length d1),
            Fx.of (.int .i64 ((i : Nat) : Int)),
            Fx.of (.pointer (some ⟨gl, 0 + i, none⟩)),
            Fx.of (.int .u64 ((wat l i : Nat) : Int)),
            Fx.of (.slice (some ⟨gr, 0, none⟩) r.length d2),
            Fx.of (.int .i64 ((i : Nat) : Int)),
            Fx.of (.pointer (some ⟨gr, 0 + i, none⟩)),
            Fx.of (.int .u64 ((wat r i : Nat) : Int)),
            Fx.of (.int .i64 ((d : Nat) : Int)),
            Fx.of (.int .i64 ((d + 1 : Nat) : Int))]) rfl trivial (fun _ h => by cases h) ?_ ?_
           · refine ⟨?_, ?_, ?_, ?_, ?_, ?_, ?_, ?_, ?_, ?_, ?_, trivial⟩
             · intro vs X wq K;exact zp rfl ⟨Below.refl _ _, Left.of rfl⟩
             · intro vs X wq K;exact zp rfl ⟨Below.refl _ _, Left.of rfl⟩
             · intro vs X wq K;exact zp rfl ⟨Below.refl _ _, Left.of rfl⟩
             · intro vs X wq K;obtain ⟨_, e1, k1⟩ := K.dep 1 rfl rfl rfl;refine zc 135 (.slice (some ⟨gl, 0, none⟩) l.length d1) rfl e1 ?_;obtain ⟨_, e2, k2⟩ := K.dep 2 rfl rfl rfl;refine zc 136 (.int .i64 ((i : Nat) : Int)) rfl e2 ?_;exact yc (j := i) Try.underlying22 vc rfl rfl rfl hlt ⟨Below.refl _ _, Left.of rfl⟩
             · intro vs X wq K;have LE := K.1;obtain ⟨_, e3, k3⟩ := K.dep 3 rfl rfl rfl;refine zc 137 (.pointer (some ⟨gl, 0 + i, none⟩)) rfl e3 ?_;exact zk Try.underlying25 rfl rfl (qj LE Bli) (by rw [Nat.zero_add]; exact kh hli) ⟨Below.refl _ _, Left.of rfl⟩
             · intro vs X wq K;exact zp rfl ⟨Below.refl _ _, Left.of rfl⟩
             · intro vs X wq K;exact zp rfl ⟨Below.refl _ _, Left.of rfl⟩
             · intro vs X wq K;obtain ⟨_, e5, k5⟩ := K.dep 5 rfl rfl rfl;refine zc 139 (.slice (some ⟨gr, 0, none⟩) r.length d2) rfl e5 ?_;obtain ⟨_, e6, k6⟩ := K.dep 6 rfl rfl rfl;refine zc 140 (.int .i64 ((i : Nat) : Int)) rfl e6 ?_;exact yc (j := i) Try.underlying22 vc rfl rfl rfl (by omega) ⟨Below.refl _ _, Left.of rfl⟩
             · intro vs X wq K;have LE := K.1;obtain ⟨_, e7, k7⟩ := K.dep 7 rfl rfl rfl;refine zc 141 (.pointer (some ⟨gr, 0 + i, none⟩)) rfl e7 ?_;exact zk Try.underlying25 rfl rfl (qj LE Bri) (by rw [Nat.zero_add]; exact kh hri) ⟨Below.refl _ _, Left.of rfl⟩
             · intro vs X wq K;exact zp rfl ⟨Below.refl _ _, Left.of rfl⟩
             · intro vs X wq K;obtain ⟨_, e9, k9⟩ := K.dep 9 rfl rfl rfl;refine zc 143 (.int .i64 ((d : Nat) : Int)) rfl e9 ?_;exact yp rfl rfl (zy (by omega)) ⟨Below.refl _ _, Left.of ((by first | rfl | (congr 1; omega) : (.int .i64 (((d : Nat) : Int) + 1) : Value) = _))⟩
           intro vs w25 LE AO AL AF AA;have hbd : Below (w24).heap.size (w24) w25 := (((Ext.refl No (w24)).drew).trans LE).toBelow;obtain ⟨_, e0, k0⟩ := AL.1;obtain ⟨_, e4, k4⟩ := AL.2.2.2.2.1;obtain ⟨_, e8, k8⟩ := AL.2.2.2.2.2.2.2.2.1;obtain ⟨_, e10, k10⟩ := AL.2.2.2.2.2.2.2.2.2.2.1
           refine qy (τ := [(0, _), (3, _), (21, _), (22, _), (129, _), (130, _), (134, .pointer (some ⟨gk, 0, none⟩)), (138, .int .u64 ((wat l i : Nat) : Int)), (142, .int .u64 ((wat r i : Nat) : Int)), (144, .int .i64 ((d + 1 : Nat) : Int))]) ⟨rfl, rfl, rfl, rfl, rfl, rfl, congrArg some e0, congrArg some e4, congrArg some e8, congrArg some e10, trivial⟩ ?_;clear AL AF AA AO
           refine znq (kq (by kernel_rfl) (fun _ _ d_ _ _ h => by cases d_ <;> exact h) ?_);have EX := Ext.of_below hbd No;have hEx := hEi.step EX (fun _ h => h.elim);have BiX := Bi.ext EX (fun h => h.elim);obtain ⟨z, hz⟩ : ∃ z, z = eqW (qq W top) n (wat l i) (wat r i) f := ⟨_, rfl⟩;have hzl : z.2 ≤ f := by rw [hz]; exact eqW_le _ _ _ _
           have hst2 := ykq (f := eqW (qq W top) n) (k := f) hli hri;rw [← hz] at hst2;refine za rfl (zi en16 rfl ((ihn _ (wat l i) (wat r i) f (d + 1) (by omega) (hlu _ (List.mem_of_getElem? hli)) (hru _ (List.mem_of_getElem? hri)) hf2 (hM1 _ (hE9.step hEx (fun _ h => Or.inl h))) hmk BiX).mono ?_));rintro e w26 ⟨rfl, BR, ER⟩;refine ⟨_, rfl, ?_⟩;rw [← hz] at BR
           have hER := hEx.step ER (fun _ h => Or.inl h);refine mvx rfl (za rfl (zg rfl rfl (za rfl (zg rfl rfl (avx rfl (anx rfl (srx (mvx rfl (za rfl (qa rfl (mvx rfl (zq 25 (.int .i64 z.1.2) rfl ((by rw [hz] : (.int .i64 (eqW (qq W top) n (wat l i) (wat r i) f).1.2 : Value) = _)) ?_))))))))))));by_cases zb : z.1.1 = true
           ·
            refine zq 150 (.bool false) rfl ((by rw [← hz, zb]; rfl : (.bool (!(eqW (qq W top) n (wat l i) (wat r i) f).1.1) : Value) = _)) (onx rfl (zp rfl (onx rfl (qh rfl rfl ?_))));by_cases ze : z.1.2 = 0
            ·
             refine zq 152 (.bool false) rfl ((by rw [ze]; rfl : (.bool (z.1.2 != 0) : Value) = _)) ?_;rw [if_pos ⟨zb, ze⟩] at hst2;refine za rfl (zm rfl rfl (rnx (zw rfl (zt (zx (zj (yq (za rfl (yp rfl rfl (zy (by omega)) (mvx rfl (qz ?_)))))))))))
             exact ve (i + 1, z.2) (by show l.length - (i + 1) < l.length - i; omega) ⟨rfl, rfl, rfl, rfl, rfl, rfl, trivial⟩ (⟨hlt, by omega, BR, hER, hsum.trans hst2⟩)
            ·
             refine zq 152 (.bool true) rfl ((by congr 1; rw [bne_iff_ne]; exact ze : (.bool (z.1.2 != 0) : Value) = _)) ?_;rw [if_neg (fun h => ze h.2)] at hst2
             refine za rfl (zm rfl rfl (rnx (ye rfl (srx (mvx rfl (avx rfl (anx rfl (zo (zr (zh (zh (zr (zh (zn (rs := [.tmp 8, .tmp 9]) (vs := [_, _]) rfl ⟨rfl, rfl, trivial⟩ ?_))))))))))))));exact ⟨by rw [hres, hsum, hst2]; rfl, by rw [hres, hsum, hst2]; exact BR, hE9.step hER (fun _ h => Or.inl h)⟩
           ·
            refine zq 150 (.bool true) rfl ((by rw [← hz, Bool.eq_false_iff.2 zb]; rfl : (.bool (!(eqW (qq W top) n (wat l i) (wat r i) f).1.1) : Value) = _)) ?_;rw [if_neg (fun h => zb h.1)] at hst2
            refine za rfl (zd rfl (za rfl (zd rfl (za rfl (ya rfl rfl (rnx (ye rfl (srx (mvx rfl (avx rfl (anx rfl (zo (zr (zh (zh (zr (zh (zn (rs := [.tmp 8, .tmp 9]) (vs := [_, _]) rfl ⟨rfl, rfl, trivial⟩ ?_))))))))))))))))))
            exact ⟨by rw [hres, hsum, hst2]; rfl, by rw [hres, hsum, hst2]; exact BR, hE9.step hER (fun _ h => Or.inl h)⟩
          ·
           have hc := of_decide_eq_false hc;refine vo (yf (yf (yx (zj (srx (avx rfl (anx rfl (zo (zn (rs := [.tmp 8, .tmp 9]) (vs := [_, _]) rfl ⟨rfl, rfl, trivial⟩ ?_)))))))));exact ⟨by rw [hres, hsum, zjk (by omega)]; rfl, by rw [hres, hsum, zjk (by omega)]; exact Bi, hE9.step hEi (fun _ h => Or.inl h)⟩
         ·
          refine zq 126 (.bool true) rfl ((by congr 1; rw [bne_iff_ne]; omega : (.bool (((l.length : Nat) : Int) != ((r.length : Nat) : Int)) : Value) = _)) (za rfl (zm rfl rfl (rnx (ye rfl (srx (avx rfl (anx rfl (zo (zh (zn (rs := [.tmp 8, .tmp 9]) (vs := [_, _]) rfl ⟨rfl, rfl, trivial⟩ ?_))))))))))
          exact ⟨by rw [hitem, if_pos (Or.inr (Or.inr z3))]; rfl, by rw [hitem, if_pos (Or.inr (Or.inr z3))]; exact B9, hE9⟩
        ·
         refine zq 119 (.bool true) rfl ((by congr 1; rw [bne_iff_ne]; exact z2 : (.bool (e2 != 0) : Value) = _)) (za rfl (zm rfl rfl (mvx rfl (za rfl (zd rfl (za rfl (zd rfl (za rfl (zd rfl (za rfl (zd rfl (za rfl (zd rfl (za rfl (ya rfl rfl (rnx (ye rfl (srx (avx rfl (anx rfl (zo (zh (zn (rs := [.tmp 8, .tmp 9]) (vs := [_, _]) rfl ⟨rfl, rfl, trivial⟩ ?_)))))))))))))))))))))))
         exact ⟨by rw [hitem, if_pos (Or.inr (Or.inl z2))]; rfl, by rw [hitem, if_pos (Or.inr (Or.inl z2))]; exact B9, hE9⟩
       ·
        refine zq 116 (.bool true) rfl ((by congr 1; rw [bne_iff_ne]; exact z1 : (.bool (e1 != 0) : Value) = _)) (mvx rfl (za rfl (zd rfl (za rfl (zd rfl (za rfl (ya rfl rfl (mvx rfl (za rfl (zd rfl (za rfl (zd rfl (za rfl (zd rfl (za rfl (zd rfl (za rfl (zd rfl (za rfl (ya rfl rfl (rnx (ye rfl (srx (avx rfl (anx rfl (zo (zh (zn (rs := [.tmp 8, .tmp 9]) (vs := [_, _]) rfl ⟨rfl, rfl, trivial⟩ ?_))))))))))))))))))))))))))))
        exact ⟨by rw [hitem, if_pos (Or.inl z1)]; rfl, by rw [hitem, if_pos (Or.inl z1)]; exact B9, hE9⟩
      ·
       refine zq 90 (.bool true) rfl ((by congr 1; rw [bne_iff_ne]; omega : (.bool (((lkK W top p : Nat) : Int) != 6) : Value) = _)) (onx rfl (zp rfl (onx rfl (zf Try.underlying67 rfl sz3 (by decide) rfl (onx rfl (zk Try.underlying3 rfl rfl BP rfl (onx rfl (qh rfl rfl ?_))))))));by_cases k5 : lkK W top p = 5
       ·
        refine zq 94 (.bool false) rfl ((by rw [k5]; rfl : (.bool (((lkK W top p : Nat) : Int) != 5) : Value) = _)) ?_;have hitem := eqW_i (o := qq W top) (n := n) h0 hsv hpq (show ¬ (lkK W top p ≠ lkK W top q ∨ (lkK W top p ≠ 6 ∧ lkK W top p ≠ 5)) by omega) hl hr he1 he2
        refine onx rfl (ya rfl rfl (za rfl (zm rfl rfl (rnx (zw rfl (zt (zj (srx (mvx rfl (za rfl (yo rfl (za rfl (zf Try.underlying55 rfl qx (by decide) rfl (za rfl (vr (cs := #[.slice A W.length c, .int .i64 ((top : Nat) : Int)]) Try.underlying24 rfl qx rfl rfl (je @B7) (mvx rfl (za rfl (zi en12 rfl ((ztk _ A W c m top p (hM7 _ (Ext.refl _ _)) hp l hl e1 he1).mono ?_)))))))))))))))))))
        rintro e w27 ⟨⟨C1, d1, rfl, hC1⟩, hb⟩;refine ⟨_, rfl, ?_⟩;have E8 := Ext.of_below hb No;have B8 := B7.ext E8 (fun h => h.elim);obtain ⟨wu8, hwu8⟩ : ∃ z, z = w27 := ⟨_, rfl⟩;subst hwu8
        refine mvx rfl (za rfl (zg rfl rfl (za rfl (zg rfl rfl (avx rfl (anx rfl (srx (mvx rfl (za rfl (yo rfl (za rfl (zf Try.underlying55 rfl qx (by decide) rfl (za rfl (vr (cs := #[.slice A W.length c, .int .i64 ((top : Nat) : Int)]) Try.underlying24 rfl qx rfl rfl (je @B8) (mvx rfl (za rfl (zi en12 rfl ((ztk _ A W c m top q (hM7 _ (E8.noL wu7.heap.size)) hq r hr e2 he2).mono ?_))))))))))))))))))
        rintro e w28 ⟨⟨C2, d2, rfl, hC2⟩, hb⟩;refine ⟨_, rfl, ?_⟩;have E9 := Ext.of_below hb No;have B9 := B8.ext E9 (fun h => h.elim);obtain ⟨wu9, hwu9⟩ : ∃ z, z = w28 := ⟨_, rfl⟩;subst hwu9;have hE9 := (hE7.step E8 (fun _ h => h.elim)).step E9 (fun _ h => h.elim)
        refine mvx rfl (za rfl (zg rfl rfl (za rfl (zg rfl rfl (avx rfl (anx rfl (zl (srx (mvx rfl (za rfl (qh rfl rfl ?_)))))))))));by_cases z1 : e1 = 0
        ·
         refine zq 116 (.bool false) rfl ((by rw [z1]; rfl : (.bool (e1 != 0) : Value) = _)) (mvx rfl (onx rfl (zp rfl (onx rfl (qh rfl rfl ?_)))));by_cases z2 : e2 = 0
         ·
          refine zq 119 (.bool false) rfl ((by rw [z2]; rfl : (.bool (e2 != 0) : Value) = _)) (za rfl (zm rfl rfl (mvx rfl (onx rfl (zp rfl (onx rfl (qe Try.underlying22 rfl (onx rfl (zp rfl (onx rfl (qe Try.underlying22 rfl (onx rfl (qh rfl rfl ?_)))))))))))));by_cases z3 : l.length = r.length
          ·
           refine zq 126 (.bool false) rfl ((by rw [z3, bne_self_eq_false] : (.bool (((l.length : Nat) : Int) != ((r.length : Nat) : Int)) : Value) = _)) ?_;obtain ⟨gl, rfl, Bl0, Gl⟩ := hC1 z1;obtain ⟨gr, rfl, Br, Gr⟩ := hC2 z2;have Bl := Bl0.ext E9 (fun h => h.elim);have hlu : ∀ y ∈ l, U64 y := by rw [hl]; exact xg hW
           have hru : ∀ y ∈ r, U64 y := by rw [hr]; exact xg hW
           have hs8 := E8.size;have hglk : gk < gl := by have := B7.lt; omega
           have hgrk : gk < gr := by have := B8.lt; omega
           have hll : l.length ≤ 1048576 := by rw [hl]; exact zqk hM.most
           have hres : eqW (qq W top) (n + 1) p q left = eqL (eqW (qq W top) n) l r (left - 1) := by
            rw [hitem, if_neg (fun h => by rcases h with h | h | h <;> contradiction)]
           refine za rfl (zm rfl rfl (rnx (zw rfl (zt (zj (zl (srx (mvx rfl (za rfl (qe Try.underlying22 rfl (mvx rfl (rnx (yh (jd (ι := Nat × Nat) (fun (i, f) => [(0, .pointer (some ⟨gk, 0, none⟩)), (3, .int .i64 ((d : Nat) : Int)), (21, .slice (some ⟨gl, 0, none⟩) l.length d1), (22, .slice (some ⟨gr, 0, none⟩) r.length d2), (129, .int .i64 ((l.length : Nat) : Int)), (130, .int .i64 ((i : Nat) : Int))]) (fun (i, f) w' => i ≤ l.length ∧ f ≤ 20000 ∧ Blk w' gk 55 (wkC A W c top f) ∧ Ext (Mut [some gk]) wu9 w' ∧ eqL (eqW (qq W top) n) l r (left - 1) = eqL (eqW (qq W top) n) (l.drop i) (r.drop i) f) (fun (i, _) => l.length - i) (0, left - 1) ⟨rfl, rfl, rfl, rfl, rfl, rfl, trivial⟩ (⟨Nat.zero_le _, by omega, B9, Ext.refl _ _, rfl⟩) ?_))))))))))))))
           rintro ⟨i, f⟩ w30 ⟨hi0, hf2, Bi, hEi, hsum⟩;refine srx (za rfl (qo rfl rfl (rnx (zl (yv rfl (fun hc => ?_) (fun hc => ?_))))))
           ·
            have hc := of_decide_eq_true hc;have hlt : i < l.length := by omega
            have hli : l[i]? = some (wat l i) := kz hlt;have hri : r[i]? = some (wat r i) := kz (by omega);have Bli := Bl.ext hEi (fun h => by have := qd h; omega);have Bri := Br.ext hEi (fun h => by have := qd h; omega);refine zt (zj (zl (yh (srx (mvx rfl (anx rfl (zl (zbz vu (zbv 11 rfl ?_)))))))))
            refine zwk (No) Mut.none_ [] [] (gg [Fx.of (.pointer (some ⟨gk, 0, none⟩)),
             Fx.of (.slice (some ⟨gl, 0, none⟩) l.length d1),
             Fx.of (.int .i64 ((i : Nat) : Int)),
             Fx.of (.pointer (some ⟨gl, 0 + i, none⟩)),
             Fx.of (.int .u64 ((wat l i : Nat) : Int)),
             Fx.of (.slice (some ⟨gr, 0, none⟩) r.length d2),
             Fx.of (.int .i64 ((i : Nat) : Int)),
             Fx.of (.pointer (some ⟨gr, 0 + i, none⟩)),
             Fx.of (.int .u64 ((wat r i : Nat) : Int)),
             Fx.of (.int .i64 ((d : Nat) : Int)),
             Fx.of (.int .i64 ((d + 1 : Nat) : Int))]) rfl trivial (fun _ h => by cases h) ?_ ?_
            · refine ⟨?_, ?_, ?_, ?_, ?_, ?_, ?_, ?_, ?_, ?_, ?_, trivial⟩
              · intro vs X wq K;exact zp rfl ⟨Below.refl _ _, Left.of rfl⟩
              · intro vs X wq K;exact zp rfl ⟨Below.refl _ _, Left.of rfl⟩
              · intro vs X wq K;exact zp rfl ⟨Below.refl _ _, Left.of rfl⟩
              · intro vs X wq K;obtain ⟨_, e1, k1⟩ := K.dep 1 rfl rfl rfl;refine zc 135 (.slice (some ⟨gl, 0, none⟩) l.length d1) rfl e1 ?_;obtain ⟨_, e2, k2⟩ := K.dep 2 rfl rfl rfl;refine zc 136 (.int .i64 ((i : Nat) : Int)) rfl e2 ?_;exact yc (j := i) Try.underlying22 vc rfl rfl rfl hlt ⟨Below.refl _ _, Left.of rfl⟩
              · intro vs X wq K;have LE := K.1;obtain ⟨_, e3, k3⟩ := K.dep 3 rfl rfl rfl;refine zc 137 (.pointer (some ⟨gl, 0 + i, none⟩)) rfl e3 ?_;exact zk Try.underlying25 rfl rfl (qj LE Bli) (by rw [Nat.zero_add]; exact kh hli) ⟨Below.refl _ _, Left.of rfl⟩
              · intro vs X wq K;exact zp rfl ⟨Below.refl _ _, Left.of rfl⟩
              · intro vs X wq K;exact zp rfl ⟨Below.refl _ _, Left.of rfl⟩
              · intro vs X wq K;obtain ⟨_, e5, k5⟩ := K.dep 5 rfl rfl rfl;refine zc 139 (.slice (some ⟨gr, 0, none⟩) r.length d2) rfl e5 ?_;obtain ⟨_, e6, k6⟩ := K.dep 6 rfl rfl rfl;refine zc 140 (.int .i64 ((i : Nat) : Int)) rfl e6 ?_;exact yc (j := i) Try.underlying22 vc rfl rfl rfl (by omega) ⟨Below.refl _ _, Left.of rfl⟩
              · intro vs X wq K;have LE := K.1;obtain ⟨_, e7, k7⟩ := K.dep 7 rfl rfl rfl;refine zc 141 (.pointer (some ⟨gr, 0 + i, none⟩)) rfl e7 ?_;exact zk Try.underlying25 rfl rfl (qj LE Bri) (by rw [Nat.zero_add]; exact kh hri) ⟨Below.refl _ _, Left.of rfl⟩
              · intro vs X wq K;exact zp rfl ⟨Below.refl _ _, Left.of rfl⟩
              · intro vs X wq K;obtain ⟨_, e9, k9⟩ := K.dep 9 rfl rfl rfl;refine zc 143 (.int .i64 ((d : Nat) : Int)) rfl e9 ?_;exact yp rfl rfl (zy (by omega)) ⟨Below.refl _ _, Left.of ((by first | rfl | (congr 1; omega) : (.int .i64 (((d : Nat) : Int) + 1) : Value) = _))⟩
            intro vs w31 LE AO AL AF AA;have hbd : Below (w30).heap.size (w30) w31 := (((Ext.refl No (w30)).drew).trans LE).toBelow;obtain ⟨_, e0, k0⟩ := AL.1;obtain ⟨_, e4, k4⟩ := AL.2.2.2.2.1;obtain ⟨_, e8, k8⟩ := AL.2.2.2.2.2.2.2.2.1;obtain ⟨_, e10, k10⟩ := AL.2.2.2.2.2.2.2.2.2.2.1
            refine qy (τ := [(0, _), (3, _), (21, _), (22, _), (129, _), (130, _), (134, .pointer (some ⟨gk, 0, none⟩)), (138, .int .u64 ((wat l i : Nat) : Int)), (142, .int .u64 ((wat r i : Nat) : Int)), (144, .int .i64 ((d + 1 : Nat) : Int))]) ⟨rfl, rfl, rfl, rfl, rfl, rfl, congrArg some e0, congrArg some e4, congrArg some e8, congrArg some e10, trivial⟩ ?_;clear AL AF AA AO
            refine znq (kq (by kernel_rfl) (fun _ _ d_ _ _ h => by cases d_ <;> exact h) ?_);have EX := Ext.of_below hbd No;have hEx := hEi.step EX (fun _ h => h.elim);have BiX := Bi.ext EX (fun h => h.elim);obtain ⟨z, hz⟩ : ∃ z, z = eqW (qq W top) n (wat l i) (wat r i) f := ⟨_, rfl⟩;have hzl : z.2 ≤ f := by rw [hz]; exact eqW_le _ _ _ _
            have hst2 := ykq (f := eqW (qq W top) n) (k := f) hli hri;rw [← hz] at hst2;refine za rfl (zi en16 rfl ((ihn _ (wat l i) (wat r i) f (d + 1) (by omega) (hlu _ (List.mem_of_getElem? hli)) (hru _ (List.mem_of_getElem? hri)) hf2 (hM1 _ (hE9.step hEx (fun _ h => Or.inl h))) hmk BiX).mono ?_));rintro e w32 ⟨rfl, BR, ER⟩;refine ⟨_, rfl, ?_⟩;rw [← hz] at BR
            have hER := hEx.step ER (fun _ h => Or.inl h);refine mvx rfl (za rfl (zg rfl rfl (za rfl (zg rfl rfl (avx rfl (anx rfl (srx (mvx rfl (za rfl (qa rfl (mvx rfl (zq 25 (.int .i64 z.1.2) rfl ((by rw [hz] : (.int .i64 (eqW (qq W top) n (wat l i) (wat r i) f).1.2 : Value) = _)) ?_))))))))))));by_cases zb : z.1.1 = true
            ·
             refine zq 150 (.bool false) rfl ((by rw [← hz, zb]; rfl : (.bool (!(eqW (qq W top) n (wat l i) (wat r i) f).1.1) : Value) = _)) (onx rfl (zp rfl (onx rfl (qh rfl rfl ?_))));by_cases ze : z.1.2 = 0
             ·
              refine zq 152 (.bool false) rfl ((by rw [ze]; rfl : (.bool (z.1.2 != 0) : Value) = _)) ?_;rw [if_pos ⟨zb, ze⟩] at hst2;refine za rfl (zm rfl rfl (rnx (zw rfl (zt (zx (zj (yq (za rfl (yp rfl rfl (zy (by omega)) (mvx rfl (qz ?_)))))))))))
              exact ve (i + 1, z.2) (by show l.length - (i + 1) < l.length - i; omega) ⟨rfl, rfl, rfl, rfl, rfl, rfl, trivial⟩ (⟨hlt, by omega, BR, hER, hsum.trans hst2⟩)
             ·
              refine zq 152 (.bool true) rfl ((by congr 1; rw [bne_iff_ne]; exact ze : (.bool (z.1.2 != 0) : Value) = _)) ?_;rw [if_neg (fun h => ze h.2)] at hst2
              refine za rfl (zm rfl rfl (rnx (ye rfl (srx (mvx rfl (avx rfl (anx rfl (zo (zr (zh (zh (zr (zh (zn (rs := [.tmp 8, .tmp 9]) (vs := [_, _]) rfl ⟨rfl, rfl, trivial⟩ ?_))))))))))))));exact ⟨by rw [hres, hsum, hst2]; rfl, by rw [hres, hsum, hst2]; exact BR, hE9.step hER (fun _ h => Or.inl h)⟩
            ·
             refine zq 150 (.bool true) rfl ((by rw [← hz, Bool.eq_false_iff.2 zb]; rfl : (.bool (!(eqW (qq W top) n (wat l i) (wat r i) f).1.1) : Value) = _)) ?_;rw [if_neg (fun h => zb h.1)] at hst2
             refine za rfl (zd rfl (za rfl (zd rfl (za rfl (ya rfl rfl (rnx (ye rfl (srx (mvx rfl (avx rfl (anx rfl (zo (zr (zh (zh (zr (zh (zn (rs := [.tmp 8, .tmp 9]) (vs := [_, _]) rfl ⟨rfl, rfl, trivial⟩ ?_))))))))))))))))))
             exact ⟨by rw [hres, hsum, hst2]; rfl, by rw [hres, hsum, hst2]; exact BR, hE9.step hER (fun _ h => Or.inl h)⟩
           ·
            have hc := of_decide_eq_false hc;refine vo (yf (yf (yx (zj (srx (avx rfl (anx rfl (zo (zn (rs := [.tmp 8, .tmp 9]) (vs := [_, _]) rfl ⟨rfl, rfl, trivial⟩ ?_)))))))));exact ⟨by rw [hres, hsum, zjk (by omega)]; rfl, by rw [hres, hsum, zjk (by omega)]; exact Bi, hE9.step hEi (fun _ h => Or.inl h)⟩
          ·
           refine zq 126 (.bool true) rfl ((by congr 1; rw [bne_iff_ne]; omega : (.bool (((l.length : Nat) : Int) != ((r.length : Nat) : Int)) : Value) = _)) (za rfl (zm rfl rfl (rnx (ye rfl (srx (avx rfl (anx rfl (zo (zh (zn (rs := [.tmp 8, .tmp 9]) (vs := [_, _]) rfl ⟨rfl, rfl, trivial⟩ ?_))))))))))
           exact ⟨by rw [hitem, if_pos (Or.inr (Or.inr z3))]; rfl, by rw [hitem, if_pos (Or.inr (Or.inr z3))]; exact B9, hE9⟩
         ·
          refine zq 119 (.bool true) rfl ((by congr 1; rw [bne_iff_ne]; exact z2 : (.bool (e2 != 0) : Value) = _)) (za rfl (zm rfl rfl (mvx rfl (za rfl (zd rfl (za rfl (zd rfl (za rfl (zd rfl (za rfl (zd rfl (za rfl (zd rfl (za rfl (ya rfl rfl (rnx (ye rfl (srx (avx rfl (anx rfl (zo (zh (zn (rs := [.tmp 8, .tmp 9]) (vs := [_, _]) rfl ⟨rfl, rfl, trivial⟩ ?_)))))))))))))))))))))))
          exact ⟨by rw [hitem, if_pos (Or.inr (Or.inl z2))]; rfl, by rw [hitem, if_pos (Or.inr (Or.inl z2))]; exact B9, hE9⟩
        ·
         refine zq 116 (.bool true) rfl ((by congr 1; rw [bne_iff_ne]; exact z1 : (.bool (e1 != 0) : Value) = _)) (mvx rfl (za rfl (zd rfl (za rfl (zd rfl (za rfl (ya rfl rfl (mvx rfl (za rfl (zd rfl (za rfl (zd rfl (za rfl (zd rfl (za rfl (zd rfl (za rfl (zd rfl (za rfl (ya rfl rfl (rnx (ye rfl (srx (avx rfl (anx rfl (zo (zh (zn (rs := [.tmp 8, .tmp 9]) (vs := [_, _]) rfl ⟨rfl, rfl, trivial⟩ ?_))))))))))))))))))))))))))))
         exact ⟨by rw [hitem, if_pos (Or.inl z1)]; rfl, by rw [hitem, if_pos (Or.inl z1)]; exact B9, hE9⟩
       ·
        refine zq 94 (.bool true) rfl ((by congr 1; rw [bne_iff_ne]; omega : (.bool (((lkK W top p : Nat) : Int) != 5) : Value) = _)) ?_;have hkk : eqW (qq W top) (n + 1) p q left = ((false, 0), left - 1) := by
         rw [ykz h0 hsv, if_neg hpq, if_pos (show (qq W top).K p ≠ (qq W top).K q ∨ ((qq W top).K p ≠ 6 ∧ (qq W top).K p ≠ 5) from Or.inr ⟨k6, k5⟩)]
        refine onx rfl (ya rfl rfl (za rfl (zm rfl rfl (rnx (ye rfl (srx (avx rfl (anx rfl (zo (zh (zn (rs := [.tmp 8, .tmp 9]) (vs := [_, _]) rfl ⟨rfl, rfl, trivial⟩ ?_)))))))))));exact ⟨by rw [hkk]; rfl, by rw [hkk]; exact B7, hE7⟩
     ·
      refine zq 86 (.bool true) rfl ((by congr 1; rw [bne_iff_ne]; omega : (.bool (((lkK W top p : Nat) : Int) != ((lkK W top q : Nat) : Int)) : Value) = _)) ?_;have hkk : eqW (qq W top) (n + 1) p q left = ((false, 0), left - 1) := by
       rw [ykz h0 hsv, if_neg hpq, if_pos (show (qq W top).K p ≠ (qq W top).K q ∨ ((qq W top).K p ≠ 6 ∧ (qq W top).K p ≠ 5) from Or.inl hK)]
      refine mvx rfl (za rfl (zd rfl (za rfl (zd rfl (za rfl (zd rfl (za rfl (zd rfl (za rfl (ot rfl rfl (za rfl (ot rfl rfl (za rfl (ot rfl rfl (za rfl (zd rfl (za rfl (ya rfl rfl (rnx (ye rfl (srx (avx rfl (anx rfl (zo (zh (zn (rs := [.tmp 8, .tmp 9]) (vs := [_, _]) rfl ⟨rfl, rfl, trivial⟩ ?_))))))))))))))))))))))))))
      exact ⟨by rw [hkk]; rfl, by rw [hkk]; exact B7, hE7⟩
theorem oeq_any (gk m : Nat) (A : Option Addr) (W : List Nat) (c top : Nat) : ∀ n, EqAt gk m A W c top n
 | 0 => oeq_step gk m A W c top 0 (fun k h => by omega)
 | n + 1 => oeq_step gk m A W c top (n + 1) (fun k h => by
  obtain rfl : k = n := by omega
  exact oeq_any gk m A W c top k)
end Go.Proofs.Ytebjkmjfcijebaa
namespace Go.Proofs.Ytebjkmjfcijebaa
open Go.RowKit
set_option maxRecDepth 100000
attribute [local irreducible] OW RS
def RetHs (gk : Nat) (A : Option Addr) (W : List Nat) (c top : Nat) (w : World) (r : (Int × Int) × Nat) (e : Ending) (w' : World) : Prop := e = .returned (.tuple #[.int .i64 r.1.1, .int .i64 r.1.2]) ∧ Blk w' gk 55 (wkC A W c top r.2) ∧ Ext (Mut [some gk]) w w'
def HsAt (gk m : Nat) (A : Option Addr) (W : List Nat) (c top n : Nat) : Prop := ∀ (w : World) (p left d : Nat), d + n = 41 → U64 p → left ≤ 20000 → MemA m w A W top → m ≤ gk → Blk w gk 55 (wkC A W c top left) → Calls Try.prog 17 #[.pointer (some ⟨gk, 0, none⟩), .int .u64 ((p : Nat) : Int), .int .i64 ((d : Nat) : Int)] w (RetHs gk A W c top w (hsW (qq W top) n p left))
theorem numO_none {W : List Nat} {top x : Nat} {o : Option PV} {d v : PV} (_ : v = o.getD d) (h : ¬ o.isSome = true) : o = none := by
 cases o with
 | none => rfl
 | some x => exact absurd rfl h
set_option maxHeartbeats 2000000 in
theorem ohs_step (gk m : Nat) (A : Option Addr) (W : List Nat) (c top n : Nat) (ih : ∀ k, n = k + 1 → HsAt gk m A W c top k) : HsAt gk m A W c top n := by
 intro w p left d hdn hp hl2 hM hmk hk;have hW := hM.words.in_;have hWm := hM.most;obtain ⟨u, hu⟩ : ∃ u, u = (jp W top p).getD vNil := ⟨_, rfl⟩;obtain ⟨eu, heu⟩ : ∃ eu : Int, eu = if (jp W top p).isSome then 0 else 9 := ⟨_, rfl⟩
 have ub := ynq (top := top) (x := p) hW;have ul := (zyz W top p).2;rw [← hu] at ub ul;have hM1 : ∀ z, Ext (Mut [some gk]) w z → MemA m z A W top := fun z hz => hM.low ⟨hz, fun q hq => by have := qd hq; omega⟩
 refine yb Try.func17 rfl Try.ntmps17 rfl (srx (avx rfl (anx rfl (zl (srx (mvx rfl (mvx rfl (za rfl (zi en34 rfl ((ostep_any _ gk A W c top left d hk hl2 (by omega)).mono ?_))))))))));rintro e w1 ⟨rfl, Bk, ES⟩;refine ⟨_, rfl, (anx rfl (srx (mvx rfl (za rfl (qh rfl rfl (rnx ?_))))))⟩;by_cases h0 : left = 0
 ·
  have hst : stE left d = 12 := if_pos h0;refine yd 22 (.bool true) rfl ((by rw [hst]; rfl : (.bool ((stE left d) != 0) : Value) = _)) (ye rfl (srx (mvx rfl (avx rfl (anx rfl (zo (zh (zn (rs := [.tmp 6, .tmp 7]) (vs := [_, _]) rfl ⟨rfl, rfl, trivial⟩ ?_))))))));exact ⟨by rw [hst, h0, hsW_0]; rfl, by rw [h0, hsW_0]; rw [h0] at Bk; exact Bk, ES⟩
 ·
  by_cases h4 : 40 < d
  ·
   have hst : stE left d = 11 := by unfold stE; rw [if_neg h0, if_pos h4]
   have hn0 : n = 0 := by omega
   refine yd 22 (.bool true) rfl ((by rw [hst]; rfl : (.bool ((stE left d) != 0) : Value) = _)) (ye rfl (srx (mvx rfl (avx rfl (anx rfl (zo (zh (zn (rs := [.tmp 6, .tmp 7]) (vs := [_, _]) rfl ⟨rfl, rfl, trivial⟩ ?_))))))));exact ⟨by rw [hst, hn0, hsW_d h0]; rfl, by rw [hn0, hsW_d h0]; exact Bk, ES⟩
  ·
   have hst : stE left d = 0 := by unfold stE; rw [if_neg h0, if_neg h4]
   obtain ⟨n, rfl⟩ : ∃ n', n = n' + 1 := ⟨n - 1, by omega⟩;have ihn := ih n rfl
   refine yd 22 (.bool false) rfl ((by rw [hst]; rfl : (.bool ((stE left d) != 0) : Value) = _)) (zw rfl (zt (zj (zl (srx (mvx rfl (za rfl (yo rfl (za rfl (zf Try.underlying55 rfl qx (by decide) rfl (za rfl (vr (cs := #[.slice A W.length c, .int .i64 ((top : Nat) : Int)]) Try.underlying24 rfl qx rfl rfl (je @Bk) (mvx rfl (za rfl (zi en35 rfl ((otk_v _ A W c m top p (hM1 _ ES) hp u hu eu heu).mono ?_))))))))))))))))
   rintro e w2 ⟨⟨A1, c1, rfl, hx1⟩, hb⟩;refine ⟨_, rfl, ?_⟩;have E2 := Ext.of_below hb No;have B2 := Bk.ext E2 (fun h => h.elim);have hE2 := ES.step E2 (fun _ h => h.elim);obtain ⟨wu2, hwu2⟩ : ∃ z, z = w2 := ⟨_, rfl⟩;subst hwu2;have hs2 := hE2.size;refine mvx rfl (za rfl (zg rfl rfl (za rfl (zg rfl rfl (za rfl (ym og ?_))))));rintro g9 wA BA0 E3 GA
   refine yn (yi vi rfl rfl BA0 rfl rfl rfl ?_);rintro wB BA E4;have F4 : Ext (fun q => wu2.heap.size ≤ q) wu2 wB := (E3.noL wu2.heap.size).step E4 (fun q hq => Or.inl (show wu2.heap.size ≤ q by have := qd hq; omega));have hE4 := hE2.step F4 (fun q hq => Or.inr (Nat.le_trans hs2 hq));have B4 := B2.ext F4 (fun h => by have h : wu2.heap.size ≤ gk := h; have := B2.lt; omega)
   have hx1D := nums_ext hx1 F4 (fun q hq => hq);refine anx rfl (srx (mvx rfl (za rfl (yl rfl rfl (rnx ?_)))));by_cases su : (jp W top p).isSome = true
   ·
    have zu : eu = 0 := by rw [heu, if_pos su]
    have tu := some_of hu su;refine yd 34 (.bool true) rfl ((by rw [zu]; rfl : (.bool (eu == 0) : Value) = _)) (ye rfl (srx (za rfl (zz Try.underlying43 rfl vi rfl BA rfl (za rfl (zi en37 rfl ((pl_hash _ u A1 none c1 0 hx1D (by omega) ub).mono ?_)))))));rintro e w3 ⟨rfl, hb⟩;refine ⟨_, rfl, ?_⟩;have E8 := Ext.of_below hb No
    refine avx rfl (anx rfl (zo (zh (zn (rs := [.tmp 6, .tmp 7]) (vs := [_, _]) rfl ⟨rfl, rfl, trivial⟩ ?_))));exact ⟨by rw [hsW_v h0 tu]; rfl, by rw [hsW_v h0 tu]; exact B4.ext E8 (fun h => h.elim), hE4.step E8 (fun _ h => h.elim)⟩
   ·
    have zu : eu = 9 := by rw [heu, if_neg su]
    have tn : (qq W top).T p = none := numO_none (W := W) (top := top) (x := p) hu su
    refine yd 34 (.bool false) rfl ((by rw [zu]; rfl : (.bool (eu == 0) : Value) = _)) (zw rfl (zt (zj (srx (mvx rfl (za rfl (yo rfl (za rfl (zf Try.underlying55 rfl qx (by decide) rfl (za rfl (vr (cs := #[.slice A W.length c, .int .i64 ((top : Nat) : Int)]) Try.underlying24 rfl qx rfl rfl (je @B4) (mvx rfl (za rfl (zi ycx rfl ((kb _ A W c m top p (hM1 _ hE4) hp).mono ?_)))))))))))))))
    rintro e w4 ⟨rfl, hb⟩;refine ⟨_, rfl, ?_⟩;have EG := Ext.of_below hb No;have BkG := B4.ext EG (fun h => h.elim);have hEG := hE4.step EG (fun _ h => h.elim);obtain ⟨wuG, hwuG⟩ : ∃ z, z = w4 := ⟨_, rfl⟩;subst hwuG;have hsG := hEG.size;refine mvx rfl (za rfl (zg rfl rfl (za rfl (zg rfl rfl (za rfl (zg rfl rfl (za rfl (ym xw ?_))))))))
    rintro g12 wH BH0 EH GH;refine avx rfl (yn (yi xe rfl rfl BH0 rfl rfl rfl ?_));rintro wI BH EI;have FI : Ext (fun q => wuG.heap.size ≤ q) wuG wI := (EH.noL wuG.heap.size).step EI (fun q hq => Or.inl (show wuG.heap.size ≤ q by have := qd hq; omega));have hE7 := hEG.step FI (fun q hq => Or.inr (Nat.le_trans hsG hq))
    have B7 := BkG.ext FI (fun h => by have h : wuG.heap.size ≤ gk := h; have := BkG.lt; omega);have BP : Blk wI g12 67 #[.int .i64 ((lkK W top p : Nat) : Int), .int .i64 ((lkT W top p : Nat) : Int), .int .i64 ((lkR W top p : Nat) : Int)] := BH;have hgk12 : gk < g12 := by have := BkG.lt; omega
    obtain ⟨wu7, hwu7⟩ : ∃ z, z = wI := ⟨_, rfl⟩;subst hwu7;have hM7 := hM1 _ hE7;refine anx rfl (zl (srx (za rfl (zf Try.underlying67 rfl sz3 (by decide) rfl (za rfl (zk Try.underlying3 rfl rfl BP rfl (rnx (yh (srx (za rfl (yl rfl rfl (anx rfl ?_))))))))))));by_cases k6 : lkK W top p = 6
    ·
     refine yd 49 (.bool true) rfl ((by rw [k6]; rfl : (.bool (((lkK W top p : Nat) : Int) == 6) : Value) = _)) ?_;have hB : lkB W top p = true := by
      cases hb2 : lkB W top p
      · have h9 : lkK W top p = 0 := by unfold lkK; rw [hb2]; rfl
        omega
      · rfl
     obtain ⟨hk0, hS⟩ := zuk hB;obtain ⟨t, ht⟩ : ∃ t, t = lkT W top p := ⟨_, rfl⟩;have htl : t ≤ 1048576 := by rw [ht]; exact lkT_le hWm
     have hll : (vd W (p / 4) t).length = t := zaz _ _ _;have hres : hsW (qq W top) (n + 1) p left = hsL (hsW (qq W top) n) (vd W (p / 4) t) ((t : Nat) : Int) (left - 1) := by
      rw [hsW_r h0 tn, if_pos (show (qq W top).K p = 6 from k6)];show hsL _ (vd W (p / 4) (lkT W top p)) (((vd W (p / 4) (lkT W top p)).length : Nat) : Int) _ = _
      rw [← ht, hll]
     refine ye rfl (srx (za rfl (zf Try.underlying67 rfl sz3 (by decide) rfl (zq 11 (.int .i64 ((p / 4 : Nat) : Int)) rfl ((by rw [yjv hk0] : (.int .i64 ((lkA p : Nat) : Int) : Value) = _)) (za rfl (zk Try.underlying3 rfl rfl BP rfl (anx rfl (zl (srx (za rfl (zf Try.underlying67 rfl sz3 (by decide) rfl (zq 14 (.int .i64 ((t : Nat) : Int)) rfl ((by rw [ht] : (.int .i64 ((lkT W top p : Nat) : Int) : Value) = _)) (za rfl (zk Try.underlying3 rfl rfl BP rfl (zq 54 (.int .i64 ((t : Nat) : Int)) rfl ((by rw [ht] : (.int .i64 ((lkT W top p : Nat) : Int) : Value) = _)) (mvx rfl (rnx (yh (jd (ι := Nat × Int × Nat) (fun (i, h, f) => [(0, .pointer (some ⟨gk, 0, none⟩)), (2, .int .i64 ((d : Nat) : Int)), (11, .int .i64 ((p / 4 : Nat) : Int)), (14, .int .i64 h), (54, .int .i64 ((t : Nat) : Int)), (55, .int .i64 ((i : Nat) : Int))]) (fun (i, h, f) w' => i ≤ t ∧ f ≤ 20000 ∧ (0 ≤ h ∧ h < 2147483647) ∧ Blk w' gk 55 (wkC A W c top f) ∧ Ext (Mut [some gk]) wu7 w' ∧ hsL (hsW (qq W top) n) (vd W (p / 4) t) ((t : Nat) : Int) (left - 1) = hsL (hsW (qq W top) n) ((vd W (p / 4) t).drop i) h f) (fun (i, _) => t - i) (0, ((t : Nat) : Int), left - 1) ⟨rfl, rfl, rfl, rfl, rfl, rfl, trivial⟩ (⟨Nat.zero_le _, by omega, by omega, B7, Ext.refl _ _, rfl⟩) ?_)))))))))))))))))))
     rintro ⟨i, h, f⟩ w6 ⟨hi0, hf2, hh, Bi, hEi, hsum⟩;have hEiw := hE7.step hEi (fun _ h => Or.inl h);refine srx (za rfl (qo rfl rfl (rnx (zl (yv rfl (fun hc => ?_) (fun hc => ?_))))))
     ·
      have hc := of_decide_eq_true hc;have hlt : i < t := by omega
      have hli := ymv (W := W) (a := p / 4) hlt;obtain ⟨z, hz⟩ : ∃ z, z = hsW (qq W top) n (jh W (p / 4) i) f := ⟨_, rfl⟩;have hzl : z.2 ≤ f := by rw [hz]; exact hsW_le _ _ _
      have hst2 := hsL_step (f := hsW (qq W top) n) (k := f) (m := h) hli;rw [← hz] at hst2
      refine zt (zj (zl (yh (srx (mvx rfl (anx rfl (srx (mvx rfl (mvx rfl (za rfl (yo rfl (za rfl (zf Try.underlying55 rfl qx (by decide) rfl (za rfl (vr (cs := #[.slice A W.length c, .int .i64 ((top : Nat) : Int)]) Try.underlying24 rfl qx rfl rfl (je @Bi) (mvx rfl (mvx rfl (za rfl (zi en29 rfl ((zhk _ A W c m top (p / 4) i (hM1 _ hEiw) hS).mono ?_))))))))))))))))))))
      rintro e w7 ⟨rfl, hb⟩;refine ⟨_, rfl, ?_⟩;have EX := Ext.of_below hb No;have BX := Bi.ext EX (fun h => h.elim);have hEx := hEi.step EX (fun _ h => h.elim)
      refine mvx rfl (za rfl (yp rfl rfl (zy (by omega)) (zq 68 (.int .i64 ((d + 1 : Nat) : Int)) rfl ((by first | rfl | (congr 1; omega) : (.int .i64 (((d : Nat) : Int) + 1) : Value) = _)) (za rfl (zi en17 rfl ((ihn _ (jh W (p / 4) i) f (d + 1) (by omega) (zvq hW _ _) hf2 (hM1 _ (hE7.step hEx (fun _ h => Or.inl h))) hmk BX).mono ?_))))))
      rintro e w8 ⟨rfl, BR, ER⟩;refine ⟨_, rfl, ?_⟩;rw [← hz] at BR;have hER := hEx.step ER (fun _ h => Or.inl h)
      refine mvx rfl (za rfl (zg rfl rfl (za rfl (zg rfl rfl (avx rfl (anx rfl (zl (srx (mvx rfl (za rfl (qh rfl rfl (rnx (yd 16 (.int .i64 z.1.1) rfl ((by rw [hz] : (.int .i64 (hsW (qq W top) n (jh W (p / 4) i) f).1.1 : Value) = _)) (yd 17 (.int .i64 z.1.2) rfl ((by rw [hz] : (.int .i64 (hsW (qq W top) n (jh W (p / 4) i) f).1.2 : Value) = _)) ?_))))))))))))))
      by_cases ze : z.1.2 = 0
      ·
       refine yd 73 (.bool false) rfl ((by rw [← hz, ze]; rfl : (.bool ((hsW (qq W top) n (jh W (p / 4) i) f).1.2 != 0) : Value) = _)) ?_;rw [if_pos ze] at hst2;obtain ⟨t1, ht1⟩ : ∃ t1, t1 = z.1.1.tmod 2147483647 := ⟨_, rfl⟩;have b1 := Int.tmod_lt_of_pos z.1.1 (show (0 : Int) < 2147483647 by decide);have b2 := Int.lt_tmod_of_pos z.1.1 (show (0 : Int) < 2147483647 by decide)
       rw [← ht1] at b1 b2;obtain ⟨t2, ht2⟩ : ∃ t2, t2 = (t1 + 2147483647).tmod 2147483647 := ⟨_, rfl⟩;have b3 := Int.tmod_lt_of_pos (t1 + 2147483647) (show (0 : Int) < 2147483647 by decide);have b4 : 0 ≤ (t1 + 2147483647).tmod 2147483647 := Int.tmod_nonneg _ (by omega);rw [← ht2] at b3 b4;have hmx : (31 * h + t2 + 1).tmod 2147483647 = mixH h z.1.1 := by unfold mixH; rw [ht2, ht1]
       have hmi := mixH_in (h := h) (x := z.1.1) hh.1
       refine zw rfl (zt (zj (yq (mvx rfl (za rfl (jf rfl rfl (show IntKind.i64.wrap (31 * h) = 31 * h from zy (by omega)) (mvx rfl (za rfl (gh rfl rfl (by decide) (show z.1.1.tmod 2147483647 = t1 from ht1.symm) (za rfl (yp rfl rfl (show IntKind.i64.wrap (t1 + 2147483647) = t1 + 2147483647 from zy (by omega)) (za rfl (gh rfl rfl (by decide) (show (t1 + 2147483647).tmod 2147483647 = t2 from ht2.symm) (za rfl (yp rfl rfl (show IntKind.i64.wrap (31 * h + t2) = 31 * h + t2 from zy (by omega)) (za rfl (yp rfl rfl (show IntKind.i64.wrap (31 * h + t2 + 1) = 31 * h + t2 + 1 from zy (by omega)) (za rfl (gh rfl rfl (by decide) (show (31 * h + t2 + 1).tmod 2147483647 = mixH h z.1.1 from hmx) (avx rfl (qz (zx (zj (yq (za rfl (yp rfl rfl (zy (by omega)) (mvx rfl (qz ?_))))))))))))))))))))))))))))
       exact ve (i + 1, mixH h z.1.1, z.2) (by show t - (i + 1) < t - i; omega) ⟨rfl, rfl, rfl, rfl, rfl, rfl, trivial⟩ (⟨hlt, by omega, hmi, BR, hER, hsum.trans hst2⟩)
      ·
       refine yd 73 (.bool true) rfl ((by congr 1; rw [bne_iff_ne, ← hz]; exact ze : (.bool ((hsW (qq W top) n (jh W (p / 4) i) f).1.2 != 0) : Value) = _)) ?_;rw [if_neg ze] at hst2
       refine ye rfl (srx (mvx rfl (avx rfl (anx rfl (zo (zh (zr (zh (zh (zr (zh (zr (zh (zn (rs := [.tmp 6, .tmp 7]) (vs := [_, _]) rfl ⟨rfl, rfl, trivial⟩ ?_))))))))))))));exact ⟨by rw [hres, hsum, hst2]; rfl, by rw [hres, hsum, hst2]; exact BR, hE7.step hER (fun _ h => Or.inl h)⟩
     ·
      have hc := of_decide_eq_false hc;refine vo (yf (yf (yx (zj (srx (mvx rfl (avx rfl (anx rfl (zo (zr (zh (zn (rs := [.tmp 6, .tmp 7]) (vs := [_, _]) rfl ⟨rfl, rfl, trivial⟩ ?_))))))))))));exact ⟨by rw [hres, hsum, hsL_end (by omega)]; rfl, by rw [hres, hsum, hsL_end (by omega)]; exact Bi, hEiw⟩
    ·
     refine yd 49 (.bool false) rfl ((by congr 1; rw [beq_eq_false_iff_ne]; omega : (.bool (((lkK W top p : Nat) : Int) == 6) : Value) = _)) (zw rfl (srx (za rfl (yl rfl rfl (anx rfl ?_)))));by_cases k10 : lkK W top p = 10
     ·
      refine yd 86 (.bool true) rfl ((by rw [k10]; rfl : (.bool (((lkK W top p : Nat) : Int) == 10) : Value) = _)) ?_;have hB : lkB W top p = true := by
       cases hb2 : lkB W top p
       · have h9 : lkK W top p = 0 := by unfold lkK; rw [hb2]; rfl
         omega
       · rfl
      have hres : hsW (qq W top) (n + 1) p left = (vw W top p 0, left - 1) := by
       rw [hsW_r h0 tn, if_neg (show ¬ (qq W top).K p = 6 from (show ¬ lkK W top p = 6 by omega)), if_pos (show (qq W top).K p = 10 ∨ (qq W top).K p = 13 ∨ (qq W top).K p = 14 ∨ (qq W top).K p = 15 from (show lkK W top p = 10 ∨ lkK W top p = 13 ∨ lkK W top p = 14 ∨ lkK W top p = 15 by omega))];show (vw W top p (if lkK W top p = 10 then 0 else 1), left - 1) = _
       rw [if_pos (by omega)]
      refine ye rfl (zl ?_);refine qt (No) Mut.none_ [] [] (gg [Fx.of (.pointer (some ⟨gk, 0, none⟩)),
       Fx.of (.pointer (some ⟨gk, 0, none⟩)),
       Fx.of (.pointer (some ⟨gk, 0, none⟩)),
       Fx.of (.agg #[.slice A W.length c, .int .i64 ((top : Nat) : Int)]),
       Fx.of (.int .i64 ((lkA p : Nat) : Int)),
       Fx.of (.agg #[.int .i64 ((lkK W top p : Nat) : Int), .int .i64 ((lkT W top p : Nat) : Int), .int .i64 ((lkR W top p : Nat) : Int)]),
       Fx.of (.tuple #[.int .i64 (vw W top p 0).1, .int .i64 (vw W top p 0).2]),
       Fx.of (.int .i64 (vw W top p 0).1),
       Fx.of (.int .i64 (vw W top p 0).2),
       Fx.of (.int .i64 (vw W top p 0).1),
       Fx.of (.int .i64 (vw W top p 0).2)]) vu rfl trivial (fun _ h => by cases h) ?_ ?_
      · refine ⟨?_, ?_, ?_, ?_, ?_, ?_, ?_, ?_, ?_, ?_, ?_, trivial⟩
        · intro vs X wq K;exact zp rfl ⟨Below.refl _ _, Left.of rfl⟩
        · intro vs X wq K;obtain ⟨_, e0, k0⟩ := K.dep 0 rfl rfl rfl;refine zc 88 (.pointer (some ⟨gk, 0, none⟩)) rfl e0 ?_;exact yo rfl ⟨Below.refl _ _, Left.of rfl⟩
        · intro vs X wq K;obtain ⟨_, e1, k1⟩ := K.dep 1 rfl rfl rfl;refine zc 89 (.pointer (some ⟨gk, 0, none⟩)) rfl e1 ?_;exact zf Try.underlying55 rfl qx (by decide) rfl ⟨Below.refl _ _, Left.of rfl⟩
        · intro vs X wq K;have LE := K.1;obtain ⟨_, e2, k2⟩ := K.dep 2 rfl rfl rfl;refine zc 90 (.pointer (some ⟨gk, 0, none⟩)) rfl e2 ?_;exact vr (cs := #[.slice A W.length c, .int .i64 ((top : Nat) : Int)]) Try.underlying24 rfl qx rfl rfl (je (qj LE B7)) ⟨Below.refl _ _, Left.of rfl⟩
        · intro vs X wq K;exact zp rfl ⟨Below.refl _ _, Left.of rfl⟩
        · intro vs X wq K;have LE := K.1;exact zz Try.underlying67 rfl xe rfl (qj LE BP) rfl ⟨Below.refl _ _, Left.of rfl⟩
        · intro vs X wq K;have LE := K.1;obtain ⟨_, e3, k3⟩ := K.dep 3 rfl rfl rfl;refine zc 91 (.agg #[.slice A W.length c, .int .i64 ((top : Nat) : Int)]) rfl e3 ?_;obtain ⟨_, e4, k4⟩ := K.dep 4 rfl rfl rfl;refine zc 92 (.int .i64 ((lkA p : Nat) : Int)) rfl e4 ?_;obtain ⟨_, e5, k5⟩ := K.dep 5 rfl rfl rfl
          refine zc 93 (.agg #[.int .i64 ((lkK W top p : Nat) : Int), .int .i64 ((lkT W top p : Nat) : Int), .int .i64 ((lkR W top p : Nat) : Int)]) rfl e5 (zi en38 rfl ((yjz _ A W c m top p (hM7.no ((Ext.refl No _).drew.trans LE)) hp 0 hB (by omega)).mono ?_));rintro e w2 ⟨rfl, hb⟩;exact ⟨_, rfl, hb, Left.of rfl⟩
        · intro vs X wq K;obtain ⟨_, e6, k6⟩ := K.dep 6 rfl rfl rfl;refine zc 94 (.tuple #[.int .i64 (vw W top p 0).1, .int .i64 (vw W top p 0).2]) rfl e6 ?_;exact zg rfl rfl ⟨Below.refl _ _, Left.of rfl⟩
        · intro vs X wq K;obtain ⟨_, e6, k6⟩ := K.dep 6 rfl rfl rfl;refine zc 94 (.tuple #[.int .i64 (vw W top p 0).1, .int .i64 (vw W top p 0).2]) rfl e6 ?_;exact zg rfl rfl ⟨Below.refl _ _, Left.of rfl⟩
        · intro vs X wq K;obtain ⟨_, e7, k7⟩ := K.dep 7 rfl rfl rfl;refine zc 95 (.int .i64 (vw W top p 0).1) rfl e7 ?_;exact yw rfl ⟨Below.refl _ _, Left.of rfl⟩
        · intro vs X wq K;obtain ⟨_, e8, k8⟩ := K.dep 8 rfl rfl rfl;refine zc 96 (.int .i64 (vw W top p 0).2) rfl e8 ?_;exact yw rfl ⟨Below.refl _ _, Left.of rfl⟩
      intro vs w9 LE AO AL AF AA;have hbd : Below (wu7).heap.size (wu7) w9 := (((Ext.refl No (wu7)).drew).trans LE).toBelow;obtain ⟨_, e9, k9⟩ := AL.2.2.2.2.2.2.2.2.2.1;obtain ⟨_, e10, k10⟩ := AL.2.2.2.2.2.2.2.2.2.2.1;refine qy (τ := [(6, .int .i64 (vw W top p 0).1), (7, .int .i64 (vw W top p 0).2)]) ⟨congrArg some e9, congrArg some e10, trivial⟩ ?_;clear AL AF AA AO
      have EX := Ext.of_below hbd No;refine zj (zo (zr (zh (zn (rs := [.tmp 6, .tmp 7]) (vs := [_, _]) rfl ⟨rfl, rfl, trivial⟩ ?_))));exact ⟨by rw [hres]; rfl, by rw [hres]; exact B7.ext EX (fun h => h.elim), hE7.step EX (fun _ h => h.elim)⟩
     ·
      refine yd 86 (.bool false) rfl ((by congr 1; rw [beq_eq_false_iff_ne]; omega : (.bool (((lkK W top p : Nat) : Int) == 10) : Value) = _)) (zw rfl (zl (srx (za rfl (yl rfl rfl (anx rfl ?_))))));by_cases k13 : lkK W top p = 13
      ·
       refine yd 97 (.bool true) rfl ((by rw [k13]; rfl : (.bool (((lkK W top p : Nat) : Int) == 13) : Value) = _)) ?_;have hB : lkB W top p = true := by
        cases hb2 : lkB W top p
        · have h9 : lkK W top p = 0 := by unfold lkK; rw [hb2]; rfl
          omega
        · rfl
       have hres : hsW (qq W top) (n + 1) p left = (vw W top p 1, left - 1) := by
        rw [hsW_r h0 tn, if_neg (show ¬ (qq W top).K p = 6 from (show ¬ lkK W top p = 6 by omega)), if_pos (show (qq W top).K p = 10 ∨ (qq W top).K p = 13 ∨ (qq W top).K p = 14 ∨ (qq W top).K p = 15 from (show lkK W top p = 10 ∨ lkK W top p = 13 ∨ lkK W top p = 14 ∨ lkK W top p = 15 by omega))];show (vw W top p (if lkK W top p = 10 then 0 else 1), left - 1) = _
        rw [if_neg (by omega)]
       refine ye rfl (zt (zj (ye rfl (zl ?_))));refine qt (No) Mut.none_ [] [] (gg [Fx.of (.pointer (some ⟨gk, 0, none⟩)),
        Fx.of (.pointer (some ⟨gk, 0, none⟩)),
        Fx.of (.pointer (some ⟨gk, 0, none⟩)),
        Fx.of (.agg #[.slice A W.length c, .int .i64 ((top : Nat) : Int)]),
        Fx.of (.int .i64 ((lkA p : Nat) : Int)),
        Fx.of (.agg #[.int .i64 ((lkK W top p : Nat) : Int), .int .i64 ((lkT W top p : Nat) : Int), .int .i64 ((lkR W top p : Nat) : Int)]),
        Fx.of (.tuple #[.int .i64 (vw W top p 1).1, .int .i64 (vw W top p 1).2]),
        Fx.of (.int .i64 (vw W top p 1).1),
        Fx.of (.int .i64 (vw W top p 1).2),
        Fx.of (.int .i64 (vw W top p 1).1),
        Fx.of (.int .i64 (vw W top p 1).2)]) vu rfl trivial (fun _ h => by cases h) ?_ ?_
       · refine ⟨?_, ?_, ?_, ?_, ?_, ?_, ?_, ?_, ?_, ?_, ?_, trivial⟩
         · intro vs X wq K;exact zp rfl ⟨Below.refl _ _, Left.of rfl⟩
         · intro vs X wq K;obtain ⟨_, e0, k0⟩ := K.dep 0 rfl rfl rfl;refine zc 101 (.pointer (some ⟨gk, 0, none⟩)) rfl e0 ?_;exact yo rfl ⟨Below.refl _ _, Left.of rfl⟩
         · intro vs X wq K;obtain ⟨_, e1, k1⟩ := K.dep 1 rfl rfl rfl;refine zc 102 (.pointer (some ⟨gk, 0, none⟩)) rfl e1 ?_;exact zf Try.underlying55 rfl qx (by decide) rfl ⟨Below.refl _ _, Left.of rfl⟩
         · intro vs X wq K;have LE := K.1;obtain ⟨_, e2, k2⟩ := K.dep 2 rfl rfl rfl;refine zc 103 (.pointer (some ⟨gk, 0, none⟩)) rfl e2 ?_;exact vr (cs := #[.slice A W.length c, .int .i64 ((top : Nat) : Int)]) Try.underlying24 rfl qx rfl rfl (je (qj LE B7)) ⟨Below.refl _ _, Left.of rfl⟩
         · intro vs X wq K;exact zp rfl ⟨Below.refl _ _, Left.of rfl⟩
         · intro vs X wq K;have LE := K.1;exact zz Try.underlying67 rfl xe rfl (qj LE BP) rfl ⟨Below.refl _ _, Left.of rfl⟩
         · intro vs X wq K;have LE := K.1;obtain ⟨_, e3, k3⟩ := K.dep 3 rfl rfl rfl;refine zc 104 (.agg #[.slice A W.length c, .int .i64 ((top : Nat) : Int)]) rfl e3 ?_;obtain ⟨_, e4, k4⟩ := K.dep 4 rfl rfl rfl;refine zc 105 (.int .i64 ((lkA p : Nat) : Int)) rfl e4 ?_;obtain ⟨_, e5, k5⟩ := K.dep 5 rfl rfl rfl
           refine zc 106 (.agg #[.int .i64 ((lkK W top p : Nat) : Int), .int .i64 ((lkT W top p : Nat) : Int), .int .i64 ((lkR W top p : Nat) : Int)]) rfl e5 (zi en38 rfl ((yjz _ A W c m top p (hM7.no ((Ext.refl No _).drew.trans LE)) hp 1 hB (by omega)).mono ?_));rintro e w2 ⟨rfl, hb⟩;exact ⟨_, rfl, hb, Left.of rfl⟩
         · intro vs X wq K;obtain ⟨_, e6, k6⟩ := K.dep 6 rfl rfl rfl;refine zc 107 (.tuple #[.int .i64 (vw W top p 1).1, .int .i64 (vw W top p 1).2]) rfl e6 ?_;exact zg rfl rfl ⟨Below.refl _ _, Left.of rfl⟩
         · intro vs X wq K;obtain ⟨_, e6, k6⟩ := K.dep 6 rfl rfl rfl;refine zc 107 (.tuple #[.int .i64 (vw W top p 1).1, .int .i64 (vw W top p 1).2]) rfl e6 ?_;exact zg rfl rfl ⟨Below.refl _ _, Left.of rfl⟩
         · intro vs X wq K;obtain ⟨_, e7, k7⟩ := K.dep 7 rfl rfl rfl;refine zc 108 (.int .i64 (vw W top p 1).1) rfl e7 ?_;exact yw rfl ⟨Below.refl _ _, Left.of rfl⟩
         · intro vs X wq K;obtain ⟨_, e8, k8⟩ := K.dep 8 rfl rfl rfl;refine zc 109 (.int .i64 (vw W top p 1).2) rfl e8 ?_;exact yw rfl ⟨Below.refl _ _, Left.of rfl⟩
       intro vs w10 LE AO AL AF AA;have hbd : Below (wu7).heap.size (wu7) w10 := (((Ext.refl No (wu7)).drew).trans LE).toBelow;obtain ⟨_, e9, k9⟩ := AL.2.2.2.2.2.2.2.2.2.1;obtain ⟨_, e10, k10⟩ := AL.2.2.2.2.2.2.2.2.2.2.1;refine qy (τ := [(6, .int .i64 (vw W top p 1).1), (7, .int .i64 (vw W top p 1).2)]) ⟨congrArg some e9, congrArg some e10, trivial⟩ ?_;clear AL AF AA AO
       have EX := Ext.of_below hbd No;refine zj (zo (zr (zh (zn (rs := [.tmp 6, .tmp 7]) (vs := [_, _]) rfl ⟨rfl, rfl, trivial⟩ ?_))));exact ⟨by rw [hres]; rfl, by rw [hres]; exact B7.ext EX (fun h => h.elim), hE7.step EX (fun _ h => h.elim)⟩
      ·
       refine yd 97 (.bool false) rfl ((by congr 1; rw [beq_eq_false_iff_ne]; omega : (.bool (((lkK W top p : Nat) : Int) == 13) : Value) = _)) (zw rfl (srx (za rfl (yl rfl rfl (anx rfl ?_)))));by_cases k14 : lkK W top p = 14
       ·
        refine yd 97 (.bool true) rfl ((by rw [k14]; rfl : (.bool (((lkK W top p : Nat) : Int) == 14) : Value) = _)) ?_;have hB : lkB W top p = true := by
         cases hb2 : lkB W top p
         · have h9 : lkK W top p = 0 := by unfold lkK; rw [hb2]; rfl
           omega
         · rfl
        have hres : hsW (qq W top) (n + 1) p left = (vw W top p 1, left - 1) := by
         rw [hsW_r h0 tn, if_neg (show ¬ (qq W top).K p = 6 from (show ¬ lkK W top p = 6 by omega)), if_pos (show (qq W top).K p = 10 ∨ (qq W top).K p = 13 ∨ (qq W top).K p = 14 ∨ (qq W top).K p = 15 from (show lkK W top p = 10 ∨ lkK W top p = 13 ∨ lkK W top p = 14 ∨ lkK W top p = 15 by omega))];show (vw W top p (if lkK W top p = 10 then 0 else 1), left - 1) = _
         rw [if_neg (by omega)]
        refine ye rfl (zt (zj (ye rfl (zl ?_))));refine qt (No) Mut.none_ [] [] (gg [Fx.of (.pointer (some ⟨gk, 0, none⟩)),
         Fx.of (.pointer (some ⟨gk, 0, none⟩)),
         Fx.of (.pointer (some ⟨gk, 0, none⟩)),
         Fx.of (.agg #[.slice A W.length c, .int .i64 ((top : Nat) : Int)]),
         Fx.of (.int .i64 ((lkA p : Nat) : Int)),
         Fx.of (.agg #[.int .i64 ((lkK W top p : Nat) : Int), .int .i64 ((lkT W top p : Nat) : Int), .int .i64 ((lkR W top p : Nat) : Int)]),
         Fx.of (.tuple #[.int .i64 (vw W top p 1).1, .int .i64 (vw W top p 1).2]),
         Fx.of (.int .i64 (vw W top p 1).1),
         Fx.of (.int .i64 (vw W top p 1).2),
         Fx.of (.int .i64 (vw W top p 1).1),
         Fx.of (.int .i64 (vw W top p 1).2)]) vu rfl trivial (fun _ h => by cases h) ?_ ?_
        · refine ⟨?_, ?_, ?_, ?_, ?_, ?_, ?_, ?_, ?_, ?_, ?_, trivial⟩
          · intro vs X wq K;exact zp rfl ⟨Below.refl _ _, Left.of rfl⟩
          · intro vs X wq K;obtain ⟨_, e0, k0⟩ := K.dep 0 rfl rfl rfl;refine zc 101 (.pointer (some ⟨gk, 0, none⟩)) rfl e0 ?_;exact yo rfl ⟨Below.refl _ _, Left.of rfl⟩
          · intro vs X wq K;obtain ⟨_, e1, k1⟩ := K.dep 1 rfl rfl rfl;refine zc 102 (.pointer (some ⟨gk, 0, none⟩)) rfl e1 ?_;exact zf Try.underlying55 rfl qx (by decide) rfl ⟨Below.refl _ _, Left.of rfl⟩
          · intro vs X wq K;have LE := K.1;obtain ⟨_, e2, k2⟩ := K.dep 2 rfl rfl rfl;refine zc 103 (.pointer (some ⟨gk, 0, none⟩)) rfl e2 ?_;exact vr (cs := #[.slice A W.length c, .int .i64 ((top : Nat) : Int)]) Try.underlying24 rfl qx rfl rfl (je (qj LE B7)) ⟨Below.refl _ _, Left.of rfl⟩
          · intro vs X wq K;exact zp rfl ⟨Below.refl _ _, Left.of rfl⟩
          · intro vs X wq K;have LE := K.1;exact zz Try.underlying67 rfl xe rfl (qj LE BP) rfl ⟨Below.refl _ _, Left.of rfl⟩
          · intro vs X wq K;have LE := K.1;obtain ⟨_, e3, k3⟩ := K.dep 3 rfl rfl rfl;refine zc 104 (.agg #[.slice A W.length c, .int .i64 ((top : Nat) : Int)]) rfl e3 ?_;obtain ⟨_, e4, k4⟩ := K.dep 4 rfl rfl rfl;refine zc 105 (.int .i64 ((lkA p : Nat) : Int)) rfl e4 ?_;obtain ⟨_, e5, k5⟩ := K.dep 5 rfl rfl rfl
            refine zc 106 (.agg #[.int .i64 ((lkK W top p : Nat) : Int), .int .i64 ((lkT W top p : Nat) : Int), .int .i64 ((lkR W top p : Nat) : Int)]) rfl e5 (zi en38 rfl ((yjz _ A W c m top p (hM7.no ((Ext.refl No _).drew.trans LE)) hp 1 hB (by omega)).mono ?_));rintro e w2 ⟨rfl, hb⟩;exact ⟨_, rfl, hb, Left.of rfl⟩
          · intro vs X wq K;obtain ⟨_, e6, k6⟩ := K.dep 6 rfl rfl rfl;refine zc 107 (.tuple #[.int .i64 (vw W top p 1).1, .int .i64 (vw W top p 1).2]) rfl e6 ?_;exact zg rfl rfl ⟨Below.refl _ _, Left.of rfl⟩
          · intro vs X wq K;obtain ⟨_, e6, k6⟩ := K.dep 6 rfl rfl rfl;refine zc 107 (.tuple #[.int .i64 (vw W top p 1).1, .int .i64 (vw W top p 1).2]) rfl e6 ?_;exact zg rfl rfl ⟨Below.refl _ _, Left.of rfl⟩
          · intro vs X wq K;obtain ⟨_, e7, k7⟩ := K.dep 7 rfl rfl rfl;refine zc 108 (.int .i64 (vw W top p 1).1) rfl e7 ?_;exact yw rfl ⟨Below.refl _ _, Left.of rfl⟩
          · intro vs X wq K;obtain ⟨_, e8, k8⟩ := K.dep 8 rfl rfl rfl;refine zc 109 (.int .i64 (vw W top p 1).2) rfl e8 ?_;exact yw rfl ⟨Below.refl _ _, Left.of rfl⟩
        intro vs w11 LE AO AL AF AA;have hbd : Below (wu7).heap.size (wu7) w11 := (((Ext.refl No (wu7)).drew).trans LE).toBelow;obtain ⟨_, e9, k9⟩ := AL.2.2.2.2.2.2.2.2.2.1;obtain ⟨_, e10, k10⟩ := AL.2.2.2.2.2.2.2.2.2.2.1;refine qy (τ := [(6, .int .i64 (vw W top p 1).1), (7, .int .i64 (vw W top p 1).2)]) ⟨congrArg some e9, congrArg some e10, trivial⟩ ?_;clear AL AF AA AO
        have EX := Ext.of_below hbd No;refine zj (zo (zr (zh (zn (rs := [.tmp 6, .tmp 7]) (vs := [_, _]) rfl ⟨rfl, rfl, trivial⟩ ?_))));exact ⟨by rw [hres]; rfl, by rw [hres]; exact B7.ext EX (fun h => h.elim), hE7.step EX (fun _ h => h.elim)⟩
       ·
        refine yd 97 (.bool false) rfl ((by congr 1; rw [beq_eq_false_iff_ne]; omega : (.bool (((lkK W top p : Nat) : Int) == 14) : Value) = _)) (zw rfl (yq (za rfl (yl rfl rfl (anx rfl ?_)))));by_cases k15 : lkK W top p = 15
        ·
         refine yd 97 (.bool true) rfl ((by rw [k15]; rfl : (.bool (((lkK W top p : Nat) : Int) == 15) : Value) = _)) ?_;have hB : lkB W top p = true := by
          cases hb2 : lkB W top p
          · have h9 : lkK W top p = 0 := by unfold lkK; rw [hb2]; rfl
            omega
          · rfl
         have hres : hsW (qq W top) (n + 1) p left = (vw W top p 1, left - 1) := by
          rw [hsW_r h0 tn, if_neg (show ¬ (qq W top).K p = 6 from (show ¬ lkK W top p = 6 by omega)), if_pos (show (qq W top).K p = 10 ∨ (qq W top).K p = 13 ∨ (qq W top).K p = 14 ∨ (qq W top).K p = 15 from (show lkK W top p = 10 ∨ lkK W top p = 13 ∨ lkK W top p = 14 ∨ lkK W top p = 15 by omega))];show (vw W top p (if lkK W top p = 10 then 0 else 1), left - 1) = _
          rw [if_neg (by omega)]
         refine ye rfl (zl ?_);refine qt (No) Mut.none_ [] [] (gg [Fx.of (.pointer (some ⟨gk, 0, none⟩)),
          Fx.of (.pointer (some ⟨gk, 0, none⟩)),
          Fx.of (.pointer (some ⟨gk, 0, none⟩)),
          Fx.of (.agg #[.slice A W.length c, .int .i64 ((top : Nat) : Int)]),
          Fx.of (.int .i64 ((lkA p : Nat) : Int)),
          Fx.of (.agg #[.int .i64 ((lkK W top p : Nat) : Int), .int .i64 ((lkT W top p : Nat) : Int), .int .i64 ((lkR W top p : Nat) : Int)]),
          Fx.of (.tuple #[.int .i64 (vw W top p 1).1, .int .i64 (vw W top p 1).2]),
          Fx.of (.int .i64 (vw W top p 1).1),
          Fx.of (.int .i64 (vw W top p 1).2),
          Fx.of (.int .i64 (vw W top p 1).1),
          Fx.of (.int .i64 (vw W top p 1).2)]) vu rfl trivial (fun _ h => by cases h) ?_ ?_
         · refine ⟨?_, ?_, ?_, ?_, ?_, ?_, ?_, ?_, ?_, ?_, ?_, trivial⟩
           · intro vs X wq K;exact zp rfl ⟨Below.refl _ _, Left.of rfl⟩
           · intro vs X wq K;obtain ⟨_, e0, k0⟩ := K.dep 0 rfl rfl rfl;refine zc 101 (.pointer (some ⟨gk, 0, none⟩)) rfl e0 ?_;exact yo rfl ⟨Below.refl _ _, Left.of rfl⟩
           · intro vs X wq K;obtain ⟨_, e1, k1⟩ := K.dep 1 rfl rfl rfl;refine zc 102 (.pointer (some ⟨gk, 0, none⟩)) rfl e1 ?_;exact zf Try.underlying55 rfl qx (by decide) rfl ⟨Below.refl _ _, Left.of rfl⟩
           · intro vs X wq K;have LE := K.1;obtain ⟨_, e2, k2⟩ := K.dep 2 rfl rfl rfl;refine zc 103 (.pointer (some ⟨gk, 0, none⟩)) rfl e2 ?_;exact vr (cs := #[.slice A W.length c, .int .i64 ((top : Nat) : Int)]) Try.underlying24 rfl qx rfl rfl (je (qj LE B7)) ⟨Below.refl _ _, Left.of rfl⟩
           · intro vs X wq K;exact zp rfl ⟨Below.refl _ _, Left.of rfl⟩
           · intro vs X wq K;have LE := K.1;exact zz Try.underlying67 rfl xe rfl (qj LE BP) rfl ⟨Below.refl _ _, Left.of rfl⟩
           · intro vs X wq K;have LE := K.1;obtain ⟨_, e3, k3⟩ := K.dep 3 rfl rfl rfl;refine zc 104 (.agg #[.slice A W.length c, .int .i64 ((top : Nat) : Int)]) rfl e3 ?_;obtain ⟨_, e4, k4⟩ := K.dep 4 rfl rfl rfl;refine zc 105 (.int .i64 ((lkA p : Nat) : Int)) rfl e4 ?_;obtain ⟨_, e5, k5⟩ := K.dep 5 rfl rfl rfl
             refine zc 106 (.agg #[.int .i64 ((lkK W top p : Nat) : Int), .int .i64 ((lkT W top p : Nat) : Int), .int .i64 ((lkR W top p : Nat) : Int)]) rfl e5 (zi en38 rfl ((yjz _ A W c m top p (hM7.no ((Ext.refl No _).drew.trans LE)) hp 1 hB (by omega)).mono ?_));rintro e w2 ⟨rfl, hb⟩;exact ⟨_, rfl, hb, Left.of rfl⟩
           · intro vs X wq K;obtain ⟨_, e6, k6⟩ := K.dep 6 rfl rfl rfl;refine zc 107 (.tuple #[.int .i64 (vw W top p 1).1, .int .i64 (vw W top p 1).2]) rfl e6 ?_;exact zg rfl rfl ⟨Below.refl _ _, Left.of rfl⟩
           · intro vs X wq K;obtain ⟨_, e6, k6⟩ := K.dep 6 rfl rfl rfl;refine zc 107 (.tuple #[.int .i64 (vw W top p 1).1, .int .i64 (vw W top p 1).2]) rfl e6 ?_;exact zg rfl rfl ⟨Below.refl _ _, Left.of rfl⟩
           · intro vs X wq K;obtain ⟨_, e7, k7⟩ := K.dep 7 rfl rfl rfl;refine zc 108 (.int .i64 (vw W top p 1).1) rfl e7 ?_;exact yw rfl ⟨Below.refl _ _, Left.of rfl⟩
           · intro vs X wq K;obtain ⟨_, e8, k8⟩ := K.dep 8 rfl rfl rfl;refine zc 109 (.int .i64 (vw W top p 1).2) rfl e8 ?_;exact yw rfl ⟨Below.refl _ _, Left.of rfl⟩
         intro vs w12 LE AO AL AF AA;have hbd : Below (wu7).heap.size (wu7) w12 := (((Ext.refl No (wu7)).drew).trans LE).toBelow;obtain ⟨_, e9, k9⟩ := AL.2.2.2.2.2.2.2.2.2.1;obtain ⟨_, e10, k10⟩ := AL.2.2.2.2.2.2.2.2.2.2.1;refine qy (τ := [(6, .int .i64 (vw W top p 1).1), (7, .int .i64 (vw W top p 1).2)]) ⟨congrArg some e9, congrArg some e10, trivial⟩ ?_;clear AL AF AA AO
         have EX := Ext.of_below hbd No;refine zj (zo (zr (zh (zn (rs := [.tmp 6, .tmp 7]) (vs := [_, _]) rfl ⟨rfl, rfl, trivial⟩ ?_))));exact ⟨by rw [hres]; rfl, by rw [hres]; exact B7.ext EX (fun h => h.elim), hE7.step EX (fun _ h => h.elim)⟩
        ·
         refine yd 97 (.bool false) rfl ((by congr 1; rw [beq_eq_false_iff_ne]; omega : (.bool (((lkK W top p : Nat) : Int) == 15) : Value) = _)) ?_;have hres : hsW (qq W top) (n + 1) p left = ((0, 10), left - 1) := by
          rw [hsW_r h0 tn, if_neg (show ¬ (qq W top).K p = 6 from k6), if_neg (show ¬ ((qq W top).K p = 10 ∨ (qq W top).K p = 13 ∨ (qq W top).K p = 14 ∨ (qq W top).K p = 15) from fun h => by rcases h with h | h | h | h <;> contradiction)]
         refine zw rfl (zt (zx (zj (srx (avx rfl (anx rfl (zo (zn (rs := [.tmp 6, .tmp 7]) (vs := [_, _]) rfl ⟨rfl, rfl, trivial⟩ ?_))))))));exact ⟨by rw [hres]; rfl, by rw [hres]; exact B7, hE7⟩
theorem ohs_any (gk m : Nat) (A : Option Addr) (W : List Nat) (c top : Nat) : ∀ n, HsAt gk m A W c top n
 | 0 => ohs_step gk m A W c top 0 (fun k h => by omega)
 | n + 1 => ohs_step gk m A W c top (n + 1) (fun k h => by
  obtain rfl : k = n := by omega
  exact ohs_any gk m A W c top k)
end Go.Proofs.Ytebjkmjfcijebaa
namespace Go.Proofs.Ytebjkmjfcijebaa
open Go.RowKit
set_option maxRecDepth 100000
attribute [local irreducible] OW RS
section
variable (w : World) (A : Option Addr) (W : List Nat) (c n top p q : Nat) (hM : MemA n w A W top) (hp : U64 p) (hq : U64 q)
include hM hp
theorem oequal_any (hq : U64 q) : Calls Try.prog 6 #[xj A W c top, .int .u64 ((p : Nat) : Int), .int .u64 ((q : Nat) : Int)] w fun e w' => e = .returned (.tuple #[.bool (eqT W top p q).1, .int .i64 (eqT W top p q).2]) ∧ Below w.heap.size w w' := by
 refine yb Try.func6 rfl Try.ntmps6 rfl (srx (za rfl (yt rfl ?_)));rintro g1 wA B1 E1 G1;refine avx rfl (anx rfl (zl (srx (za rfl (zz Try.underlying24 rfl qx rfl B1 rfl (mvx rfl (za rfl (zi en15 rfl ((yov _ A W c n top p (hM.no E1) hp).mono ?_)))))))));rintro e w1 ⟨rfl, hb⟩;refine ⟨_, rfl, ?_⟩;have E2 := Ext.of_below hb No;have hE2 := E1.trans E2
 have B12 := B1.ext E2 (fun h => h.elim);refine za rfl (qa rfl (mvx rfl ?_));by_cases gp : gdW W top p = true
 ·
  refine zq 13 (.bool false) rfl ((by rw [gp]; rfl : (.bool (!(gdW W top p)) : Value) = _)) (onx rfl (zz Try.underlying24 rfl qx rfl B12 rfl (onx rfl (zp rfl (onx rfl (zi en15 rfl ((yov _ A W c n top q (hM.no hE2) hq).mono ?_)))))));rintro e w2 ⟨rfl, hb⟩;refine ⟨_, rfl, ?_⟩;have E3 := Ext.of_below hb No;have hEZ := hE2.trans E3
  have B1z := B12.ext E3 (fun h => h.elim);refine onx rfl (qa rfl (za rfl (zm rfl rfl (rnx ?_))));by_cases gq : gdW W top q = true
  ·
   refine yd 18 (.bool false) rfl ((by rw [gq]; rfl : (.bool (!(gdW W top q)) : Value) = _)) ?_;have hres : eqT W top p q = (eqW (qq W top) 40 p q 20000).1 := by unfold eqT; rw [gp, gq]; rfl
   have hEZs := hEZ.size;refine zw rfl (zt (zj (srx (za rfl (zz Try.underlying24 rfl qx rfl B1z rfl (za rfl (qb (cs := #[.slice A W.length c, .int .i64 ((top : Nat) : Int), .int .i64 20000]) pl55 zr55 rfl rfl (za rfl (yt rfl ?_)))))))));rintro gk wK BK0 EK GK;have BK : Blk wK gk 55 (wkC A W c top 20000) := BK0;have hEK := hEZ.trans EK
   have hnk : n ≤ gk := by have := hM.size; omega
   refine anx rfl (srx (mvx rfl (mvx rfl (mvx rfl (za rfl (zi en16 rfl ((oeq_any gk n A W c top 40 _ p q 20000 1 (by omega) hp hq (by omega) (hM.no hEK) hnk BK).mono ?_)))))));rintro e w3 ⟨rfl, BR, ER⟩
   refine ⟨_, rfl, (za rfl (zg rfl rfl (za rfl (zg rfl rfl (avx rfl (anx rfl (zo (zn (rs := [.tmp 6, .tmp 7]) (vs := [_, _]) rfl ⟨rfl, rfl, trivial⟩ ?_))))))))⟩;exact ⟨by rw [hres]; rfl, ((hEK.noL w.heap.size).step ER (fun x hx => Or.inl (show w.heap.size ≤ x by have := qd hx; omega))).below (fun _ h => h)⟩
  ·
   refine yd 18 (.bool true) rfl ((by rw [Bool.eq_false_iff.2 gq]; rfl : (.bool (!(gdW W top q)) : Value) = _)) ?_;have hres : eqT W top p q = (false, 1) := by unfold eqT; rw [Bool.eq_false_iff.2 gq, Bool.and_false]; rfl
   refine ye rfl (srx (avx rfl (anx rfl (zo (zh (zn (rs := [.tmp 6, .tmp 7]) (vs := [_, _]) rfl ⟨rfl, rfl, trivial⟩ ?_))))));exact ⟨by rw [hres]; rfl, hEZ.toBelow⟩
 ·
  refine zq 13 (.bool true) rfl ((by rw [Bool.eq_false_iff.2 gp]; rfl : (.bool (!(gdW W top p)) : Value) = _)) ?_;have hres : eqT W top p q = (false, 1) := by unfold eqT; rw [Bool.eq_false_iff.2 gp, Bool.false_and]; rfl
  refine za rfl (zd rfl (za rfl (zd rfl (za rfl (zd rfl (za rfl (zd rfl (za rfl (ya rfl rfl (rnx (ye rfl (srx (avx rfl (anx rfl (zo (zh (zn (rs := [.tmp 6, .tmp 7]) (vs := [_, _]) rfl ⟨rfl, rfl, trivial⟩ ?_)))))))))))))))));exact ⟨by rw [hres]; rfl, hE2.toBelow⟩
theorem ohash_any : Calls Try.prog 7 #[xj A W c top, .int .u64 ((p : Nat) : Int)] w fun e w' => e = .returned (.tuple #[.int .i64 (hsT W top p).1, .int .i64 (hsT W top p).2]) ∧ Below w.heap.size w w' := by
 refine yb Try.func7 rfl Try.ntmps7 rfl (srx (za rfl (yt rfl ?_)));rintro g1 wA B1 E1 G1;refine avx rfl (anx rfl (zl (srx (za rfl (zz Try.underlying24 rfl qx rfl B1 rfl (mvx rfl (za rfl (zi en15 rfl ((yov _ A W c n top p (hM.no E1) hp).mono ?_)))))))));rintro e w1 ⟨rfl, hb⟩;refine ⟨_, rfl, ?_⟩;have E2 := Ext.of_below hb No;have hEZ := E1.trans E2
 have B1z := B1.ext E2 (fun h => h.elim);refine za rfl (qa rfl (rnx ?_));by_cases gp : gdW W top p = true
 ·
  refine yd 10 (.bool false) rfl ((by rw [gp]; rfl : (.bool (!(gdW W top p)) : Value) = _)) ?_;have hres : hsT W top p = (hsW (qq W top) 40 p 20000).1 := by unfold hsT; rw [gp]; rfl
  have hEZs := hEZ.size;refine zw rfl (zt (zj (srx (za rfl (zz Try.underlying24 rfl qx rfl B1z rfl (za rfl (qb (cs := #[.slice A W.length c, .int .i64 ((top : Nat) : Int), .int .i64 20000]) pl55 zr55 rfl rfl (za rfl (yt rfl ?_)))))))));rintro gk wK BK0 EK GK;have BK : Blk wK gk 55 (wkC A W c top 20000) := BK0;have hEK := hEZ.trans EK
  have hnk : n ≤ gk := by have := hM.size; omega
  refine anx rfl (srx (mvx rfl (mvx rfl (za rfl (zi en17 rfl ((ohs_any gk n A W c top 40 _ p 20000 1 (by omega) hp (by omega) (hM.no hEK) hnk BK).mono ?_))))));rintro e w2 ⟨rfl, BR, ER⟩;refine ⟨_, rfl, (za rfl (zg rfl rfl (za rfl (zg rfl rfl (avx rfl (anx rfl (zo (zn (rs := [.tmp 4, .tmp 5]) (vs := [_, _]) rfl ⟨rfl, rfl, trivial⟩ ?_))))))))⟩
  exact ⟨by rw [hres]; rfl, ((hEK.noL w.heap.size).step ER (fun x hx => Or.inl (show w.heap.size ≤ x by have := qd hx; omega))).below (fun _ h => h)⟩
 ·
  refine yd 10 (.bool true) rfl ((by rw [Bool.eq_false_iff.2 gp]; rfl : (.bool (!(gdW W top p)) : Value) = _)) ?_;have hres : hsT W top p = (0, 1) := by unfold hsT; rw [Bool.eq_false_iff.2 gp]; rfl
  refine ye rfl (srx (avx rfl (anx rfl (zo (zh (zn (rs := [.tmp 4, .tmp 5]) (vs := [_, _]) rfl ⟨rfl, rfl, trivial⟩ ?_))))));exact ⟨by rw [hres]; rfl, hEZ.toBelow⟩
end
section
variable (w : World) (A : Option Addr) (W : List Nat) (c n : Nat) (top : Int) (p q : Nat) (hw : WordsA n w A W) (htop : I64 top) (hn : n ≤ w.heap.size) (hp : U64 p) (hq : U64 q)
include hw htop hn hp hq
theorem twins_law : Calls Try.prog 3 #[.agg #[.slice A W.length c, .int .i64 top], .int .u64 ((p : Nat) : Int), .int .u64 ((q : Nat) : Int)] w fun e w' => e = .returned (.bool true) ∧ Below w.heap.size w w' := by
 refine yb Try.func3 rfl Try.ntmps3 rfl (srx (za rfl (yt rfl ?_)));rintro g2 wA B2a E1 G2;have hsA := E1.size;refine anx rfl (zl (srx (za rfl (zi en4 rfl ((known_any _).mono ?_)))));rintro e w1 ⟨rfl, hb⟩;refine ⟨_, rfl, ?_⟩;have B2c := B2a.ext (Ext.of_below hb No) (fun h => h.elim);have E2 := E1.trans (Ext.of_below hb No);have hs2 := E2.size
 refine za rfl (qa rfl (rnx (zw rfl (zt (zj (zl (srx (za rfl (zz Try.underlying24 rfl qx rfl B2c rfl (za rfl (zi en5 rfl ((lright_any _ A W c n top (hw.no E2) htop (by omega)).mono ?_))))))))))));rintro e w2 ⟨⟨b, rfl, hb0⟩, hb⟩;refine ⟨_, rfl, ?_⟩;have B2d := B2c.ext (Ext.of_below hb No) (fun h => h.elim);have E3 := E2.trans (Ext.of_below hb No)
 have hs3 := E3.size;refine za rfl (qa rfl (rnx ?_));by_cases hbb : b = true
 ·
  refine yd 19 (.bool false) rfl ((by rw [hbb]; rfl : (.bool (!b) : Value) = _)) ?_;obtain ⟨t, l, ht, hF⟩ := hb0 hbb;subst ht;obtain ⟨wB, hwB⟩ : ∃ wB, wB = w2 := ⟨_, rfl⟩;rw [← hwB] at B2d E3 hs3;subst hwB;have hM : MemA n wB A W t := ⟨hw.no E3, hF.one, hF.len, hF.most, by omega⟩;have hcm := eqT_comm W t p q;obtain ⟨x, hx⟩ : ∃ x, x = eqT W t p q := ⟨_, rfl⟩
  obtain ⟨h, hh⟩ : ∃ x, x = hsT W t p := ⟨_, rfl⟩;obtain ⟨k, hk⟩ : ∃ x, x = hsT W t q := ⟨_, rfl⟩;have htw : x.1 = true → h.2 = 0 → k.2 = 0 → h.1 = k.1 := by
   rw [hx, hh, hk];exact twinsT hw.in_
  refine zw rfl (zt (zj (srx (za rfl (zz Try.underlying24 rfl qx rfl B2d rfl (mvx rfl (mvx rfl (za rfl (zi en6 rfl (((oequal_any _ A W c n t p q hM hp hq).mono (fun _ _ h => by rw [← hx] at h; exact h)).mono ?_))))))))));rintro e w3 ⟨rfl, hb⟩;refine ⟨_, rfl, ?_⟩;have F1 := Ext.of_below hb No
  refine mvx rfl (za rfl (zg rfl rfl (za rfl (zg rfl rfl (avx rfl (anx rfl (srx (za rfl (zz Try.underlying24 rfl qx rfl (B2d.ext F1 (fun h ↦ h.elim)) rfl (mvx rfl (mvx rfl (za rfl (zi en6 rfl (((oequal_any _ A W c n t q p (hM.no F1) hq hp).mono (fun _ _ h => by rw [← hcm, ← hx] at h; exact h)).mono ?_))))))))))))));rintro e w4 ⟨rfl, hb⟩
  refine ⟨_, rfl, ?_⟩;have F2 := F1.trans (Ext.of_below hb No)
  refine mvx rfl (za rfl (zg rfl rfl (za rfl (zg rfl rfl (avx rfl (anx rfl (zl (srx (mvx rfl (mvx rfl (za rfl (ow_neqB Try.underlying4 rfl rfl (mvx rfl (zq 37 (.bool false) rfl ((by rw [bne_self_eq_false] : (.bool (x.1 != x.1) : Value) = _)) (onx rfl (zp rfl (onx rfl (zp rfl (onx rfl (qh rfl rfl (za rfl (zm rfl rfl (rnx (yd 41 (.bool false) rfl ((by rw [bne_self_eq_false] : (.bool (x.2 != x.2) : Value) = _)) (zw rfl (zt (zj (srx (za rfl (zz Try.underlying24 rfl qx rfl (B2d.ext F2 (fun h ↦ h.elim)) rfl (mvx rfl (za rfl (zi en7 rfl (((ohash_any _ A W c n t p (hM.no F2) hp).mono (fun _ _ h => by rw [← hh] at h; exact h)).mono ?_))))))))))))))))))))))))))))))))))
  rintro e w5 ⟨rfl, hb⟩;refine ⟨_, rfl, ?_⟩;have F3 := F2.trans (Ext.of_below hb No)
  refine mvx rfl (za rfl (zg rfl rfl (za rfl (zg rfl rfl (avx rfl (anx rfl (srx (za rfl (zz Try.underlying24 rfl qx rfl (B2d.ext F3 (fun h ↦ h.elim)) rfl (mvx rfl (za rfl (zi en7 rfl (((ohash_any _ A W c n t q (hM.no F3) hq).mono (fun _ _ h => by rw [← hk] at h; exact h)).mono ?_)))))))))))));rintro e w6 ⟨rfl, hb⟩;refine ⟨_, rfl, ?_⟩
  have F4 := F3.trans (Ext.of_below hb No);have hE9 := E3.trans F4;refine mvx rfl (za rfl (zg rfl rfl (za rfl (zg rfl rfl (avx rfl (anx rfl (srx (mvx rfl (za rfl (qa rfl (mvx rfl ?_)))))))))));by_cases x1 : x.1 = true
  ·
   refine zq 56 (.bool false) rfl ((by rw [x1]; rfl : (.bool (!x.1) : Value) = _)) (onx rfl (zp rfl (onx rfl (qh rfl rfl ?_))));by_cases z1 : h.2 = 0
   ·
    refine zq 58 (.bool false) rfl ((by rw [z1]; rfl : (.bool (h.2 != 0) : Value) = _)) (za rfl (zm rfl rfl (mvx rfl (onx rfl (zp rfl (onx rfl (qh rfl rfl ?_)))))));by_cases z2 : k.2 = 0
    ·
     refine zq 62 (.bool false) rfl ((by rw [z2]; rfl : (.bool (k.2 != 0) : Value) = _)) (za rfl (zm rfl rfl (mvx rfl (onx rfl (zp rfl (onx rfl (zp rfl (onx rfl (yl rfl rfl (zq 67 (.bool true) rfl ((by rw [htw x1 z1 z2, beq_self_eq_true] : (.bool (h.1 == k.1) : Value) = _)) (za rfl (zm rfl rfl (anx rfl (zo (zn (rs := [.tmp 6]) (vs := [_]) rfl ⟨rfl, trivial⟩ ?_)))))))))))))))
     exact ⟨rfl, hE9.toBelow⟩
    ·
     refine zq 62 (.bool true) rfl ((by congr 1; rw [bne_iff_ne]; exact z2 : (.bool (k.2 != 0) : Value) = _)) (za rfl (zm rfl rfl (mvx rfl (za rfl (zd rfl (za rfl (zd rfl (za rfl (zd rfl (za rfl (ya rfl rfl (anx rfl (zo (zn (rs := [.tmp 6]) (vs := [_]) rfl ⟨rfl, trivial⟩ ?_))))))))))))));exact ⟨rfl, hE9.toBelow⟩
   ·
    refine zq 58 (.bool true) rfl ((by congr 1; rw [bne_iff_ne]; exact z1 : (.bool (h.2 != 0) : Value) = _)) (za rfl (zm rfl rfl (mvx rfl (za rfl (zd rfl (za rfl (zd rfl (za rfl (ya rfl rfl (mvx rfl (za rfl (zd rfl (za rfl (zd rfl (za rfl (zd rfl (za rfl (ya rfl rfl (anx rfl (zo (zn (rs := [.tmp 6]) (vs := [_]) rfl ⟨rfl, trivial⟩ ?_)))))))))))))))))))))
    exact ⟨rfl, hE9.toBelow⟩
  ·
   refine zq 56 (.bool true) rfl ((by rw [Bool.eq_false_iff.2 x1]; rfl : (.bool (!x.1) : Value) = _)) (za rfl (zd rfl (za rfl (zd rfl (za rfl (ya rfl rfl (mvx rfl (za rfl (zd rfl (za rfl (zd rfl (za rfl (ya rfl rfl (mvx rfl (za rfl (zd rfl (za rfl (zd rfl (za rfl (zd rfl (za rfl (ya rfl rfl (anx rfl (zo (zn (rs := [.tmp 6]) (vs := [_]) rfl ⟨rfl, trivial⟩ ?_)))))))))))))))))))))))))
   exact ⟨rfl, hE9.toBelow⟩
 ·
  have hbc : b = false := by cases b <;> simp_all
  refine yd 19 (.bool true) rfl ((by rw [hbc]; rfl : (.bool (!b) : Value) = _)) (ye rfl (srx (anx rfl (zo (zh (zn (rs := [.tmp 6]) (vs := [_]) rfl ⟨rfl, trivial⟩ ?_))))));exact ⟨rfl, E3.toBelow⟩
end
end Go.Proofs.Ytebjkmjfcijebaa

/- Texts of this claim. -/
import Derived.Test.YtebjkmjfcijebaaT16
import Derived.Lib.Bytealg
namespace Go.Proofs.Ytebjkmjfcijebaa
open Go.RowKit
set_option maxRecDepth 100000
def zkz (k : Int) : Bool := decide (1 ≤ k) && decide (k ≤ 3)
def PV.cn (v : PV) : Bool := if v.k = 1 then false else v.neg
def PV.cx (v : PV) : List Nat := if v.k = 1 then (if v.yes then [1] else []) else v.xs
noncomputable def ordC (a b : PV) : Int :=
 if a.k = 3 then (if b.k = 3 then zwz a.bits b.bits else ow a.bits b.cn b.cx)
 else if b.k = 3 then 0 - ow b.bits a.cn a.cx else cmpO (qr a.cn a.cx && qr b.cn b.cx) (num a.cn a.cx) (num b.cn b.cx)
def ordO (a b : PV) : Bool := if a.k = 3 then (if b.k = 3 then gn a.bits b.bits else ke a.bits b.cn b.cx) else if b.k = 3 then ke b.bits a.cn a.cx else true
def eqS (a b : PV) : Bool := if a.k == b.k then (a.s.toList == b.s.toList) else false
noncomputable def eqV (a b : PV) : Bool := if a.good && b.good then (if zkz a.k && zkz b.k then (if ordO a b then (ordC a b == 0) else false) else eqS a b) else false
noncomputable def ordV (a b : PV) : Int × Bool × Int :=
 if a.good && b.good then (if zkz a.k && zkz b.k then (ordC a b, ordO a b, 0) else if (a.k == 4) && (b.k == 4) then (Lib.compareBytes a.s.data.toList b.s.data.toList, true, 0) else (0, false, 9)) else (0, false, 3)
noncomputable def sameV (a b : PV) : Bool :=
 if (a.good && b.good) && (a.k == b.k) then (if a.k = 2 then (cmpO (qr a.neg a.xs && qr b.neg b.xs) (num a.neg a.xs) (num b.neg b.xs) == 0) else if a.k = 3 then (((jn (vm a.bits) : Nat) : Int) == ((jn (vm b.bits) : Nat) : Int)) else (if a.yes == b.yes then (a.s.toList == b.s.toList) else false)) else false
def RetCnt (w : World) (A1 : Option Addr) (n : Bool) (xs ys : List Nat) (e : Ending) (w' : World) : Prop := ∃ A c, e = .returned (.agg #[.bool n, .slice A ys.length c]) ∧ ((A = A1 ∧ ys = xs) ∨ Own w' w.heap.size A c ys) ∧ Below w.heap.size w w'
def CntV (w : World) (A1 A : Option Addr) (xs ys : List Nat) : Prop := (A = A1 ∧ ys = xs) ∨ Nums w A ys
theorem CntV.nums {w : World} {A1 A : Option Addr} {xs ys : List Nat} (h : CntV w A1 A xs ys) (hx : Nums w A1 xs) : Nums w A ys := by
 rcases h with ⟨rfl, rfl⟩ | h
 · exact hx
 · exact h
theorem yuv {X : Nat → Prop} {w w' : World} {A1 A : Option Addr} {c : Nat} {xs ys : List Nat} (h : (A = A1 ∧ ys = xs) ∨ Own w' w.heap.size A c ys) (hX : ∀ k, X k → k < w.heap.size) : Per X w' (fun b => CntV b A1 A xs ys) := fun b hb => by
 rcases h with h | h
 · exact Or.inl h
 · exact Or.inr (Per.own h hX b hb)
theorem PV.cx_len {v : PV} (h : v.xs.length ≤ 9223372036854775807) : v.cx.length ≤ 9223372036854775807 := by
 unfold PV.cx;split
 · split <;> simp
 · exact h
theorem cmpI_in (i j : Int) : -1 ≤ zdk i j ∧ zdk i j ≤ 1 := by unfold zdk; split <;> (try split) <;> omega
theorem cmpV_in (a : Nat) (n1 : Bool) (xs : List Nat) : -1 ≤ ow a n1 xs ∧ ow a n1 xs ≤ 1 := by
 unfold ow;split
 · split
   · unfold infV; split <;> omega
   · unfold cmpB;split
     · exact cmpI_in _ _
     · split
       · split <;> omega
       · omega
 · omega
theorem two_cells {w : World} {g o : Nat} {v0 v1 : Value} (h0 : w.cell? ⟨g, o, none⟩ = some v0) (h1 : w.cell? ⟨g, o + 1, none⟩ = some v1) : ∀ (j : Nat) (v : Value), #[v0, v1][j]? = some v → w.cell? ⟨g, o + j, none⟩ = some v := fun j v hj => by
 have hj2 := (Array.getElem?_eq_some_iff.1 hj).1;match j, hj2 with
 | 0, _ => exact h0.trans hj
 | 1, _ => exact h1.trans hj
theorem own_nil {w : World} {base : Nat} : Own w base none 0 [] := ⟨⟨rfl, Or.inl ⟨rfl, rfl⟩⟩, fun _ h => (by cases h)⟩
theorem own_later {w1 w2 : World} {lo base c g : Nat} {A : Option Addr} {xs : List Nat} (h : Own w1 base A c xs) (E : Ext (Mut [some g]) w1 w2) (hg : g < base) (hb : lo ≤ base) : Own w2 lo A c xs :=
 ⟨owns_base (gf h.1 E (fun q hq hm => by have := qd hm; have := owns_ge h.1 q hq; omega)) hb, h.2⟩
theorem pl_one : limbs 1 = [1] := by
 have h : limbs 1 = [(1 : Int).natAbs] := limbs_one (by decide) (by decide);exact h
end Go.Proofs.Ytebjkmjfcijebaa
namespace Go.Proofs.Ytebjkmjfcijebaa
open Go.RowKit
set_option maxRecDepth 100000
attribute [local irreducible] OW RS
def RetTk (w : World) (o : Option PV) (e : Ending) (w' : World) : Prop := ∃ A c, e = .returned (optV o A c) ∧ Nums w' A (o.getD vNil).xs ∧ Below w.heap.size w w'
theorem go {w : World} {A : Option Addr} : Nums w A [] := ⟨fun k => by unfold nth; simp, fun h => absurd h (by decide)⟩
theorem takeO_1 {W : List Nat} {top x : Nat} (h : yu x = 1) : jp W top x = some (vInt (decide (nmI x < 0)) (limbs (nmI x))) := by
 unfold jp;rw [if_pos h, nmI_yes h]
theorem takeO_c {W : List Nat} {top x : Nat} (h : yu x = 2) : jp W top x = if x = 2 then some vNil else if x = 6 then some (vBool false) else if x = 10 then some (vBool true) else none := by
 unfold jp;rw [if_neg (by omega), yfq (fun h0 => by have := h0.1; omega)];simp
theorem takeO_no {W : List Nat} {top x : Nat} (h1 : yu x ≠ 1) (h2 : yu x ≠ 2) (h : ¬ (lkB W top x = true ∧ lkT W top x = 0)) : jp W top x = none := by
 unfold jp;have e2 : x ≠ 2 := fun e => h2 (by rw [e]; decide);have e6 : x ≠ 6 := fun e => h2 (by rw [e]; decide);have e10 : x ≠ 10 := fun e => h2 (by rw [e]; decide);rw [if_neg h1, if_neg e2, if_neg e6, if_neg e10, if_neg h]
theorem takeO_raw {W : List Nat} {top x : Nat} (h1 : yu x ≠ 1) (h2 : yu x ≠ 2) (h : lkB W top x = true ∧ lkT W top x = 0) : jp W top x = zik (lkK W top x) (vd W (x / 4) (lkR W top x)) := by
 unfold jp;have e2 : x ≠ 2 := fun e => h2 (by rw [e]; decide);have e6 : x ≠ 6 := fun e => h2 (by rw [e]; decide);have e10 : x ≠ 10 := fun e => h2 (by rw [e]; decide);rw [if_neg h1, if_neg e2, if_neg e6, if_neg e10, if_pos h]
section
variable (w : World) (A : Option Addr) (W : List Nat) (c n top x : Nat) (hM : MemA n w A W top) (hx : U64 x)
include hM hx
theorem otk_1 (h1 : yu x = 1) : Calls Try.prog 35 #[xj A W c top, .int .u64 ((x : Nat) : Int)] w (RetTk w (jp W top x)) := by
 have hin := @nmI_in x;rw [takeO_1 h1];refine yb Try.func35 rfl Try.ntmps35 rfl (srx (za rfl (yt rfl ?_)));rintro g2 wA B2a E1 G1;refine za rfl (ym og ?_);rintro gv wB Bv E2 G2;have B2 : Blk wB g2 24 #[.slice A W.length c, .int .i64 ((top : Nat) : Int)] := B2a.ext E2 (fun h => h.elim);have hE := E1.trans E2;have hs1 := E1.size;have h2l := B2a.lt;have hvl := Bv.lt
 have hg2v : g2 < gv := by omega
 refine anx rfl (zl (srx (mvx rfl (za rfl (zi en33 rfl ((gc _ x hx).mono ?_))))));rintro e w1 ⟨rfl, hb⟩;refine ⟨_, rfl, ?_⟩;have E3 := Ext.of_below hb No;have hE3 := hE.trans E3;have B23 := B2.ext E3 (fun h => h.elim);have Bv3 := Bv.ext E3 (fun h => h.elim)
 refine rnx (yh (srx (za rfl (yl rfl rfl (anx rfl (yd 18 (.bool true) rfl ((by rw [h1]; rfl : (.bool (((yu x : Nat) : Int) == 1) : Value) = _)) (ye rfl (srx (mvx rfl (za rfl (zi en48 rfl ((num_all _ A W n top x (hM.no hE3) hx).mono ?_))))))))))));rintro e w2 ⟨rfl, hb⟩;refine ⟨_, rfl, ?_⟩;have E4 := Ext.of_below hb No;have hE4 := hE3.trans E4
 refine mvx rfl (za rfl (zg rfl rfl (za rfl (zg rfl rfl (avx rfl (anx rfl (srx (mvx rfl (za rfl (zi en51 rfl ((zhv (nmI x) _ (by omega) (by omega)).mono ?_)))))))))));rintro e w3 ⟨A1, c1, rfl, ho, hb⟩;refine ⟨_, rfl, ?_⟩;have E5 := Ext.of_below hb No;have hE5 := hE4.trans E5;have BvZ := (Bv3.ext E4 (fun h => h.elim)).ext E5 (fun h => h.elim)
 have hs4 := (E3.trans E4).size;refine za rfl (qb (cs := #[.int .i64 2, .bool false, .bool (decide (nmI x < 0)), .slice A1 (limbs (nmI x)).length c1, .int .u64 0, .string ⟨#[]⟩, .slice none 0 0]) zkx og rfl rfl (yn (yi vi rfl rfl BvZ rfl rfl rfl ?_)));rintro wY BvY EY
 refine anx rfl (zo (zr (zh (zn (rs := [.cell 4 43, .tmp 5]) (vs := [_, _]) rfl ⟨⟨_, rfl, qk Try.underlying43 rfl vi BvY rfl⟩, rfl, trivial⟩ ?_))));exact ⟨A1, c1, rfl, (own_later ho EY (by omega) (Nat.le_refl _)).nums, ((hE5.noL w.heap.size).step EY (fun q hq => Or.inl (show w.heap.size ≤ q by have := qd hq; omega))).below (fun _ h => h)⟩
theorem otk_2 (h2 : yu x = 2) : Calls Try.prog 35 #[xj A W c top, .int .u64 ((x : Nat) : Int)] w (RetTk w (jp W top x)) := by
 obtain ⟨hx4, hx18⟩ := wkind_2 h2;rw [takeO_c h2];refine yb Try.func35 rfl Try.ntmps35 rfl (srx (za rfl (yt rfl ?_)));rintro g2 wA B2a E1 G1;refine za rfl (ym og ?_);rintro gv wB Bv E2 G2;have B2 : Blk wB g2 24 #[.slice A W.length c, .int .i64 ((top : Nat) : Int)] := B2a.ext E2 (fun h => h.elim);have hE := E1.trans E2;have hs1 := E1.size;have h2l := B2a.lt
 have hvl := Bv.lt;have hg2v : g2 < gv := by omega
 refine anx rfl (zl (srx (mvx rfl (za rfl (zi en33 rfl ((gc _ x hx).mono ?_))))));rintro e w1 ⟨rfl, hb⟩;refine ⟨_, rfl, ?_⟩;have E3 := Ext.of_below hb No;have hE3 := hE.trans E3;have B23 := B2.ext E3 (fun h => h.elim);have Bv3 := Bv.ext E3 (fun h => h.elim)
 refine rnx (yh (srx (za rfl (yl rfl rfl (anx rfl (yd 18 (.bool false) rfl ((by rw [h2]; rfl : (.bool (((yu x : Nat) : Int) == 1) : Value) = _)) (zw rfl (srx (za rfl (yl rfl rfl (anx rfl (yd 28 (.bool true) rfl ((by rw [h2]; rfl : (.bool (((yu x : Nat) : Int) == 2) : Value) = _)) (ye rfl (srx (mvx rfl (za rfl (zi en52 rfl (((which_all _ A W n top x (hM.no hE3) hx).mono (fun _ _ h => by rw [if_pos h2] at h; exact h)).mono ?_))))))))))))))))))
 rintro e w2 ⟨rfl, hb⟩;refine ⟨_, rfl, ?_⟩;have E4 := Ext.of_below hb No;have hEz := hE3.trans E4;have B2z := B23.ext E4 (fun h => h.elim);have Bvz := Bv3.ext E4 (fun h => h.elim);refine mvx rfl (za rfl (zg rfl rfl (za rfl (zg rfl rfl (avx rfl (anx rfl (srx (mvx rfl (rnx (yh (srx (za rfl (yl rfl rfl (anx rfl ?_))))))))))))));by_cases e2 : x = 2
 ·
  refine yd 36 (.bool true) rfl ((by rw [e2]; rfl : (.bool (((x / 4 : Nat) : Int) == 0) : Value) = _)) ?_;have BvZ := Bvz;refine ye rfl (srx (za rfl (qb (cs := #[.int .i64 0, .bool false, .bool false, .slice none 0 0, .int .u64 0, .string ⟨#[]⟩, .slice none 0 0]) zkx og rfl rfl (yn (yi vi rfl rfl BvZ rfl rfl rfl ?_)))));rintro wY BvY EY
  refine anx rfl (zo (zr (zr (zh (zn (rs := [.cell 4 43, .tmp 5]) (vs := [_, _]) rfl ⟨⟨_, rfl, qk Try.underlying43 rfl vi BvY rfl⟩, rfl, trivial⟩ ?_)))));exact ⟨none, 0, by rw [if_pos e2]; rfl, by rw [if_pos e2]; exact go, ((hEz.noL w.heap.size).step EY (fun q hq => Or.inl (show w.heap.size ≤ q by have := qd hq; omega))).below (fun _ h => h)⟩
 ·
  rw [if_neg e2];refine yd 36 (.bool false) rfl ((by congr 1; rw [beq_eq_false_iff_ne]; omega : (.bool (((x / 4 : Nat) : Int) == 0) : Value) = _)) (zw rfl (zl (srx (za rfl (yl rfl rfl (anx rfl ?_))))));by_cases e6 : x = 6
  ·
   refine yd 39 (.bool true) rfl ((by rw [e6]; rfl : (.bool (((x / 4 : Nat) : Int) == 1) : Value) = _)) (ye rfl (zt (zj (ye rfl (srx (mvx rfl (za rfl (yl rfl rfl (zq 43 (.bool false) rfl ((by rw [e6]; rfl : (.bool (((x / 4 : Nat) : Int) == 2) : Value) = _)) ?_)))))))));have BvZ := Bvz
   refine za rfl (qb (cs := #[.int .i64 1, .bool false, .bool false, .slice none 0 0, .int .u64 0, .string ⟨#[]⟩, .slice none 0 0]) zkx og rfl rfl (yn (yi vi rfl rfl BvZ rfl rfl rfl ?_)));rintro wY BvY EY
   refine anx rfl (zo (zr (zr (zh (zn (rs := [.cell 4 43, .tmp 5]) (vs := [_, _]) rfl ⟨⟨_, rfl, qk Try.underlying43 rfl vi BvY rfl⟩, rfl, trivial⟩ ?_)))));exact ⟨none, 0, by rw [if_pos e6]; rfl, by rw [if_pos e6]; exact go, ((hEz.noL w.heap.size).step EY (fun q hq => Or.inl (show w.heap.size ≤ q by have := qd hq; omega))).below (fun _ h => h)⟩
  ·
   rw [if_neg e6];refine yd 39 (.bool false) rfl ((by congr 1; rw [beq_eq_false_iff_ne]; omega : (.bool (((x / 4 : Nat) : Int) == 1) : Value) = _)) (zw rfl (yq (za rfl (yl rfl rfl (anx rfl ?_)))));by_cases e10 : x = 10
   ·
    refine yd 39 (.bool true) rfl ((by rw [e10]; rfl : (.bool (((x / 4 : Nat) : Int) == 2) : Value) = _)) (ye rfl (srx (mvx rfl (za rfl (yl rfl rfl (zq 43 (.bool true) rfl ((by rw [e10]; rfl : (.bool (((x / 4 : Nat) : Int) == 2) : Value) = _)) ?_))))));have BvZ := Bvz
    refine za rfl (qb (cs := #[.int .i64 1, .bool true, .bool false, .slice none 0 0, .int .u64 0, .string ⟨#[]⟩, .slice none 0 0]) zkx og rfl rfl (yn (yi vi rfl rfl BvZ rfl rfl rfl ?_)));rintro wY BvY EY
    refine anx rfl (zo (zr (zr (zh (zn (rs := [.cell 4 43, .tmp 5]) (vs := [_, _]) rfl ⟨⟨_, rfl, qk Try.underlying43 rfl vi BvY rfl⟩, rfl, trivial⟩ ?_)))))
    exact ⟨none, 0, by rw [if_pos e10]; rfl, by rw [if_pos e10]; exact go, ((hEz.noL w.heap.size).step EY (fun q hq => Or.inl (show w.heap.size ≤ q by have := qd hq; omega))).below (fun _ h => h)⟩
   ·
    refine yd 39 (.bool false) rfl ((by congr 1; rw [beq_eq_false_iff_ne]; omega : (.bool (((x / 4 : Nat) : Int) == 2) : Value) = _)) ?_;have hnone : (if x = 10 then some (vBool true) else none) = none := if_neg e10
    refine zw rfl (zt (zx (zx (zj (srx (za rfl (zz Try.underlying24 rfl qx rfl B2z rfl (mvx rfl (za rfl (zi ycx rfl ((kb _ A W c n top x (hM.no hEz) hx).mono ?_)))))))))));rintro e w3 ⟨rfl, hb⟩;refine ⟨_, rfl, ?_⟩;have E5 := Ext.of_below hb No;have hE5 := hEz.trans E5;have hs5 := hE5.size
    refine mvx rfl (za rfl (zg rfl rfl (za rfl (zg rfl rfl (za rfl (zg rfl rfl (za rfl (ym xw ?_))))))));rintro gs wC Bs0 E6 Gs;refine avx rfl (yn (yi xe rfl rfl Bs0 rfl rfl rfl ?_));rintro wD Bs E7;have hEz5 := hEz.size
    have hED := (((hE5.trans E6).noL w.heap.size)).step E7 (fun q hq => Or.inl (show w.heap.size ≤ q by have := qd hq; omega));have Bv5 := ((Bvz.ext E5 (fun h => h.elim)).ext E6 (fun h => h.elim));have hgsv : gv < gs := by have := Bvz.lt; have := E5.size; omega
    have BvD := Bv5.ext E7 (fun h => by have := qd h; omega);have B2D := ((B2z.ext E5 (fun h => h.elim)).ext E6 (fun h => h.elim)).ext E7 (fun h => by have := qd h; omega);refine anx rfl (zl (srx (mvx rfl (za rfl (qa rfl (mvx rfl (zq 54 (.bool true) rfl ((by rw [yfq (fun h0 => by have := h0.1; omega)]; rfl : (.bool (!(lkB W top x)) : Value) = _)) ?_)))))));have BvZ := BvD
    refine za rfl (zd rfl (za rfl (zd rfl (za rfl (zd rfl (za rfl (ya rfl rfl (rnx (ye rfl (srx (za rfl (qb (cs := #[.int .i64 0, .bool false, .bool false, .slice none 0 0, .int .u64 0, .string ⟨#[]⟩, .slice none 0 0]) zkx og rfl rfl (yn (yi vi rfl rfl BvZ rfl rfl rfl ?_))))))))))))));rintro wY BvY EY
    refine anx rfl (zo (zh (zn (rs := [.cell 4 43, .tmp 5]) (vs := [_, _]) rfl ⟨⟨_, rfl, qk Try.underlying43 rfl vi BvY rfl⟩, rfl, trivial⟩ ?_)));exact ⟨none, 0, by rw [hnone]; rfl, by rw [hnone]; exact go, (hED.step EY (fun q hq => Or.inl (show w.heap.size ≤ q by have := qd hq; omega))).below (fun _ h => h)⟩
theorem otk_3 (h1 : yu x ≠ 1) (h2 : yu x ≠ 2) (h : ¬ (lkB W top x = true ∧ lkT W top x = 0)) : Calls Try.prog 35 #[xj A W c top, .int .u64 ((x : Nat) : Int)] w (RetTk w (jp W top x)) := by
 have hnone := takeO_no h1 h2 h;refine yb Try.func35 rfl Try.ntmps35 rfl (srx (za rfl (yt rfl ?_)));rintro g2 wA B2a E1 G1;refine za rfl (ym og ?_);rintro gv wB Bv E2 G2;have B2 : Blk wB g2 24 #[.slice A W.length c, .int .i64 ((top : Nat) : Int)] := B2a.ext E2 (fun h => h.elim);have hE := E1.trans E2;have hs1 := E1.size;have h2l := B2a.lt;have hvl := Bv.lt
 have hg2v : g2 < gv := by omega
 refine anx rfl (zl (srx (mvx rfl (za rfl (zi en33 rfl ((gc _ x hx).mono ?_))))));rintro e w1 ⟨rfl, hb⟩;refine ⟨_, rfl, ?_⟩;have E3 := Ext.of_below hb No;have hE3 := hE.trans E3;have B23 := B2.ext E3 (fun h => h.elim);have Bv3 := Bv.ext E3 (fun h => h.elim)
 refine rnx (yh (srx (za rfl (yl rfl rfl (anx rfl (yd 18 (.bool false) rfl ((by congr 1; rw [beq_eq_false_iff_ne]; omega : (.bool (((yu x : Nat) : Int) == 1) : Value) = _)) (zw rfl (srx (za rfl (yl rfl rfl (anx rfl (yd 28 (.bool false) rfl ((by congr 1; rw [beq_eq_false_iff_ne]; omega : (.bool (((yu x : Nat) : Int) == 2) : Value) = _)) ?_))))))))))))
 have hEz := hE3;have B2z := B23;have Bvz := Bv3;refine zw rfl (zt (zx (zj (srx (za rfl (zz Try.underlying24 rfl qx rfl B2z rfl (mvx rfl (za rfl (zi ycx rfl ((kb _ A W c n top x (hM.no hEz) hx).mono ?_))))))))));rintro e w2 ⟨rfl, hb⟩;refine ⟨_, rfl, ?_⟩;have E5 := Ext.of_below hb No;have hE5 := hEz.trans E5;have hs5 := hE5.size
 refine mvx rfl (za rfl (zg rfl rfl (za rfl (zg rfl rfl (za rfl (zg rfl rfl (za rfl (ym xw ?_))))))));rintro gs wC Bs0 E6 Gs;refine avx rfl (yn (yi xe rfl rfl Bs0 rfl rfl rfl ?_));rintro wD Bs E7;have hEz5 := hEz.size
 have hED := (((hE5.trans E6).noL w.heap.size)).step E7 (fun q hq => Or.inl (show w.heap.size ≤ q by have := qd hq; omega));have Bv5 := ((Bvz.ext E5 (fun h => h.elim)).ext E6 (fun h => h.elim));have hgsv : gv < gs := by have := Bvz.lt; have := E5.size; omega
 have BvD := Bv5.ext E7 (fun h => by have := qd h; omega);have B2D := ((B2z.ext E5 (fun h => h.elim)).ext E6 (fun h => h.elim)).ext E7 (fun h => by have := qd h; omega);refine anx rfl (zl (srx (mvx rfl (za rfl (qa rfl (mvx rfl ?_))))));by_cases hB : lkB W top x = true
 ·
  have hT : lkT W top x ≠ 0 := fun e => h ⟨hB, e⟩
  refine zq 54 (.bool false) rfl ((by rw [hB]; rfl : (.bool (!(lkB W top x)) : Value) = _)) (onx rfl (zf Try.underlying67 rfl sz3 (by decide) rfl (onx rfl (zk Try.underlying3 rfl rfl Bs rfl (onx rfl (qh rfl rfl (za rfl (zm rfl rfl (rnx (yd 58 (.bool true) rfl ((by congr 1; rw [bne_iff_ne]; omega : (.bool (((lkT W top x : Nat) : Int) != 0) : Value) = _)) ?_))))))))))
  have BvZ := BvD;refine ye rfl (srx (za rfl (qb (cs := #[.int .i64 0, .bool false, .bool false, .slice none 0 0, .int .u64 0, .string ⟨#[]⟩, .slice none 0 0]) zkx og rfl rfl (yn (yi vi rfl rfl BvZ rfl rfl rfl ?_)))));rintro wY BvY EY
  refine anx rfl (zo (zh (zn (rs := [.cell 4 43, .tmp 5]) (vs := [_, _]) rfl ⟨⟨_, rfl, qk Try.underlying43 rfl vi BvY rfl⟩, rfl, trivial⟩ ?_)));exact ⟨none, 0, by rw [hnone]; rfl, by rw [hnone]; exact go, (hED.step EY (fun q hq => Or.inl (show w.heap.size ≤ q by have := qd hq; omega))).below (fun _ h => h)⟩
 ·
  refine zq 54 (.bool true) rfl ((by rw [Bool.eq_false_iff.2 hB]; rfl : (.bool (!(lkB W top x)) : Value) = _)) ?_;have BvZ := BvD
  refine za rfl (zd rfl (za rfl (zd rfl (za rfl (zd rfl (za rfl (ya rfl rfl (rnx (ye rfl (srx (za rfl (qb (cs := #[.int .i64 0, .bool false, .bool false, .slice none 0 0, .int .u64 0, .string ⟨#[]⟩, .slice none 0 0]) zkx og rfl rfl (yn (yi vi rfl rfl BvZ rfl rfl rfl ?_))))))))))))));rintro wY BvY EY
  refine anx rfl (zo (zh (zn (rs := [.cell 4 43, .tmp 5]) (vs := [_, _]) rfl ⟨⟨_, rfl, qk Try.underlying43 rfl vi BvY rfl⟩, rfl, trivial⟩ ?_)));exact ⟨none, 0, by rw [hnone]; rfl, by rw [hnone]; exact go, (hED.step EY (fun q hq => Or.inl (show w.heap.size ≤ q by have := qd hq; omega))).below (fun _ h => h)⟩
end
theorem own_room {w : World} {lo n c s : Nat} {e : TypeId} {A : Option Addr} {xs : List Value} (h : w.ownsRow lo e s (.slice A n c) n xs) (h0 : 0 < n) : ∃ g, A = some ⟨g, 0, none⟩ ∧ n ≤ c := by
 rcases h.2 with ⟨_, rfl⟩ | ⟨g, cap, cur, hv, hg, hh, hn, hm, hsz, ht⟩
 · omega
 · cases hv
   exact ⟨g, rfl, hn⟩
theorem nums_tail {n : Nat} {w : World} {g : Nat} {R : List Nat} (h : WordsA n w (some ⟨g, 0, none⟩) R) (hn : n ≤ w.heap.size) : Nums w (some ⟨g, 1, none⟩) R.tail := by
 refine ⟨fun k => ?_, fun h0 => ⟨g, 1, rfl, ?_, fun k hk => ?_⟩⟩
 · unfold nth;have h2 := h.in_;rw [List.getD_eq_getElem?_getD];cases hk : R.tail[k]? with
   | none => simp
   | some v =>
    have := h2 v (List.mem_of_mem_tail (List.mem_of_getElem? hk));have h3 : v < 18446744073709551616 := this;simp only [Option.getD_some]
    omega
 · rw [List.length_tail] at h0;obtain ⟨g', o', e, hg, _⟩ := h.at (j := 0) (by omega);cases e
   omega
 · rw [List.length_tail] at hk;obtain ⟨g', o', e, hg, hc⟩ := h.at (j := k + 1) (by omega);cases e
   rw [show 1 + k = 0 + (k + 1) by omega, hc];congr 2
   unfold nth wat;rw [List.getD_eq_getElem?_getD, List.getD_eq_getElem?_getD, List.getElem?_tail]
section
variable {k : Nat} {R : List Nat}
theorem rawO_i (h : k = 2 ∧ 2 < R.length ∧ wat R 0 ≤ 1) : zik k R = if qr (decide (wat R 0 = 1)) R.tail then some (vInt (decide (wat R 0 = 1)) R.tail) else none := if_pos h
theorem rawO_f (h : k = 3 ∧ R.length = 1 ∧ wat R 0 = jn (vm (jn (vm (wat R 0))))) : zik k R = some (vFlt (wat R 0)) := by
 unfold zik;rw [if_neg (by omega), if_pos h]
theorem rawO_s (h : k = 4 ∧ 0 < R.length ∧ wat R 0 ≤ 20000 ∧ R.length = 1 + (wat R 0 + 7) / 8) : zik k R = textO R := by
 unfold zik;rw [if_neg (by omega), if_neg (by omega), if_pos h]
theorem zsq (h1 : ¬ (k = 2 ∧ 2 < R.length ∧ wat R 0 ≤ 1)) (h2 : ¬ (k = 3 ∧ R.length = 1 ∧ wat R 0 = jn (vm (jn (vm (wat R 0)))))) (h3 : ¬ (k = 4 ∧ 0 < R.length ∧ wat R 0 ≤ 20000 ∧ R.length = 1 + (wat R 0 + 7) / 8)) : zik k R = none := by
 unfold zik;rw [if_neg h1, if_neg h2, if_neg h3]
end
section
variable (w : World) (A : Option Addr) (W : List Nat) (c n top x : Nat) (hM : MemA n w A W top) (hx : U64 x)
include hM hx
set_option maxHeartbeats 1000000 in
theorem otk_4 (h1 : yu x ≠ 1) (h2 : yu x ≠ 2) (h : lkB W top x = true ∧ lkT W top x = 0) : Calls Try.prog 35 #[xj A W c top, .int .u64 ((x : Nat) : Int)] w (RetTk w (jp W top x)) := by
 obtain ⟨hB, hT⟩ := h;rw [takeO_raw h1 h2 ⟨hB, hT⟩];obtain ⟨hk0, hS⟩ := zuk hB;have hRr : lkR W top x ≤ 1048576 := by
  rw [lkR_yes hk0 hS];have := hS.room; have := hM.len; have := hM.most;omega
 obtain ⟨r, hr⟩ : ∃ r, r = lkR W top x := ⟨_, rfl⟩;obtain ⟨R, hR⟩ : ∃ R, R = vd W (x / 4) (lkR W top x) := ⟨_, rfl⟩;have hRl : R.length = r := by rw [hR, zaz, hr]
 have hRu : ∀ y ∈ R, U64 y := by rw [hR]; exact zoz hM.words.in_ _ _
 rw [← hR];refine yb Try.func35 rfl Try.ntmps35 rfl (srx (za rfl (yt rfl ?_)));rintro g2 wA B2a E1 G1;refine za rfl (ym og ?_);rintro gv wB Bv E2 G2;have B2 : Blk wB g2 24 #[.slice A W.length c, .int .i64 ((top : Nat) : Int)] := B2a.ext E2 (fun h => h.elim);have hE := E1.trans E2;have hs1 := E1.size;have h2l := B2a.lt;have hvl := Bv.lt;have hg2v : g2 < gv := by omega
 refine anx rfl (zl (srx (mvx rfl (za rfl (zi en33 rfl ((gc _ x hx).mono ?_))))));rintro e w1 ⟨rfl, hb⟩;refine ⟨_, rfl, ?_⟩;have E3 := Ext.of_below hb No;have hE3 := hE.trans E3;have B23 := B2.ext E3 (fun h => h.elim);have Bv3 := Bv.ext E3 (fun h => h.elim)
 refine rnx (yh (srx (za rfl (yl rfl rfl (anx rfl (yd 18 (.bool false) rfl ((by congr 1; rw [beq_eq_false_iff_ne]; omega : (.bool (((yu x : Nat) : Int) == 1) : Value) = _)) (zw rfl (srx (za rfl (yl rfl rfl (anx rfl (yd 28 (.bool false) rfl ((by congr 1; rw [beq_eq_false_iff_ne]; omega : (.bool (((yu x : Nat) : Int) == 2) : Value) = _)) ?_))))))))))))
 have hEz := hE3;have B2z := B23;have Bvz := Bv3;refine zw rfl (zt (zx (zj (srx (za rfl (zz Try.underlying24 rfl qx rfl B2z rfl (mvx rfl (za rfl (zi ycx rfl ((kb _ A W c n top x (hM.no hEz) hx).mono ?_))))))))));rintro e w2 ⟨rfl, hb⟩;refine ⟨_, rfl, ?_⟩;have E5 := Ext.of_below hb No;have hE5 := hEz.trans E5;have hs5 := hE5.size
 refine mvx rfl (za rfl (zg rfl rfl (za rfl (zg rfl rfl (za rfl (zg rfl rfl (za rfl (ym xw ?_))))))));rintro gs wC Bs0 E6 Gs;refine avx rfl (yn (yi xe rfl rfl Bs0 rfl rfl rfl ?_));rintro wD Bs E7;have hEz5 := hEz.size
 have hED := (((hE5.trans E6).noL w.heap.size)).step E7 (fun q hq => Or.inl (show w.heap.size ≤ q by have := qd hq; omega));have Bv5 := ((Bvz.ext E5 (fun h => h.elim)).ext E6 (fun h => h.elim));have hgsv : gv < gs := by have := Bvz.lt; have := E5.size; omega
 have BvD := Bv5.ext E7 (fun h => by have := qd h; omega);have B2D := ((B2z.ext E5 (fun h => h.elim)).ext E6 (fun h => h.elim)).ext E7 (fun h => by have := qd h; omega)
 refine anx rfl (zl (srx (mvx rfl (za rfl (qa rfl (mvx rfl (zq 10 (.int .i64 ((x / 4 : Nat) : Int)) rfl ((by rw [yjv hk0] : (.int .i64 ((lkA x : Nat) : Int) : Value) = _)) (zq 12 (.bool true) rfl ((by rw [hB] : (.bool (lkB W top x) : Value) = _)) (zq 54 (.bool false) rfl ((by rw [hB]; rfl : (.bool (!(lkB W top x)) : Value) = _)) (onx rfl (zf Try.underlying67 rfl sz3 (by decide) rfl (onx rfl (zk Try.underlying3 rfl rfl Bs rfl (onx rfl (qh rfl rfl (za rfl (zm rfl rfl (rnx (yd 58 (.bool false) rfl ((by rw [hT]; rfl : (.bool (((lkT W top x : Nat) : Int) != 0) : Value) = _)) (zw rfl (zt (zj (srx (anx rfl (zl (srx (za rfl (zf Try.underlying67 rfl sz3 (by decide) rfl (za rfl (zk Try.underlying3 rfl rfl Bs rfl (zq 61 (.int .i64 ((r : Nat) : Int)) rfl ((by rw [hr] : (.int .i64 ((lkR W top x : Nat) : Int) : Value) = _)) ?_)))))))))))))))))))))))))))))))
 have O0 : wD.ownsRow wD.heap.size 25 1 (.slice none 0 0) 0 (qu (vd W (x / 4) 0)) := owns_nil;have hsD := hED.size;have hMD : ∀ z, Ext (fun q => wD.heap.size ≤ q) wD z → MemA n z A W top := fun z hz => (hM.low ⟨hED, fun q hq => Nat.le_trans hM.size hq⟩).low ⟨hz, fun q hq => Nat.le_trans hM.size (Nat.le_trans hsD hq)⟩;have l2 := B2D.lt;have lv := BvD.lt;have ls := Bs.lt
 refine mvx rfl (rnx (yh (jd (ι := Nat × Option Addr × Nat) (fun (i, D, d) => [(2, .pointer (some ⟨g2, 0, none⟩)), (4, .pointer (some ⟨gv, 0, none⟩)), (5, .int .i64 0), (10, .int .i64 ((x / 4 : Nat) : Int)), (11, .pointer (some ⟨gs, 0, none⟩)), (13, .slice D i d), (61, .int .i64 ((r : Nat) : Int)), (62, .int .i64 ((i : Nat) : Int))]) (fun (i, D, d) w' => i ≤ r ∧ w'.ownsRow wD.heap.size 25 1 (.slice D i d) i (qu (vd W (x / 4) i)) ∧ Ext (fun q => wD.heap.size ≤ q) wD w') (fun (i, _) => r - i) (0, none, 0) ⟨rfl, rfl, rfl, rfl, rfl, rfl, rfl, rfl, trivial⟩ (⟨Nat.zero_le _, O0, Ext.refl _ _⟩) ?_)))
 rintro ⟨i, D, d⟩ w4 ⟨hi0, Oi, hEi⟩;refine srx (za rfl (qo rfl rfl (rnx (zl (yv rfl (fun hc => ?_) (fun hc => ?_))))))
 ·
  have hc := of_decide_eq_true hc;have hlt : i < r := by omega
  refine zt (zj (zl (yh (srx (mvx rfl (anx rfl (yq (mvx rfl (za rfl (zz Try.underlying24 rfl qx rfl (B2D.ext hEi (fun h ↦ by have h : wD.heap.size ≤ g2 := h; omega)) rfl (mvx rfl (mvx rfl (za rfl (zi en29 rfl ((zhk _ A W c n top (x / 4) i (hMD _ hEi) hS).mono ?_)))))))))))))));rintro e w5 ⟨rfl, hb⟩;refine ⟨_, rfl, ?_⟩
  have E8 := Ext.of_below hb No;refine za rfl (kx (cs := #[.int .u64 ((jh W (x / 4) i : Nat) : Int)]) Try.underlying22 vc zr25 (by decide) rfl (by rw [zav]; rfl) ?_);rintro gy wF By E9 Gy;have E89 := E8.trans E9;have hE2 := hEi.step E89 (fun _ h => h.elim);have O2 := gf Oi E89 (fun _ _ h => h.elim)
  refine za rfl (ow_appendS (n' := i + 1) (xs' := qu (vd W (x / 4) (i + 1))) Try.underlying22 inf25 rfl (by decide) rfl O2 rfl (reads_rowN By By.lt rfl) (by simp [Value.oneCell']) rfl (by rw [← wordsO_snoc, ← wordsV_snoc]) (by unfold maxLen; omega) (by omega) hE2.size ?_);rintro A6 c6 wG O3 E3x N3
  refine avx rfl (qz (zx (zj (yq (za rfl (yp rfl rfl (zy (by omega)) (mvx rfl (qz ?_))))))));exact ve (i + 1, A6, c6) (by show r - (i + 1) < r - i; omega) ⟨rfl, rfl, rfl, rfl, rfl, rfl, rfl, rfl, trivial⟩ (⟨hlt, O3, hE2.step E3x (fun q hq => Or.inl (show wD.heap.size ≤ q from own_ge O2 q hq))⟩)
 ·
  have hc := of_decide_eq_false hc;have hie : i = R.length := by omega
  obtain ⟨wE, hwE⟩ : ∃ z, z = w4 := ⟨_, rfl⟩;subst hwE;refine yd 13 (.slice D R.length d) rfl ((by rw [hie] : (.slice D i d : Value) = _)) ?_;rw [hie] at Oi;have hWR : vd W (x / 4) R.length = R := by rw [hRl, hr]; exact hR.symm
  rw [hWR] at Oi;have hRw : WordsA wE.heap.size wE D R := zjv Oi (by omega) hRu;have hEE := hED.step hEi (fun q hq => Or.inl (Nat.le_trans hsD hq));have BsE0 := Bs.ext hEi (fun h => by have h : wD.heap.size ≤ gs := h; omega);have BsE : Blk wE gs 67 #[.int .i64 ((lkK W top x : Nat) : Int), .int .i64 ((lkT W top x : Nat) : Int), .int .i64 ((lkR W top x : Nat) : Int)] := BsE0
  have BvE := BvD.ext hEi (fun h => by have h : wD.heap.size ≤ gv := h; omega);have hwu : wat R 0 < 18446744073709551616 := zcx hRu 0;refine vo (yf (yf (yx (zj (zl (yh (srx (za rfl (zf Try.underlying67 rfl sz3 (by decide) rfl (za rfl (zk Try.underlying3 rfl rfl BsE rfl (za rfl (yl rfl rfl ?_)))))))))))))
  by_cases k2 : lkK W top x = 2
  ·
   refine zq 76 (.bool true) rfl ((by rw [k2]; rfl : (.bool (((lkK W top x : Nat) : Int) == 2) : Value) = _)) (mvx rfl (onx rfl (zp rfl (onx rfl (qe Try.underlying22 rfl (onx rfl (vf rfl rfl ?_)))))));by_cases q2 : 2 < R.length
   ·
    refine zq 80 (.bool true) rfl ((by rw [decide_eq_true]; omega : (.bool (decide ((2 : Int) < ((R.length : Nat) : Int))) : Value) = _)) ?_;obtain ⟨gl, hgl, hcl⟩ := own_room Oi (by omega);refine zq 13 (.slice (some ⟨gl, 0, none⟩) R.length d) rfl ((by rw [hgl] : (.slice D R.length d : Value) = _)) ?_;subst hgl;obtain ⟨gm, om, hA0, hgm, hcm⟩ := hRw.at (show 0 < R.length by omega)
    cases hA0
    refine za rfl (ya rfl rfl (mvx rfl (onx rfl (zp rfl (onx rfl (yc (j := 0) Try.underlying22 vc rfl rfl rfl (by omega) (onx rfl (qm Try.underlying25 rfl rfl hcm (onx rfl (kr rfl rfl ?_))))))))));by_cases q1 : wat R 0 ≤ 1
    ·
     refine zq 86 (.bool true) rfl ((by rw [decide_eq_true]; omega : (.bool (decide (((wat R 0 : Nat) : Int) ≤ 1)) : Value) = _)) ?_;have hRt : R.length = R.tail.length + 1 := by rw [List.length_tail]; omega
     refine za rfl (ya rfl rfl (anx rfl (ye rfl (zl ?_))));refine qt (No) Mut.none_ [⟨7, 8, 40, #[.bool false, .slice none 0 0]⟩] [] (gg [Fx.of (.slice (some ⟨gl, 0, none⟩) R.length d),
      Fx.of (.pointer (some ⟨gl, 0 + 0, none⟩)),
      Fx.of (.int .u64 ((wat R 0 : Nat) : Int)),
      Fx.of (.bool (decide (wat R 0 = 1))),
      Fx.of (.slice (some ⟨gl, 0, none⟩) R.length d),
      Fx.of (.slice (some ⟨gl, 1, none⟩) R.tail.length (d - 1)),
      Fx.of (.agg #[.bool (decide (wat R 0 = 1)), .slice (some ⟨gl, 1, none⟩) R.tail.length (d - 1)]),
      Fx.of undef,
      Fx.of undef]) vu rfl trivial (fun _ h => by cases h) ?_ ?_
     · refine ⟨?_, ?_, ?_, ?_, ?_, ?_, ?_, ?_, ?_, trivial⟩
       · intro vs X wq K;exact zp rfl ⟨Below.refl _ _, Left.of rfl⟩
       · intro vs X wq K;obtain ⟨_, e0, k0⟩ := K.dep 0 rfl rfl rfl;refine zc 88 (.slice (some ⟨gl, 0, none⟩) R.length d) rfl e0 ?_;exact yc (j := 0) Try.underlying22 vc rfl rfl rfl (by omega) ⟨Below.refl _ _, Left.of rfl⟩
       · intro vs X wq K;have LE := K.1;obtain ⟨_, e1, k1⟩ := K.dep 1 rfl rfl rfl;refine zc 89 (.pointer (some ⟨gl, 0 + 0, none⟩)) rfl e1 ?_;exact qm Try.underlying25 rfl rfl (xn LE hcm) ⟨Below.refl _ _, Left.of rfl⟩
       · intro vs X wq K;obtain ⟨_, e2, k2⟩ := K.dep 2 rfl rfl rfl;refine zc 90 (.int .u64 ((wat R 0 : Nat) : Int)) rfl e2 ?_;exact yl rfl rfl ⟨Below.refl _ _, Left.of ((by congr 1; rw [Bool.eq_iff_iff]; simp; omega : (.bool (((wat R 0 : Nat) : Int) == 1) : Value) = _))⟩
       · intro vs X wq K;exact zp rfl ⟨Below.refl _ _, Left.of rfl⟩
       · intro vs X wq K;obtain ⟨_, e4, k4⟩ := K.dep 4 rfl rfl rfl;refine zc 92 (.slice (some ⟨gl, 0, none⟩) R.length d) rfl e4 ?_;exact ow_sliceOne Try.underlying22 vc rfl rfl hRt hcl (show 1 < d from Nat.lt_of_lt_of_le (show 1 < R.length by omega) hcl) ⟨Below.refl _ _, Left.of rfl⟩
       · intro vs X wq K;obtain ⟨_, e3, k3⟩ := K.dep 3 rfl rfl rfl;refine zc 91 (.bool (decide (wat R 0 = 1))) rfl e3 ?_;obtain ⟨_, e5, k5⟩ := K.dep 5 rfl rfl rfl;refine zc 93 (.slice (some ⟨gl, 1, none⟩) R.tail.length (d - 1)) rfl e5 ?_
         exact qb (cs := #[.bool (decide (wat R 0 = 1)), .slice (some ⟨gl, 1, none⟩) R.tail.length (d - 1)]) pl40 zez rfl rfl ⟨Below.refl _ _, Left.of rfl⟩
       · exact ⟨_, _, _, _, _, rfl, zez, rfl⟩
       · refine ⟨_, _, _, _, _, rfl, rfl, rfl, vk, fun vs X wq K => ?_⟩;obtain ⟨_, e0, _⟩ := K.dep 6 rfl rfl rfl;exact ⟨vs 6, rfl, by rw [e0]; rfl, by rw [e0]; rfl⟩
     intro vs w6 LE AO AL AF AA;have hbd : Below (wE).heap.size (wE) w6 := (((Ext.refl No (wE)).drew).trans LE).toBelow;obtain ⟨_, e6, k6⟩ := AL.2.2.2.2.2.2.1;obtain ⟨gX0, v0, y0, qX0, GX0, BX0, ey, ev0⟩ := AF.1;cases ey
     obtain rfl : vs 6 = v0 := Option.some.inj ev0;rw [e6] at BX0;have BX0 : Blk w6 gX0 40 #[.bool (decide (wat R 0 = 1)), .slice (some ⟨gl, 1, none⟩) R.tail.length (d - 1)] := BX0;have e7 := qX0;refine qy (τ := [(4, _), (5, _), (15, .pointer (some ⟨gX0, 0, none⟩))]) ⟨rfl, rfl, congrArg some e7, trivial⟩ ?_;clear AL AF AA AO;have EX := Ext.of_below hbd No;have hRx := hRw.no EX
     have hsx := EX.size;refine zj (srx (za rfl (zz Try.underlying40 rfl vk rfl BX0 rfl (za rfl (zi en39 rfl ((vv (decide (wat R 0 = 1)) (d - 1) _ (some ⟨gl, 1, none⟩) R.tail (by omega) (nums_tail hRx hsx)).mono ?_))))));rintro e w7 ⟨rfl, hb⟩;refine ⟨_, rfl, ?_⟩;have EB := Ext.of_below hb No;have EF := EX.trans EB;have BXf := BX0.ext EB (fun h => h.elim)
     refine rnx ?_;by_cases hg : qr (decide (wat R 0 = 1)) R.tail = true
     ·
      refine yd 96 (.bool true) rfl ((by rw [hg] : (.bool (qr (decide (wat R 0 = 1)) R.tail) : Value) = _)) (ye rfl (srx (za rfl (zz Try.underlying40 rfl vk rfl BXf rfl ?_))));have BvZ := BvE.ext EF (fun h => h.elim)
      refine za rfl (qb (cs := #[.int .i64 2, .bool false, .bool (decide (wat R 0 = 1)), .slice (some ⟨gl, 1, none⟩) R.tail.length (d - 1), .int .u64 0, .string ⟨#[]⟩, .slice none 0 0]) zkx og rfl rfl (yn (yi vi rfl rfl BvZ rfl rfl rfl ?_)));rintro wY BvY EY;refine anx rfl (zo (zr (zh ?_)))
      have OY := gf (gf Oi EF (fun _ _ h => h.elim)) EY (fun q hq hm => by have := qd hm; have := owns_ge Oi q hq; omega);have hY := zjv OY (by omega) hRu;refine zn (rs := [.cell 4 43, .tmp 5]) (vs := [_, _]) rfl ⟨⟨_, rfl, qk Try.underlying43 rfl vi BvY rfl⟩, rfl, trivial⟩ ?_
      exact ⟨some ⟨gl, 1, none⟩, d - 1, by rw [rawO_i ⟨k2, q2, q1⟩, if_pos hg]; rfl, by rw [rawO_i ⟨k2, q2, q1⟩, if_pos hg]; exact nums_tail hY (Nat.le_refl _), ((hEE.step EF (fun _ h => h.elim)).step EY (fun q hq => Or.inl (show w.heap.size ≤ q by have := qd hq; omega))).below (fun _ h => h)⟩
     ·
      refine yd 96 (.bool false) rfl ((by rw [Bool.eq_false_iff.2 hg] : (.bool (qr (decide (wat R 0 = 1)) R.tail) : Value) = _)) ?_;have hnone : zik (lkK W top x) R = none := by rw [rawO_i ⟨k2, q2, q1⟩, if_neg hg]
      have BvZ := BvE.ext EF (fun h => h.elim);refine zw rfl (zt (zx (zj (srx (za rfl (qb (cs := #[.int .i64 0, .bool false, .bool false, .slice none 0 0, .int .u64 0, .string ⟨#[]⟩, .slice none 0 0]) zkx og rfl rfl (yn (yi vi rfl rfl BvZ rfl rfl rfl ?_))))))));rintro wY BvY EY
      refine anx rfl (zo (zn (rs := [.cell 4 43, .tmp 5]) (vs := [_, _]) rfl ⟨⟨_, rfl, qk Try.underlying43 rfl vi BvY rfl⟩, rfl, trivial⟩ ?_));exact ⟨none, 0, by rw [hnone]; rfl, by rw [hnone]; exact go, ((hEE.step EF (fun _ h => h.elim)).step EY (fun q hq => Or.inl (show w.heap.size ≤ q by have := qd hq; omega))).below (fun _ h => h)⟩
    ·
     refine zq 86 (.bool false) rfl ((by rw [decide_eq_false]; omega : (.bool (decide (((wat R 0 : Nat) : Int) ≤ 1)) : Value) = _)) ?_;have hnone : zik (lkK W top x) R = none := zsq (by omega) (by omega) (by omega);refine za rfl (ya rfl rfl (anx rfl (zw rfl (zl ?_))))
     refine qt (No) Mut.none_ [] [] (gg [Fx.of (.agg #[.int .i64 ((lkK W top x : Nat) : Int), .int .i64 ((lkT W top x : Nat) : Int), .int .i64 ((lkR W top x : Nat) : Int)]),
      Fx.of (.agg #[.int .i64 3, .int .i64 0, .int .i64 1]),
      Fx.of (.bool false),
      Fx.of (.bool false),
      Fx.of undef,
      Fx.of undef,
      Fx.of undef,
      Fx.of undef,
      Fx.of undef,
      Fx.of undef,
      Fx.of undef,
      Fx.of undef,
      Fx.of undef,
      Fx.of (.bool false),
      Fx.of (.bool false)]) vu rfl trivial (fun _ h => by cases h) ?_ ?_
     · refine ⟨?_, ?_, ?_, ?_, ?_, ?_, ?_, ?_, ?_, ?_, ?_, ?_, ?_, ?_, ?_, trivial⟩
       · intro vs X wq K;have LE := K.1;exact zz Try.underlying67 rfl xe rfl (qj LE BsE) rfl ⟨Below.refl _ _, Left.of rfl⟩
       · intro vs X wq K;exact qb (cs := #[.int .i64 3, .int .i64 0, .int .i64 1]) pl67 xw rfl rfl ⟨Below.refl _ _, Left.of rfl⟩
       · intro vs X wq K;obtain ⟨_, e0, k0⟩ := K.dep 0 rfl rfl rfl;refine zc 100 (.agg #[.int .i64 ((lkK W top x : Nat) : Int), .int .i64 ((lkT W top x : Nat) : Int), .int .i64 ((lkR W top x : Nat) : Int)]) rfl e0 ?_;obtain ⟨_, e1, k1⟩ := K.dep 1 rfl rfl rfl;refine zc 101 (.agg #[.int .i64 3, .int .i64 0, .int .i64 1]) rfl e1 ?_
         exact zlv rfl rfl (by omega) ⟨Below.refl _ _, Left.of rfl⟩
       · intro vs X wq K;obtain ⟨_, e2, k2⟩ := K.dep 2 rfl rfl rfl;refine zc 102 (.bool false) rfl e2 ?_;exact zp rfl ⟨Below.refl _ _, Left.of rfl⟩
       · intro vs X wq K;obtain ⟨_, e3, k3⟩ := K.dep 3 rfl rfl rfl;refine zc 103 (.bool false) rfl e3 ?_;exact zd rfl ⟨Below.refl _ _, Left.of rfl⟩
       · intro vs X wq K;obtain ⟨_, e4, k4⟩ := K.dep 4 rfl rfl rfl;refine zc 104 (undef) rfl e4 ?_;obtain ⟨_, e3, k3⟩ := K.dep 3 rfl rfl rfl;refine zc 103 (.bool false) rfl e3 ?_;exact zd rfl ⟨Below.refl _ _, Left.of rfl⟩
       · intro vs X wq K;obtain ⟨_, e5, k5⟩ := K.dep 5 rfl rfl rfl;refine zc 105 (undef) rfl e5 ?_;obtain ⟨_, e3, k3⟩ := K.dep 3 rfl rfl rfl;refine zc 103 (.bool false) rfl e3 ?_;exact zd rfl ⟨Below.refl _ _, Left.of rfl⟩
       · intro vs X wq K;obtain ⟨_, e3, k3⟩ := K.dep 3 rfl rfl rfl;refine zc 103 (.bool false) rfl e3 ?_;exact zd rfl ⟨Below.refl _ _, Left.of rfl⟩
       · intro vs X wq K;obtain ⟨_, e7, k7⟩ := K.dep 7 rfl rfl rfl;refine zc 107 (undef) rfl e7 ?_;obtain ⟨_, e3, k3⟩ := K.dep 3 rfl rfl rfl;refine zc 103 (.bool false) rfl e3 ?_;exact zd rfl ⟨Below.refl _ _, Left.of rfl⟩
       · intro vs X wq K;obtain ⟨_, e8, k8⟩ := K.dep 8 rfl rfl rfl;refine zc 108 (undef) rfl e8 ?_;obtain ⟨_, e3, k3⟩ := K.dep 3 rfl rfl rfl;refine zc 103 (.bool false) rfl e3 ?_;exact zd rfl ⟨Below.refl _ _, Left.of rfl⟩
       · intro vs X wq K;obtain ⟨_, e9, k9⟩ := K.dep 9 rfl rfl rfl;refine zc 109 (undef) rfl e9 ?_;obtain ⟨_, e3, k3⟩ := K.dep 3 rfl rfl rfl;refine zc 103 (.bool false) rfl e3 ?_;exact zd rfl ⟨Below.refl _ _, Left.of rfl⟩
       · intro vs X wq K;obtain ⟨_, e10, k10⟩ := K.dep 10 rfl rfl rfl;refine zc 110 (undef) rfl e10 ?_;obtain ⟨_, e3, k3⟩ := K.dep 3 rfl rfl rfl;refine zc 103 (.bool false) rfl e3 ?_;exact zd rfl ⟨Below.refl _ _, Left.of rfl⟩
       · intro vs X wq K;obtain ⟨_, e6, k6⟩ := K.dep 6 rfl rfl rfl;refine zc 106 (undef) rfl e6 ?_;obtain ⟨_, e11, k11⟩ := K.dep 11 rfl rfl rfl;refine zc 111 (undef) rfl e11 ?_;obtain ⟨_, e3, k3⟩ := K.dep 3 rfl rfl rfl;refine zc 103 (.bool false) rfl e3 ?_;exact zd rfl ⟨Below.refl _ _, Left.of rfl⟩
       · intro vs X wq K;obtain ⟨_, e3, k3⟩ := K.dep 3 rfl rfl rfl;refine zc 103 (.bool false) rfl e3 ?_;obtain ⟨_, e12, k12⟩ := K.dep 12 rfl rfl rfl;refine zc 112 (undef) rfl e12 ?_;exact zm rfl rfl ⟨Below.refl _ _, Left.of rfl⟩
       · intro vs X wq K;obtain ⟨_, e13, k13⟩ := K.dep 13 rfl rfl rfl;refine zc 113 (.bool false) rfl e13 ?_;exact yw rfl ⟨Below.refl _ _, Left.of rfl⟩
     intro vs w8 LE AO AL AF AA;have hbd : Below (wE).heap.size (wE) w8 := (((Ext.refl No (wE)).drew).trans LE).toBelow;obtain ⟨_, e14, k14⟩ := AL.2.2.2.2.2.2.2.2.2.2.2.2.2.2.1;refine qy (τ := [(4, _), (5, _), (11, _), (13, _), (99, .bool false)]) ⟨rfl, rfl, rfl, rfl, congrArg some e14, trivial⟩ ?_;clear AL AF AA AO;have E3f := Ext.of_below hbd No
     refine zj (zw rfl (srx (za rfl (zf Try.underlying67 rfl sz3 (by decide) rfl (za rfl (zk Try.underlying3 rfl rfl (BsE.ext E3f (fun h ↦ h.elim)) rfl (za rfl (yl rfl rfl (zq 121 (.bool false) rfl ((by congr 1; rw [beq_eq_false_iff_ne]; omega : (.bool (((lkK W top x : Nat) : Int) == 4) : Value) = _)) ?_)))))))));have EF := E3f
     have BvZ := BvE.ext EF (fun h => h.elim)
     refine mvx rfl (za rfl (zd rfl (za rfl (zd rfl (za rfl (zd rfl (za rfl (zm rfl rfl (mvx rfl (za rfl (zd rfl (za rfl (zd rfl (za rfl (zd rfl (za rfl (zd rfl (za rfl (zm rfl rfl (mvx rfl (za rfl (zd rfl (za rfl (zd rfl (za rfl (zd rfl (za rfl (zd rfl (za rfl (zd rfl (za rfl (zd rfl (za rfl (zd rfl (za rfl (zd rfl (za rfl (zd rfl (za rfl (zd rfl (za rfl (zm rfl rfl (anx rfl (zw rfl (zt (zx (zj (srx (za rfl (qb (cs := #[.int .i64 0, .bool false, .bool false, .slice none 0 0, .int .u64 0, .string ⟨#[]⟩, .slice none 0 0]) zkx og rfl rfl (yn (yi vi rfl rfl BvZ rfl rfl rfl ?_))))))))))))))))))))))))))))))))))))))))))))))))))))
     rintro wY BvY EY;refine anx rfl (zo (zn (rs := [.cell 4 43, .tmp 5]) (vs := [_, _]) rfl ⟨⟨_, rfl, qk Try.underlying43 rfl vi BvY rfl⟩, rfl, trivial⟩ ?_));exact ⟨none, 0, by rw [hnone]; rfl, by rw [hnone]; exact go, ((hEE.step EF (fun _ h => h.elim)).step EY (fun q hq => Or.inl (show w.heap.size ≤ q by have := qd hq; omega))).below (fun _ h => h)⟩
   ·
    refine zq 80 (.bool false) rfl ((by rw [decide_eq_false]; omega : (.bool (decide ((2 : Int) < ((R.length : Nat) : Int))) : Value) = _)) ?_;have hnone : zik (lkK W top x) R = none := zsq (by omega) (by omega) (by omega)
    refine za rfl (ya rfl rfl (mvx rfl (za rfl (zd rfl (za rfl (zd rfl (za rfl (zd rfl (za rfl (zd rfl (za rfl (zm rfl rfl (anx rfl (zw rfl (zl ?_)))))))))))))));refine qt (No) Mut.none_ [] [] (gg [Fx.of (.agg #[.int .i64 ((lkK W top x : Nat) : Int), .int .i64 ((lkT W top x : Nat) : Int), .int .i64 ((lkR W top x : Nat) : Int)]),
     Fx.of (.agg #[.int .i64 3, .int .i64 0, .int .i64 1]),
     Fx.of (.bool false),
     Fx.of (.bool false),
     Fx.of undef,
     Fx.of undef,
     Fx.of undef,
     Fx.of undef,
     Fx.of undef,
     Fx.of undef,
     Fx.of undef,
     Fx.of undef,
     Fx.of undef,
     Fx.of (.bool false),
     Fx.of (.bool false)]) vu rfl trivial (fun _ h => by cases h) ?_ ?_
    · refine ⟨?_, ?_, ?_, ?_, ?_, ?_, ?_, ?_, ?_, ?_, ?_, ?_, ?_, ?_, ?_, trivial⟩
      · intro vs X wq K;have LE := K.1;exact zz Try.underlying67 rfl xe rfl (qj LE BsE) rfl ⟨Below.refl _ _, Left.of rfl⟩
      · intro vs X wq K;exact qb (cs := #[.int .i64 3, .int .i64 0, .int .i64 1]) pl67 xw rfl rfl ⟨Below.refl _ _, Left.of rfl⟩
      · intro vs X wq K;obtain ⟨_, e0, k0⟩ := K.dep 0 rfl rfl rfl;refine zc 100 (.agg #[.int .i64 ((lkK W top x : Nat) : Int), .int .i64 ((lkT W top x : Nat) : Int), .int .i64 ((lkR W top x : Nat) : Int)]) rfl e0 ?_;obtain ⟨_, e1, k1⟩ := K.dep 1 rfl rfl rfl;refine zc 101 (.agg #[.int .i64 3, .int .i64 0, .int .i64 1]) rfl e1 ?_
        exact zlv rfl rfl (by omega) ⟨Below.refl _ _, Left.of rfl⟩
      · intro vs X wq K;obtain ⟨_, e2, k2⟩ := K.dep 2 rfl rfl rfl;refine zc 102 (.bool false) rfl e2 ?_;exact zp rfl ⟨Below.refl _ _, Left.of rfl⟩
      · intro vs X wq K;obtain ⟨_, e3, k3⟩ := K.dep 3 rfl rfl rfl;refine zc 103 (.bool false) rfl e3 ?_;exact zd rfl ⟨Below.refl _ _, Left.of rfl⟩
      · intro vs X wq K;obtain ⟨_, e4, k4⟩ := K.dep 4 rfl rfl rfl;refine zc 104 (undef) rfl e4 ?_;obtain ⟨_, e3, k3⟩ := K.dep 3 rfl rfl rfl;refine zc 103 (.bool false) rfl e3 ?_;exact zd rfl ⟨Below.refl _ _, Left.of rfl⟩
      · intro vs X wq K;obtain ⟨_, e5, k5⟩ := K.dep 5 rfl rfl rfl;refine zc 105 (undef) rfl e5 ?_;obtain ⟨_, e3, k3⟩ := K.dep 3 rfl rfl rfl;refine zc 103 (.bool false) rfl e3 ?_;exact zd rfl ⟨Below.refl _ _, Left.of rfl⟩
      · intro vs X wq K;obtain ⟨_, e3, k3⟩ := K.dep 3 rfl rfl rfl;refine zc 103 (.bool false) rfl e3 ?_;exact zd rfl ⟨Below.refl _ _, Left.of rfl⟩
      · intro vs X wq K;obtain ⟨_, e7, k7⟩ := K.dep 7 rfl rfl rfl;refine zc 107 (undef) rfl e7 ?_;obtain ⟨_, e3, k3⟩ := K.dep 3 rfl rfl rfl;refine zc 103 (.bool false) rfl e3 ?_;exact zd rfl ⟨Below.refl _ _, Left.of rfl⟩
      · intro vs X wq K;obtain ⟨_, e8, k8⟩ := K.dep 8 rfl rfl rfl;refine zc 108 (undef) rfl e8 ?_;obtain ⟨_, e3, k3⟩ := K.dep 3 rfl rfl rfl;refine zc 103 (.bool false) rfl e3 ?_;exact zd rfl ⟨Below.refl _ _, Left.of rfl⟩
      · intro vs X wq K;obtain ⟨_, e9, k9⟩ := K.dep 9 rfl rfl rfl;refine zc 109 (undef) rfl e9 ?_;obtain ⟨_, e3, k3⟩ := K.dep 3 rfl rfl rfl;refine zc 103 (.bool false) rfl e3 ?_;exact zd rfl ⟨Below.refl _ _, Left.of rfl⟩
      · intro vs X wq K;obtain ⟨_, e10, k10⟩ := K.dep 10 rfl rfl rfl;refine zc 110 (undef) rfl e10 ?_;obtain ⟨_, e3, k3⟩ := K.dep 3 rfl rfl rfl;refine zc 103 (.bool false) rfl e3 ?_;exact zd rfl ⟨Below.refl _ _, Left.of rfl⟩
      · intro vs X wq K;obtain ⟨_, e6, k6⟩ := K.dep 6 rfl rfl rfl;refine zc 106 (undef) rfl e6 ?_;obtain ⟨_, e11, k11⟩ := K.dep 11 rfl rfl rfl;refine zc 111 (undef) rfl e11 ?_;obtain ⟨_, e3, k3⟩ := K.dep 3 rfl rfl rfl;refine zc 103 (.bool false) rfl e3 ?_;exact zd rfl ⟨Below.refl _ _, Left.of rfl⟩
      · intro vs X wq K;obtain ⟨_, e3, k3⟩ := K.dep 3 rfl rfl rfl;refine zc 103 (.bool false) rfl e3 ?_;obtain ⟨_, e12, k12⟩ := K.dep 12 rfl rfl rfl;refine zc 112 (undef) rfl e12 ?_;exact zm rfl rfl ⟨Below.refl _ _, Left.of rfl⟩
      · intro vs X wq K;obtain ⟨_, e13, k13⟩ := K.dep 13 rfl rfl rfl;refine zc 113 (.bool false) rfl e13 ?_;exact yw rfl ⟨Below.refl _ _, Left.of rfl⟩
    intro vs w9 LE AO AL AF AA;have hbd : Below (wE).heap.size (wE) w9 := (((Ext.refl No (wE)).drew).trans LE).toBelow;obtain ⟨_, e14, k14⟩ := AL.2.2.2.2.2.2.2.2.2.2.2.2.2.2.1;refine qy (τ := [(4, _), (5, _), (11, _), (13, _), (99, .bool false)]) ⟨rfl, rfl, rfl, rfl, congrArg some e14, trivial⟩ ?_;clear AL AF AA AO;have E3f := Ext.of_below hbd No
    refine zj (zw rfl (srx (za rfl (zf Try.underlying67 rfl sz3 (by decide) rfl (za rfl (zk Try.underlying3 rfl rfl (BsE.ext E3f (fun h ↦ h.elim)) rfl (za rfl (yl rfl rfl (zq 121 (.bool false) rfl ((by congr 1; rw [beq_eq_false_iff_ne]; omega : (.bool (((lkK W top x : Nat) : Int) == 4) : Value) = _)) ?_)))))))));have EF := E3f
    have BvZ := BvE.ext EF (fun h => h.elim)
    refine mvx rfl (za rfl (zd rfl (za rfl (zd rfl (za rfl (zd rfl (za rfl (zm rfl rfl (mvx rfl (za rfl (zd rfl (za rfl (zd rfl (za rfl (zd rfl (za rfl (zd rfl (za rfl (zm rfl rfl (mvx rfl (za rfl (zd rfl (za rfl (zd rfl (za rfl (zd rfl (za rfl (zd rfl (za rfl (zd rfl (za rfl (zd rfl (za rfl (zd rfl (za rfl (zd rfl (za rfl (zd rfl (za rfl (zd rfl (za rfl (zm rfl rfl (anx rfl (zw rfl (zt (zx (zj (srx (za rfl (qb (cs := #[.int .i64 0, .bool false, .bool false, .slice none 0 0, .int .u64 0, .string ⟨#[]⟩, .slice none 0 0]) zkx og rfl rfl (yn (yi vi rfl rfl BvZ rfl rfl rfl ?_))))))))))))))))))))))))))))))))))))))))))))))))))))
    rintro wY BvY EY;refine anx rfl (zo (zn (rs := [.cell 4 43, .tmp 5]) (vs := [_, _]) rfl ⟨⟨_, rfl, qk Try.underlying43 rfl vi BvY rfl⟩, rfl, trivial⟩ ?_));exact ⟨none, 0, by rw [hnone]; rfl, by rw [hnone]; exact go, ((hEE.step EF (fun _ h => h.elim)).step EY (fun q hq => Or.inl (show w.heap.size ≤ q by have := qd hq; omega))).below (fun _ h => h)⟩
  ·
   refine zq 76 (.bool false) rfl ((by congr 1; rw [beq_eq_false_iff_ne]; omega : (.bool (((lkK W top x : Nat) : Int) == 2) : Value) = _)) ?_;by_cases k3 : lkK W top x = 3
   ·
    by_cases r3 : R.length = 1
    ·
     obtain ⟨gl, hgl, hcl⟩ := own_room Oi (by omega);refine zq 13 (.slice (some ⟨gl, 0, none⟩) R.length d) rfl ((by rw [hgl] : (.slice D R.length d : Value) = _)) ?_;subst hgl;obtain ⟨gm, om, hA0, hgm, hcm⟩ := hRw.at (show 0 < R.length by omega);cases hA0
     by_cases b3 : wat R 0 = jn (vm (jn (vm (wat R 0))))
     ·
      refine mvx rfl (za rfl (zd rfl (za rfl (zd rfl (za rfl (zd rfl (za rfl (zm rfl rfl (mvx rfl (za rfl (zd rfl (za rfl (zd rfl (za rfl (zd rfl (za rfl (zd rfl (za rfl (zm rfl rfl (anx rfl (zw rfl (zl ?_))))))))))))))))))))))
      refine qt (No) Mut.none_ [] [] (gg [Fx.of (.agg #[.int .i64 ((lkK W top x : Nat) : Int), .int .i64 ((lkT W top x : Nat) : Int), .int .i64 ((lkR W top x : Nat) : Int)]),
       Fx.of (.agg #[.int .i64 3, .int .i64 0, .int .i64 1]),
       Fx.of (.bool true),
       Fx.of (.bool true),
       Fx.of (.slice (some ⟨gl, 0, none⟩) R.length d),
       Fx.of (.pointer (some ⟨gl, 0 + 0, none⟩)),
       Fx.of (.int .u64 ((wat R 0 : Nat) : Int)),
       Fx.of (.slice (some ⟨gl, 0, none⟩) R.length d),
       Fx.of (.pointer (some ⟨gl, 0 + 0, none⟩)),
       Fx.of (.int .u64 ((wat R 0 : Nat) : Int)),
       Fx.of (.int .u64 ((jn (vm (wat R 0)) : Nat) : Int)),
       Fx.of (.int .u64 ((jn (vm (jn (vm (wat R 0)))) : Nat) : Int)),
       Fx.of (.bool true),
       Fx.of (.bool true),
       Fx.of (.bool true)]) vu rfl trivial (fun _ h => by cases h) ?_ ?_
      · refine ⟨?_, ?_, ?_, ?_, ?_, ?_, ?_, ?_, ?_, ?_, ?_, ?_, ?_, ?_, ?_, trivial⟩
        · intro vs X wq K;have LE := K.1;exact zz Try.underlying67 rfl xe rfl (qj LE BsE) rfl ⟨Below.refl _ _, Left.of rfl⟩
        · intro vs X wq K;exact qb (cs := #[.int .i64 3, .int .i64 0, .int .i64 1]) pl67 xw rfl rfl ⟨Below.refl _ _, Left.of rfl⟩
        · intro vs X wq K;obtain ⟨_, e0, k0⟩ := K.dep 0 rfl rfl rfl;refine zc 100 (.agg #[.int .i64 ((lkK W top x : Nat) : Int), .int .i64 ((lkT W top x : Nat) : Int), .int .i64 ((lkR W top x : Nat) : Int)]) rfl e0 ?_;obtain ⟨_, e1, k1⟩ := K.dep 1 rfl rfl rfl;refine zc 101 (.agg #[.int .i64 3, .int .i64 0, .int .i64 1]) rfl e1 ?_
          exact ow_shapeT rfl rfl (by omega) ⟨Below.refl _ _, Left.of rfl⟩
        · intro vs X wq K;obtain ⟨_, e2, k2⟩ := K.dep 2 rfl rfl rfl;refine zc 102 (.bool true) rfl e2 ?_;exact zp rfl ⟨Below.refl _ _, Left.of rfl⟩
        · intro vs X wq K;obtain ⟨_, e3, k3⟩ := K.dep 3 rfl rfl rfl;refine zc 103 (.bool true) rfl e3 ?_;exact yg rfl (zp rfl ⟨Below.refl _ _, Left.of rfl⟩)
        · intro vs X wq K;obtain ⟨_, e4, k4⟩ := K.dep 4 rfl rfl rfl;refine zc 104 (.slice (some ⟨gl, 0, none⟩) R.length d) rfl e4 ?_;obtain ⟨_, e3, k3⟩ := K.dep 3 rfl rfl rfl;refine zc 103 (.bool true) rfl e3 ?_;exact yg rfl (yc (j := 0) Try.underlying22 vc rfl rfl rfl (by omega) ⟨Below.refl _ _, Left.of rfl⟩)
        · intro vs X wq K;have LE := K.1;obtain ⟨_, e5, k5⟩ := K.dep 5 rfl rfl rfl;refine zc 105 (.pointer (some ⟨gl, 0 + 0, none⟩)) rfl e5 ?_;obtain ⟨_, e3, k3⟩ := K.dep 3 rfl rfl rfl;refine zc 103 (.bool true) rfl e3 ?_;exact yg rfl (qm Try.underlying25 rfl rfl (xn LE hcm) ⟨Below.refl _ _, Left.of rfl⟩)
        · intro vs X wq K;obtain ⟨_, e3, k3⟩ := K.dep 3 rfl rfl rfl;refine zc 103 (.bool true) rfl e3 ?_;exact yg rfl (zp rfl ⟨Below.refl _ _, Left.of rfl⟩)
        · intro vs X wq K;obtain ⟨_, e7, k7⟩ := K.dep 7 rfl rfl rfl;refine zc 107 (.slice (some ⟨gl, 0, none⟩) R.length d) rfl e7 ?_;obtain ⟨_, e3, k3⟩ := K.dep 3 rfl rfl rfl;refine zc 103 (.bool true) rfl e3 ?_;exact yg rfl (yc (j := 0) Try.underlying22 vc rfl rfl rfl (by omega) ⟨Below.refl _ _, Left.of rfl⟩)
        · intro vs X wq K;have LE := K.1;obtain ⟨_, e8, k8⟩ := K.dep 8 rfl rfl rfl;refine zc 108 (.pointer (some ⟨gl, 0 + 0, none⟩)) rfl e8 ?_;obtain ⟨_, e3, k3⟩ := K.dep 3 rfl rfl rfl;refine zc 103 (.bool true) rfl e3 ?_;exact yg rfl (qm Try.underlying25 rfl rfl (xn LE hcm) ⟨Below.refl _ _, Left.of rfl⟩)
        · intro vs X wq K;obtain ⟨_, e9, k9⟩ := K.dep 9 rfl rfl rfl;refine zc 109 (.int .u64 ((wat R 0 : Nat) : Int)) rfl e9 ?_;obtain ⟨_, e3, k3⟩ := K.dep 3 rfl rfl rfl;refine zc 103 (.bool true) rfl e3 (yg rfl (zi en21 rfl ((yax _ (wat R 0)).mono ?_)));rintro e w2 ⟨rfl, hb⟩;exact ⟨_, rfl, hb, Left.of rfl⟩
        · intro vs X wq K;obtain ⟨_, e10, k10⟩ := K.dep 10 rfl rfl rfl;refine zc 110 (.int .u64 ((jn (vm (wat R 0)) : Nat) : Int)) rfl e10 ?_;obtain ⟨_, e3, k3⟩ := K.dep 3 rfl rfl rfl;refine zc 103 (.bool true) rfl e3 (yg rfl (zi en21 rfl ((yax _ (jn (vm (wat R 0)))).mono ?_)));rintro e w2 ⟨rfl, hb⟩;exact ⟨_, rfl, hb, Left.of rfl⟩
        · intro vs X wq K;obtain ⟨_, e6, k6⟩ := K.dep 6 rfl rfl rfl;refine zc 106 (.int .u64 ((wat R 0 : Nat) : Int)) rfl e6 ?_;obtain ⟨_, e11, k11⟩ := K.dep 11 rfl rfl rfl;refine zc 111 (.int .u64 ((jn (vm (jn (vm (wat R 0)))) : Nat) : Int)) rfl e11 ?_;obtain ⟨_, e3, k3⟩ := K.dep 3 rfl rfl rfl;refine zc 103 (.bool true) rfl e3 ?_
          exact yg rfl (yl rfl rfl ⟨Below.refl _ _, Left.of ((by rw [← b3]; simp : (.bool (((wat R 0 : Nat) : Int) == ((jn (vm (jn (vm (wat R 0)))) : Nat) : Int)) : Value) = _))⟩)
        · intro vs X wq K;obtain ⟨_, e3, k3⟩ := K.dep 3 rfl rfl rfl;refine zc 103 (.bool true) rfl e3 ?_;obtain ⟨_, e12, k12⟩ := K.dep 12 rfl rfl rfl;refine zc 112 (.bool true) rfl e12 ?_;exact ya rfl rfl ⟨Below.refl _ _, Left.of rfl⟩
        · intro vs X wq K;obtain ⟨_, e13, k13⟩ := K.dep 13 rfl rfl rfl;refine zc 113 (.bool true) rfl e13 ?_;exact yw rfl ⟨Below.refl _ _, Left.of rfl⟩
      intro vs w10 LE AO AL AF AA;have hbd : Below (wE).heap.size (wE) w10 := (((Ext.refl No (wE)).drew).trans LE).toBelow;obtain ⟨_, e14, k14⟩ := AL.2.2.2.2.2.2.2.2.2.2.2.2.2.2.1;refine qy (τ := [(4, _), (5, _), (11, _), (13, _), (99, .bool true)]) ⟨rfl, rfl, rfl, rfl, congrArg some e14, trivial⟩ ?_;clear AL AF AA AO;have EF := Ext.of_below hbd No
      refine zj (ye rfl (srx (mvx rfl (za rfl (yc (j := 0) Try.underlying22 vc rfl rfl rfl (by omega) (za rfl (qm Try.underlying25 rfl rfl ((EF.cell (show gl < _ from hgm) (fun h ↦ h.elim)).trans hcm) ?_)))))));have BvZ := BvE.ext EF (fun h => h.elim)
      refine za rfl (qb (cs := #[.int .i64 3, .bool false, .bool false, .slice none 0 0, .int .u64 ((wat R 0 : Nat) : Int), .string ⟨#[]⟩, .slice none 0 0]) zkx og rfl rfl (yn (yi vi rfl rfl BvZ rfl rfl rfl ?_)));rintro wY BvY EY
      refine anx rfl (zo (zr (zh (zn (rs := [.cell 4 43, .tmp 5]) (vs := [_, _]) rfl ⟨⟨_, rfl, qk Try.underlying43 rfl vi BvY rfl⟩, rfl, trivial⟩ ?_))))
      exact ⟨none, 0, by rw [rawO_f ⟨k3, r3, b3⟩]; rfl, by rw [rawO_f ⟨k3, r3, b3⟩]; exact go, ((hEE.step EF (fun _ h => h.elim)).step EY (fun q hq => Or.inl (show w.heap.size ≤ q by have := qd hq; omega))).below (fun _ h => h)⟩
     ·
      have hnone : zik (lkK W top x) R = none := zsq (by omega) (fun h => b3 h.2.2) (by omega)
      refine mvx rfl (za rfl (zd rfl (za rfl (zd rfl (za rfl (zd rfl (za rfl (zm rfl rfl (mvx rfl (za rfl (zd rfl (za rfl (zd rfl (za rfl (zd rfl (za rfl (zd rfl (za rfl (zm rfl rfl (anx rfl (zw rfl (zl ?_))))))))))))))))))))))
      refine qt (No) Mut.none_ [] [] (gg [Fx.of (.agg #[.int .i64 ((lkK W top x : Nat) : Int), .int .i64 ((lkT W top x : Nat) : Int), .int .i64 ((lkR W top x : Nat) : Int)]),
       Fx.of (.agg #[.int .i64 3, .int .i64 0, .int .i64 1]),
       Fx.of (.bool true),
       Fx.of (.bool true),
       Fx.of (.slice (some ⟨gl, 0, none⟩) R.length d),
       Fx.of (.pointer (some ⟨gl, 0 + 0, none⟩)),
       Fx.of (.int .u64 ((wat R 0 : Nat) : Int)),
       Fx.of (.slice (some ⟨gl, 0, none⟩) R.length d),
       Fx.of (.pointer (some ⟨gl, 0 + 0, none⟩)),
       Fx.of (.int .u64 ((wat R 0 : Nat) : Int)),
       Fx.of (.int .u64 ((jn (vm (wat R 0)) : Nat) : Int)),
       Fx.of (.int .u64 ((jn (vm (jn (vm (wat R 0)))) : Nat) : Int)),
       Fx.of (.bool false),
       Fx.of (.bool false),
       Fx.of (.bool false)]) vu rfl trivial (fun _ h => by cases h) ?_ ?_
      · refine ⟨?_, ?_, ?_, ?_, ?_, ?_, ?_, ?_, ?_, ?_, ?_, ?_, ?_, ?_, ?_, trivial⟩
        · intro vs X wq K;have LE := K.1;exact zz Try.underlying67 rfl xe rfl (qj LE BsE) rfl ⟨Below.refl _ _, Left.of rfl⟩
        · intro vs X wq K;exact qb (cs := #[.int .i64 3, .int .i64 0, .int .i64 1]) pl67 xw rfl rfl ⟨Below.refl _ _, Left.of rfl⟩
        · intro vs X wq K;obtain ⟨_, e0, k0⟩ := K.dep 0 rfl rfl rfl;refine zc 100 (.agg #[.int .i64 ((lkK W top x : Nat) : Int), .int .i64 ((lkT W top x : Nat) : Int), .int .i64 ((lkR W top x : Nat) : Int)]) rfl e0 ?_;obtain ⟨_, e1, k1⟩ := K.dep 1 rfl rfl rfl;refine zc 101 (.agg #[.int .i64 3, .int .i64 0, .int .i64 1]) rfl e1 ?_
          exact ow_shapeT rfl rfl (by omega) ⟨Below.refl _ _, Left.of rfl⟩
        · intro vs X wq K;obtain ⟨_, e2, k2⟩ := K.dep 2 rfl rfl rfl;refine zc 102 (.bool true) rfl e2 ?_;exact zp rfl ⟨Below.refl _ _, Left.of rfl⟩
        · intro vs X wq K;obtain ⟨_, e3, k3⟩ := K.dep 3 rfl rfl rfl;refine zc 103 (.bool true) rfl e3 ?_;exact yg rfl (zp rfl ⟨Below.refl _ _, Left.of rfl⟩)
        · intro vs X wq K;obtain ⟨_, e4, k4⟩ := K.dep 4 rfl rfl rfl;refine zc 104 (.slice (some ⟨gl, 0, none⟩) R.length d) rfl e4 ?_;obtain ⟨_, e3, k3⟩ := K.dep 3 rfl rfl rfl;refine zc 103 (.bool true) rfl e3 ?_;exact yg rfl (yc (j := 0) Try.underlying22 vc rfl rfl rfl (by omega) ⟨Below.refl _ _, Left.of rfl⟩)
        · intro vs X wq K;have LE := K.1;obtain ⟨_, e5, k5⟩ := K.dep 5 rfl rfl rfl;refine zc 105 (.pointer (some ⟨gl, 0 + 0, none⟩)) rfl e5 ?_;obtain ⟨_, e3, k3⟩ := K.dep 3 rfl rfl rfl;refine zc 103 (.bool true) rfl e3 ?_;exact yg rfl (qm Try.underlying25 rfl rfl (xn LE hcm) ⟨Below.refl _ _, Left.of rfl⟩)
        · intro vs X wq K;obtain ⟨_, e3, k3⟩ := K.dep 3 rfl rfl rfl;refine zc 103 (.bool true) rfl e3 ?_;exact yg rfl (zp rfl ⟨Below.refl _ _, Left.of rfl⟩)
        · intro vs X wq K;obtain ⟨_, e7, k7⟩ := K.dep 7 rfl rfl rfl;refine zc 107 (.slice (some ⟨gl, 0, none⟩) R.length d) rfl e7 ?_;obtain ⟨_, e3, k3⟩ := K.dep 3 rfl rfl rfl;refine zc 103 (.bool true) rfl e3 ?_;exact yg rfl (yc (j := 0) Try.underlying22 vc rfl rfl rfl (by omega) ⟨Below.refl _ _, Left.of rfl⟩)
        · intro vs X wq K;have LE := K.1;obtain ⟨_, e8, k8⟩ := K.dep 8 rfl rfl rfl;refine zc 108 (.pointer (some ⟨gl, 0 + 0, none⟩)) rfl e8 ?_;obtain ⟨_, e3, k3⟩ := K.dep 3 rfl rfl rfl;refine zc 103 (.bool true) rfl e3 ?_;exact yg rfl (qm Try.underlying25 rfl rfl (xn LE hcm) ⟨Below.refl _ _, Left.of rfl⟩)
        · intro vs X wq K;obtain ⟨_, e9, k9⟩ := K.dep 9 rfl rfl rfl;refine zc 109 (.int .u64 ((wat R 0 : Nat) : Int)) rfl e9 ?_;obtain ⟨_, e3, k3⟩ := K.dep 3 rfl rfl rfl;refine zc 103 (.bool true) rfl e3 (yg rfl (zi en21 rfl ((yax _ (wat R 0)).mono ?_)));rintro e w2 ⟨rfl, hb⟩;exact ⟨_, rfl, hb, Left.of rfl⟩
        · intro vs X wq K;obtain ⟨_, e10, k10⟩ := K.dep 10 rfl rfl rfl;refine zc 110 (.int .u64 ((jn (vm (wat R 0)) : Nat) : Int)) rfl e10 ?_;obtain ⟨_, e3, k3⟩ := K.dep 3 rfl rfl rfl;refine zc 103 (.bool true) rfl e3 (yg rfl (zi en21 rfl ((yax _ (jn (vm (wat R 0)))).mono ?_)));rintro e w2 ⟨rfl, hb⟩;exact ⟨_, rfl, hb, Left.of rfl⟩
        · intro vs X wq K;obtain ⟨_, e6, k6⟩ := K.dep 6 rfl rfl rfl;refine zc 106 (.int .u64 ((wat R 0 : Nat) : Int)) rfl e6 ?_;obtain ⟨_, e11, k11⟩ := K.dep 11 rfl rfl rfl;refine zc 111 (.int .u64 ((jn (vm (jn (vm (wat R 0)))) : Nat) : Int)) rfl e11 ?_;obtain ⟨_, e3, k3⟩ := K.dep 3 rfl rfl rfl;refine zc 103 (.bool true) rfl e3 ?_
          exact yg rfl (yl rfl rfl ⟨Below.refl _ _, Left.of ((by congr 1; rw [beq_eq_false_iff_ne]; intro h; exact b3 (Int.ofNat_inj.1 h) : (.bool (((wat R 0 : Nat) : Int) == ((jn (vm (jn (vm (wat R 0)))) : Nat) : Int)) : Value) = _))⟩)
        · intro vs X wq K;obtain ⟨_, e3, k3⟩ := K.dep 3 rfl rfl rfl;refine zc 103 (.bool true) rfl e3 ?_;obtain ⟨_, e12, k12⟩ := K.dep 12 rfl rfl rfl;refine zc 112 (.bool false) rfl e12 ?_;exact ya rfl rfl ⟨Below.refl _ _, Left.of rfl⟩
        · intro vs X wq K;obtain ⟨_, e13, k13⟩ := K.dep 13 rfl rfl rfl;refine zc 113 (.bool false) rfl e13 ?_;exact yw rfl ⟨Below.refl _ _, Left.of rfl⟩
      intro vs w11 LE AO AL AF AA;have hbd : Below (wE).heap.size (wE) w11 := (((Ext.refl No (wE)).drew).trans LE).toBelow;obtain ⟨_, e14, k14⟩ := AL.2.2.2.2.2.2.2.2.2.2.2.2.2.2.1;refine qy (τ := [(4, _), (5, _), (11, _), (13, _), (99, .bool false)]) ⟨rfl, rfl, rfl, rfl, congrArg some e14, trivial⟩ ?_;clear AL AF AA AO;have E3f := Ext.of_below hbd No
      refine zj (zw rfl (srx (za rfl (zf Try.underlying67 rfl sz3 (by decide) rfl (za rfl (zk Try.underlying3 rfl rfl (BsE.ext E3f (fun h ↦ h.elim)) rfl (za rfl (yl rfl rfl (zq 121 (.bool false) rfl ((by congr 1; rw [beq_eq_false_iff_ne]; omega : (.bool (((lkK W top x : Nat) : Int) == 4) : Value) = _)) ?_)))))))));have EF := E3f
      have BvZ := BvE.ext EF (fun h => h.elim)
      refine mvx rfl (za rfl (zd rfl (za rfl (zd rfl (za rfl (zd rfl (za rfl (zm rfl rfl (mvx rfl (za rfl (zd rfl (za rfl (zd rfl (za rfl (zd rfl (za rfl (zd rfl (za rfl (zm rfl rfl (mvx rfl (za rfl (zd rfl (za rfl (zd rfl (za rfl (zd rfl (za rfl (zd rfl (za rfl (zd rfl (za rfl (zd rfl (za rfl (zd rfl (za rfl (zd rfl (za rfl (zd rfl (za rfl (zd rfl (za rfl (zm rfl rfl (anx rfl (zw rfl (zt (zx (zj (srx (za rfl (qb (cs := #[.int .i64 0, .bool false, .bool false, .slice none 0 0, .int .u64 0, .string ⟨#[]⟩, .slice none 0 0]) zkx og rfl rfl (yn (yi vi rfl rfl BvZ rfl rfl rfl ?_))))))))))))))))))))))))))))))))))))))))))))))))))))
      rintro wY BvY EY;refine anx rfl (zo (zn (rs := [.cell 4 43, .tmp 5]) (vs := [_, _]) rfl ⟨⟨_, rfl, qk Try.underlying43 rfl vi BvY rfl⟩, rfl, trivial⟩ ?_));exact ⟨none, 0, by rw [hnone]; rfl, by rw [hnone]; exact go, ((hEE.step EF (fun _ h => h.elim)).step EY (fun q hq => Or.inl (show w.heap.size ≤ q by have := qd hq; omega))).below (fun _ h => h)⟩
    ·
     have hnone : zik (lkK W top x) R = none := zsq (by omega) (fun h => r3 h.2.1) (by omega);refine mvx rfl (za rfl (zd rfl (za rfl (zd rfl (za rfl (zd rfl (za rfl (zm rfl rfl (mvx rfl (za rfl (zd rfl (za rfl (zd rfl (za rfl (zd rfl (za rfl (zd rfl (za rfl (zm rfl rfl (anx rfl (zw rfl (zl ?_))))))))))))))))))))))
     refine qt (No) Mut.none_ [] [] (gg [Fx.of (.agg #[.int .i64 ((lkK W top x : Nat) : Int), .int .i64 ((lkT W top x : Nat) : Int), .int .i64 ((lkR W top x : Nat) : Int)]),
      Fx.of (.agg #[.int .i64 3, .int .i64 0, .int .i64 1]),
      Fx.of (.bool false),
      Fx.of (.bool false),
      Fx.of undef,
      Fx.of undef,
      Fx.of undef,
      Fx.of undef,
      Fx.of undef,
      Fx.of undef,
      Fx.of undef,
      Fx.of undef,
      Fx.of undef,
      Fx.of (.bool false),
      Fx.of (.bool false)]) vu rfl trivial (fun _ h => by cases h) ?_ ?_
     · refine ⟨?_, ?_, ?_, ?_, ?_, ?_, ?_, ?_, ?_, ?_, ?_, ?_, ?_, ?_, ?_, trivial⟩
       · intro vs X wq K;have LE := K.1;exact zz Try.underlying67 rfl xe rfl (qj LE BsE) rfl ⟨Below.refl _ _, Left.of rfl⟩
       · intro vs X wq K;exact qb (cs := #[.int .i64 3, .int .i64 0, .int .i64 1]) pl67 xw rfl rfl ⟨Below.refl _ _, Left.of rfl⟩
       · intro vs X wq K;obtain ⟨_, e0, k0⟩ := K.dep 0 rfl rfl rfl;refine zc 100 (.agg #[.int .i64 ((lkK W top x : Nat) : Int), .int .i64 ((lkT W top x : Nat) : Int), .int .i64 ((lkR W top x : Nat) : Int)]) rfl e0 ?_;obtain ⟨_, e1, k1⟩ := K.dep 1 rfl rfl rfl;refine zc 101 (.agg #[.int .i64 3, .int .i64 0, .int .i64 1]) rfl e1 ?_
         exact zlv rfl rfl (by omega) ⟨Below.refl _ _, Left.of rfl⟩
       · intro vs X wq K;obtain ⟨_, e2, k2⟩ := K.dep 2 rfl rfl rfl;refine zc 102 (.bool false) rfl e2 ?_;exact zp rfl ⟨Below.refl _ _, Left.of rfl⟩
       · intro vs X wq K;obtain ⟨_, e3, k3⟩ := K.dep 3 rfl rfl rfl;refine zc 103 (.bool false) rfl e3 ?_;exact zd rfl ⟨Below.refl _ _, Left.of rfl⟩
       · intro vs X wq K;obtain ⟨_, e4, k4⟩ := K.dep 4 rfl rfl rfl;refine zc 104 (undef) rfl e4 ?_;obtain ⟨_, e3, k3⟩ := K.dep 3 rfl rfl rfl;refine zc 103 (.bool false) rfl e3 ?_;exact zd rfl ⟨Below.refl _ _, Left.of rfl⟩
       · intro vs X wq K;obtain ⟨_, e5, k5⟩ := K.dep 5 rfl rfl rfl;refine zc 105 (undef) rfl e5 ?_;obtain ⟨_, e3, k3⟩ := K.dep 3 rfl rfl rfl;refine zc 103 (.bool false) rfl e3 ?_;exact zd rfl ⟨Below.refl _ _, Left.of rfl⟩
       · intro vs X wq K;obtain ⟨_, e3, k3⟩ := K.dep 3 rfl rfl rfl;refine zc 103 (.bool false) rfl e3 ?_;exact zd rfl ⟨Below.refl _ _, Left.of rfl⟩
       · intro vs X wq K;obtain ⟨_, e7, k7⟩ := K.dep 7 rfl rfl rfl;refine zc 107 (undef) rfl e7 ?_;obtain ⟨_, e3, k3⟩ := K.dep 3 rfl rfl rfl;refine zc 103 (.bool false) rfl e3 ?_;exact zd rfl ⟨Below.refl _ _, Left.of rfl⟩
       · intro vs X wq K;obtain ⟨_, e8, k8⟩ := K.dep 8 rfl rfl rfl;refine zc 108 (undef) rfl e8 ?_;obtain ⟨_, e3, k3⟩ := K.dep 3 rfl rfl rfl;refine zc 103 (.bool false) rfl e3 ?_;exact zd rfl ⟨Below.refl _ _, Left.of rfl⟩
       · intro vs X wq K;obtain ⟨_, e9, k9⟩ := K.dep 9 rfl rfl rfl;refine zc 109 (undef) rfl e9 ?_;obtain ⟨_, e3, k3⟩ := K.dep 3 rfl rfl rfl;refine zc 103 (.bool false) rfl e3 ?_;exact zd rfl ⟨Below.refl _ _, Left.of rfl⟩
       · intro vs X wq K;obtain ⟨_, e10, k10⟩ := K.dep 10 rfl rfl rfl;refine zc 110 (undef) rfl e10 ?_;obtain ⟨_, e3, k3⟩ := K.dep 3 rfl rfl rfl;refine zc 103 (.bool false) rfl e3 ?_;exact zd rfl ⟨Below.refl _ _, Left.of rfl⟩
       · intro vs X wq K;obtain ⟨_, e6, k6⟩ := K.dep 6 rfl rfl rfl;refine zc 106 (undef) rfl e6 ?_;obtain ⟨_, e11, k11⟩ := K.dep 11 rfl rfl rfl;refine zc 111 (undef) rfl e11 ?_;obtain ⟨_, e3, k3⟩ := K.dep 3 rfl rfl rfl;refine zc 103 (.bool false) rfl e3 ?_;exact zd rfl ⟨Below.refl _ _, Left.of rfl⟩
       · intro vs X wq K;obtain ⟨_, e3, k3⟩ := K.dep 3 rfl rfl rfl;refine zc 103 (.bool false) rfl e3 ?_;obtain ⟨_, e12, k12⟩ := K.dep 12 rfl rfl rfl;refine zc 112 (undef) rfl e12 ?_;exact zm rfl rfl ⟨Below.refl _ _, Left.of rfl⟩
       · intro vs X wq K;obtain ⟨_, e13, k13⟩ := K.dep 13 rfl rfl rfl;refine zc 113 (.bool false) rfl e13 ?_;exact yw rfl ⟨Below.refl _ _, Left.of rfl⟩
     intro vs w12 LE AO AL AF AA;have hbd : Below (wE).heap.size (wE) w12 := (((Ext.refl No (wE)).drew).trans LE).toBelow;obtain ⟨_, e14, k14⟩ := AL.2.2.2.2.2.2.2.2.2.2.2.2.2.2.1;refine qy (τ := [(4, _), (5, _), (11, _), (13, _), (99, .bool false)]) ⟨rfl, rfl, rfl, rfl, congrArg some e14, trivial⟩ ?_;clear AL AF AA AO;have E3f := Ext.of_below hbd No
     refine zj (zw rfl (srx (za rfl (zf Try.underlying67 rfl sz3 (by decide) rfl (za rfl (zk Try.underlying3 rfl rfl (BsE.ext E3f (fun h ↦ h.elim)) rfl (za rfl (yl rfl rfl (zq 121 (.bool false) rfl ((by congr 1; rw [beq_eq_false_iff_ne]; omega : (.bool (((lkK W top x : Nat) : Int) == 4) : Value) = _)) ?_)))))))));have EF := E3f
     have BvZ := BvE.ext EF (fun h => h.elim)
     refine mvx rfl (za rfl (zd rfl (za rfl (zd rfl (za rfl (zd rfl (za rfl (zm rfl rfl (mvx rfl (za rfl (zd rfl (za rfl (zd rfl (za rfl (zd rfl (za rfl (zd rfl (za rfl (zm rfl rfl (mvx rfl (za rfl (zd rfl (za rfl (zd rfl (za rfl (zd rfl (za rfl (zd rfl (za rfl (zd rfl (za rfl (zd rfl (za rfl (zd rfl (za rfl (zd rfl (za rfl (zd rfl (za rfl (zd rfl (za rfl (zm rfl rfl (anx rfl (zw rfl (zt (zx (zj (srx (za rfl (qb (cs := #[.int .i64 0, .bool false, .bool false, .slice none 0 0, .int .u64 0, .string ⟨#[]⟩, .slice none 0 0]) zkx og rfl rfl (yn (yi vi rfl rfl BvZ rfl rfl rfl ?_))))))))))))))))))))))))))))))))))))))))))))))))))))
     rintro wY BvY EY;refine anx rfl (zo (zn (rs := [.cell 4 43, .tmp 5]) (vs := [_, _]) rfl ⟨⟨_, rfl, qk Try.underlying43 rfl vi BvY rfl⟩, rfl, trivial⟩ ?_));exact ⟨none, 0, by rw [hnone]; rfl, by rw [hnone]; exact go, ((hEE.step EF (fun _ h => h.elim)).step EY (fun q hq => Or.inl (show w.heap.size ≤ q by have := qd hq; omega))).below (fun _ h => h)⟩
   ·
    by_cases k4 : lkK W top x = 4
    ·
     refine mvx rfl (za rfl (zd rfl (za rfl (zd rfl (za rfl (zd rfl (za rfl (zm rfl rfl (mvx rfl (za rfl (zd rfl (za rfl (zd rfl (za rfl (zd rfl (za rfl (zd rfl (za rfl (zm rfl rfl (anx rfl (zw rfl (zl ?_))))))))))))))))))))))
     refine qt (No) Mut.none_ [] [] (gg [Fx.of (.agg #[.int .i64 ((lkK W top x : Nat) : Int), .int .i64 ((lkT W top x : Nat) : Int), .int .i64 ((lkR W top x : Nat) : Int)]),
      Fx.of (.agg #[.int .i64 3, .int .i64 0, .int .i64 1]),
      Fx.of (.bool false),
      Fx.of (.bool false),
      Fx.of undef,
      Fx.of undef,
      Fx.of undef,
      Fx.of undef,
      Fx.of undef,
      Fx.of undef,
      Fx.of undef,
      Fx.of undef,
      Fx.of undef,
      Fx.of (.bool false),
      Fx.of (.bool false)]) vu rfl trivial (fun _ h => by cases h) ?_ ?_
     · refine ⟨?_, ?_, ?_, ?_, ?_, ?_, ?_, ?_, ?_, ?_, ?_, ?_, ?_, ?_, ?_, trivial⟩
       · intro vs X wq K;have LE := K.1;exact zz Try.underlying67 rfl xe rfl (qj LE BsE) rfl ⟨Below.refl _ _, Left.of rfl⟩
       · intro vs X wq K;exact qb (cs := #[.int .i64 3, .int .i64 0, .int .i64 1]) pl67 xw rfl rfl ⟨Below.refl _ _, Left.of rfl⟩
       · intro vs X wq K;obtain ⟨_, e0, k0⟩ := K.dep 0 rfl rfl rfl;refine zc 100 (.agg #[.int .i64 ((lkK W top x : Nat) : Int), .int .i64 ((lkT W top x : Nat) : Int), .int .i64 ((lkR W top x : Nat) : Int)]) rfl e0 ?_;obtain ⟨_, e1, k1⟩ := K.dep 1 rfl rfl rfl;refine zc 101 (.agg #[.int .i64 3, .int .i64 0, .int .i64 1]) rfl e1 ?_
         exact zlv rfl rfl (by omega) ⟨Below.refl _ _, Left.of rfl⟩
       · intro vs X wq K;obtain ⟨_, e2, k2⟩ := K.dep 2 rfl rfl rfl;refine zc 102 (.bool false) rfl e2 ?_;exact zp rfl ⟨Below.refl _ _, Left.of rfl⟩
       · intro vs X wq K;obtain ⟨_, e3, k3⟩ := K.dep 3 rfl rfl rfl;refine zc 103 (.bool false) rfl e3 ?_;exact zd rfl ⟨Below.refl _ _, Left.of rfl⟩
       · intro vs X wq K;obtain ⟨_, e4, k4⟩ := K.dep 4 rfl rfl rfl;refine zc 104 (undef) rfl e4 ?_;obtain ⟨_, e3, k3⟩ := K.dep 3 rfl rfl rfl;refine zc 103 (.bool false) rfl e3 ?_;exact zd rfl ⟨Below.refl _ _, Left.of rfl⟩
       · intro vs X wq K;obtain ⟨_, e5, k5⟩ := K.dep 5 rfl rfl rfl;refine zc 105 (undef) rfl e5 ?_;obtain ⟨_, e3, k3⟩ := K.dep 3 rfl rfl rfl;refine zc 103 (.bool false) rfl e3 ?_;exact zd rfl ⟨Below.refl _ _, Left.of rfl⟩
       · intro vs X wq K;obtain ⟨_, e3, k3⟩ := K.dep 3 rfl rfl rfl;refine zc 103 (.bool false) rfl e3 ?_;exact zd rfl ⟨Below.refl _ _, Left.of rfl⟩
       · intro vs X wq K;obtain ⟨_, e7, k7⟩ := K.dep 7 rfl rfl rfl;refine zc 107 (undef) rfl e7 ?_;obtain ⟨_, e3, k3⟩ := K.dep 3 rfl rfl rfl;refine zc 103 (.bool false) rfl e3 ?_;exact zd rfl ⟨Below.refl _ _, Left.of rfl⟩
       · intro vs X wq K;obtain ⟨_, e8, k8⟩ := K.dep 8 rfl rfl rfl;refine zc 108 (undef) rfl e8 ?_;obtain ⟨_, e3, k3⟩ := K.dep 3 rfl rfl rfl;refine zc 103 (.bool false) rfl e3 ?_;exact zd rfl ⟨Below.refl _ _, Left.of rfl⟩
       · intro vs X wq K;obtain ⟨_, e9, k9⟩ := K.dep 9 rfl rfl rfl;refine zc 109 (undef) rfl e9 ?_;obtain ⟨_, e3, k3⟩ := K.dep 3 rfl rfl rfl;refine zc 103 (.bool false) rfl e3 ?_;exact zd rfl ⟨Below.refl _ _, Left.of rfl⟩
       · intro vs X wq K;obtain ⟨_, e10, k10⟩ := K.dep 10 rfl rfl rfl;refine zc 110 (undef) rfl e10 ?_;obtain ⟨_, e3, k3⟩ := K.dep 3 rfl rfl rfl;refine zc 103 (.bool false) rfl e3 ?_;exact zd rfl ⟨Below.refl _ _, Left.of rfl⟩
       · intro vs X wq K;obtain ⟨_, e6, k6⟩ := K.dep 6 rfl rfl rfl;refine zc 106 (undef) rfl e6 ?_;obtain ⟨_, e11, k11⟩ := K.dep 11 rfl rfl rfl;refine zc 111 (undef) rfl e11 ?_;obtain ⟨_, e3, k3⟩ := K.dep 3 rfl rfl rfl;refine zc 103 (.bool false) rfl e3 ?_;exact zd rfl ⟨Below.refl _ _, Left.of rfl⟩
       · intro vs X wq K;obtain ⟨_, e3, k3⟩ := K.dep 3 rfl rfl rfl;refine zc 103 (.bool false) rfl e3 ?_;obtain ⟨_, e12, k12⟩ := K.dep 12 rfl rfl rfl;refine zc 112 (undef) rfl e12 ?_;exact zm rfl rfl ⟨Below.refl _ _, Left.of rfl⟩
       · intro vs X wq K;obtain ⟨_, e13, k13⟩ := K.dep 13 rfl rfl rfl;refine zc 113 (.bool false) rfl e13 ?_;exact yw rfl ⟨Below.refl _ _, Left.of rfl⟩
     intro vs w13 LE AO AL AF AA;have hbd : Below (wE).heap.size (wE) w13 := (((Ext.refl No (wE)).drew).trans LE).toBelow;obtain ⟨_, e14, k14⟩ := AL.2.2.2.2.2.2.2.2.2.2.2.2.2.2.1;refine qy (τ := [(4, _), (5, _), (11, _), (13, _), (99, .bool false)]) ⟨rfl, rfl, rfl, rfl, congrArg some e14, trivial⟩ ?_;clear AL AF AA AO;have E3f := Ext.of_below hbd No
     refine zj (zw rfl (srx (za rfl (zf Try.underlying67 rfl sz3 (by decide) rfl (za rfl (zk Try.underlying3 rfl rfl (BsE.ext E3f (fun h ↦ h.elim)) rfl (za rfl (yl rfl rfl (zq 121 (.bool true) rfl ((by rw [k4]; rfl : (.bool (((lkK W top x : Nat) : Int) == 4) : Value) = _)) (mvx rfl (onx rfl (zp rfl (onx rfl (qe Try.underlying22 rfl (onx rfl (vf rfl rfl ?_))))))))))))))))
     have EF := E3f;by_cases q4 : 0 < R.length
     ·
      refine zq 125 (.bool true) rfl ((by rw [decide_eq_true]; omega : (.bool (decide ((0 : Int) < ((R.length : Nat) : Int))) : Value) = _)) ?_;obtain ⟨gl, hgl, hcl⟩ := own_room Oi (by omega);refine zq 13 (.slice (some ⟨gl, 0, none⟩) R.length d) rfl ((by rw [hgl] : (.slice D R.length d : Value) = _)) ?_;subst hgl;obtain ⟨gm, om, hA0, hgm, hcm⟩ := hRw.at q4;cases hA0
      refine za rfl (ya rfl rfl (mvx rfl (onx rfl (zp rfl (onx rfl (yc (j := 0) Try.underlying22 vc rfl rfl rfl q4 (onx rfl (qm Try.underlying25 rfl rfl ((EF.cell (show gl < _ from hgm) (fun h ↦ h.elim)).trans hcm) (onx rfl (kr rfl rfl ?_))))))))));by_cases m4 : wat R 0 ≤ 20000
      ·
       refine zq 131 (.bool true) rfl ((by rw [decide_eq_true]; omega : (.bool (decide (((wat R 0 : Nat) : Int) ≤ 20000)) : Value) = _)) (za rfl (ya rfl rfl (mvx rfl (onx rfl (zp rfl (onx rfl (qe Try.underlying22 rfl (onx rfl (zp rfl (onx rfl (yc (j := 0) Try.underlying22 vc rfl rfl rfl q4 (onx rfl (qm Try.underlying25 rfl rfl ((EF.cell (show gl < _ from hgm) (fun h ↦ h.elim)).trans hcm) (onx rfl (qc Try.underlying3 Try.underlying25 rfl (show IntKind.i64.wrap ((wat R 0 : Nat) : Int) = ((wat R 0 : Nat) : Int) from zy (by omega)) (onx rfl (yp rfl rfl (zy (by omega)) (zq 140 (.int .i64 ((wat R 0 + 7 : Nat) : Int)) rfl ((by first | rfl | (congr 1; omega) : (.int .i64 (((wat R 0 : Nat) : Int) + 7) : Value) = _)) (onx rfl (xx rfl rfl (by decide) (show IntKind.i64.wrap (((wat R 0 + 7 : Nat) : Int).tdiv 8) = (((wat R 0 + 7) / 8 : Nat) : Int) from by rw [Int.tdiv_eq_ediv_of_nonneg (by omega)]; exact zy (by omega)) (onx rfl (yp rfl rfl (zy (by omega)) (zq 142 (.int .i64 ((1 + (wat R 0 + 7) / 8 : Nat) : Int)) rfl ((by first | rfl | (congr 1; omega) : (.int .i64 (1 + (((wat R 0 + 7) / 8 : Nat) : Int)) : Value) = _)) (onx rfl (yl rfl rfl ?_)))))))))))))))))))))))))
       by_cases e4 : R.length = 1 + (wat R 0 + 7) / 8
       ·
        refine zq 143 (.bool true) rfl ((by rw [← e4]; simp : (.bool (((R.length : Nat) : Int) == ((1 + (wat R 0 + 7) / 8 : Nat) : Int)) : Value) = _)) (za rfl (ya rfl rfl (anx rfl (ye rfl (srx (mvx rfl ?_))))));by_cases t4 : xb (ka R) = R
        ·
         refine za rfl (zi en53 rfl (((otext_any _ (some ⟨gl, 0, none⟩) R d wE.heap.size (hRw.no EF) EF.size m4 e4).mono (fun _ _ h => by rw [zyx t4] at h; exact h)).mono ?_));rintro e w14 ⟨rfl, hb⟩;refine ⟨_, rfl, ?_⟩;have EH := EF.trans (Ext.of_below hb No);have BvZ := BvE.ext EH (fun h => h.elim)
         refine za rfl (zg rfl rfl (za rfl (zg rfl rfl (yn (yi vi rfl rfl BvZ rfl rfl rfl ?_)))));rintro wY BvY EY;refine anx rfl (zo (zr (zh (zn (rs := [.cell 4 43, .tmp 5]) (vs := [_, _]) rfl ⟨⟨_, rfl, qk Try.underlying43 rfl vi BvY rfl⟩, rfl, trivial⟩ ?_))))
         exact ⟨none, 0, by rw [rawO_s ⟨k4, q4, m4, e4⟩, zyx t4]; rfl, by rw [rawO_s ⟨k4, q4, m4, e4⟩, zyx t4]; exact go, ((hEE.step EH (fun _ h => h.elim)).step EY (fun q hq => Or.inl (show w.heap.size ≤ q by have := qd hq; omega))).below (fun _ h => h)⟩
        ·
         refine za rfl (zi en53 rfl (((otext_any _ (some ⟨gl, 0, none⟩) R d wE.heap.size (hRw.no EF) EF.size m4 e4).mono (fun _ _ h => by rw [yhx t4] at h; exact h)).mono ?_));rintro e w15 ⟨rfl, hb⟩;refine ⟨_, rfl, ?_⟩;have EH := EF.trans (Ext.of_below hb No);have BvZ := BvE.ext EH (fun h => h.elim)
         refine za rfl (zg rfl rfl (za rfl (zg rfl rfl (yn (yi vi rfl rfl BvZ rfl rfl rfl ?_)))));rintro wY BvY EY;refine anx rfl (zo (zr (zh (zn (rs := [.cell 4 43, .tmp 5]) (vs := [_, _]) rfl ⟨⟨_, rfl, qk Try.underlying43 rfl vi BvY rfl⟩, rfl, trivial⟩ ?_))))
         exact ⟨none, 0, by rw [rawO_s ⟨k4, q4, m4, e4⟩, yhx t4]; rfl, by rw [rawO_s ⟨k4, q4, m4, e4⟩, yhx t4]; exact go, ((hEE.step EH (fun _ h => h.elim)).step EY (fun q hq => Or.inl (show w.heap.size ≤ q by have := qd hq; omega))).below (fun _ h => h)⟩
       ·
        refine zq 143 (.bool false) rfl ((by congr 1; rw [beq_eq_false_iff_ne]; omega : (.bool (((R.length : Nat) : Int) == ((1 + (wat R 0 + 7) / 8 : Nat) : Int)) : Value) = _)) ?_;have hnone : zik (lkK W top x) R = none := zsq (by omega) (by omega) (by omega);have BvZ := BvE.ext EF (fun h => h.elim)
        refine za rfl (ya rfl rfl (anx rfl (zw rfl (zt (zx (zj (srx (za rfl (qb (cs := #[.int .i64 0, .bool false, .bool false, .slice none 0 0, .int .u64 0, .string ⟨#[]⟩, .slice none 0 0]) zkx og rfl rfl (yn (yi vi rfl rfl BvZ rfl rfl rfl ?_)))))))))));rintro wY BvY EY
        refine anx rfl (zo (zn (rs := [.cell 4 43, .tmp 5]) (vs := [_, _]) rfl ⟨⟨_, rfl, qk Try.underlying43 rfl vi BvY rfl⟩, rfl, trivial⟩ ?_));exact ⟨none, 0, by rw [hnone]; rfl, by rw [hnone]; exact go, ((hEE.step EF (fun _ h => h.elim)).step EY (fun q hq => Or.inl (show w.heap.size ≤ q by have := qd hq; omega))).below (fun _ h => h)⟩
      ·
       refine zq 131 (.bool false) rfl ((by rw [decide_eq_false]; omega : (.bool (decide (((wat R 0 : Nat) : Int) ≤ 20000)) : Value) = _)) ?_;have hnone : zik (lkK W top x) R = none := zsq (by omega) (by omega) (by omega);have BvZ := BvE.ext EF (fun h => h.elim)
       refine za rfl (ya rfl rfl (mvx rfl (za rfl (zd rfl (za rfl (zd rfl (za rfl (zd rfl (za rfl (zd rfl (za rfl (zd rfl (za rfl (zd rfl (za rfl (zd rfl (za rfl (zd rfl (za rfl (zd rfl (za rfl (zd rfl (za rfl (zm rfl rfl (anx rfl (zw rfl (zt (zx (zj (srx (za rfl (qb (cs := #[.int .i64 0, .bool false, .bool false, .slice none 0 0, .int .u64 0, .string ⟨#[]⟩, .slice none 0 0]) zkx og rfl rfl (yn (yi vi rfl rfl BvZ rfl rfl rfl ?_))))))))))))))))))))))))))))))))))
       rintro wY BvY EY;refine anx rfl (zo (zn (rs := [.cell 4 43, .tmp 5]) (vs := [_, _]) rfl ⟨⟨_, rfl, qk Try.underlying43 rfl vi BvY rfl⟩, rfl, trivial⟩ ?_));exact ⟨none, 0, by rw [hnone]; rfl, by rw [hnone]; exact go, ((hEE.step EF (fun _ h => h.elim)).step EY (fun q hq => Or.inl (show w.heap.size ≤ q by have := qd hq; omega))).below (fun _ h => h)⟩
     ·
      refine zq 125 (.bool false) rfl ((by rw [decide_eq_false]; omega : (.bool (decide ((0 : Int) < ((R.length : Nat) : Int))) : Value) = _)) ?_;have hnone : zik (lkK W top x) R = none := zsq (by omega) (by omega) (by omega);have BvZ := BvE.ext EF (fun h => h.elim)
      refine za rfl (ya rfl rfl (mvx rfl (za rfl (zd rfl (za rfl (zd rfl (za rfl (zd rfl (za rfl (zd rfl (za rfl (zm rfl rfl (mvx rfl (za rfl (zd rfl (za rfl (zd rfl (za rfl (zd rfl (za rfl (zd rfl (za rfl (zd rfl (za rfl (zd rfl (za rfl (zd rfl (za rfl (zd rfl (za rfl (zd rfl (za rfl (zd rfl (za rfl (zm rfl rfl (anx rfl (zw rfl (zt (zx (zj (srx (za rfl (qb (cs := #[.int .i64 0, .bool false, .bool false, .slice none 0 0, .int .u64 0, .string ⟨#[]⟩, .slice none 0 0]) zkx og rfl rfl (yn (yi vi rfl rfl BvZ rfl rfl rfl ?_)))))))))))))))))))))))))))))))))))))))))))))
      rintro wY BvY EY;refine anx rfl (zo (zn (rs := [.cell 4 43, .tmp 5]) (vs := [_, _]) rfl ⟨⟨_, rfl, qk Try.underlying43 rfl vi BvY rfl⟩, rfl, trivial⟩ ?_));exact ⟨none, 0, by rw [hnone]; rfl, by rw [hnone]; exact go, ((hEE.step EF (fun _ h => h.elim)).step EY (fun q hq => Or.inl (show w.heap.size ≤ q by have := qd hq; omega))).below (fun _ h => h)⟩
    ·
     have hnone : zik (lkK W top x) R = none := zsq (by omega) (by omega) (by omega);refine mvx rfl (za rfl (zd rfl (za rfl (zd rfl (za rfl (zd rfl (za rfl (zm rfl rfl (mvx rfl (za rfl (zd rfl (za rfl (zd rfl (za rfl (zd rfl (za rfl (zd rfl (za rfl (zm rfl rfl (anx rfl (zw rfl (zl ?_))))))))))))))))))))))
     refine qt (No) Mut.none_ [] [] (gg [Fx.of (.agg #[.int .i64 ((lkK W top x : Nat) : Int), .int .i64 ((lkT W top x : Nat) : Int), .int .i64 ((lkR W top x : Nat) : Int)]),
      Fx.of (.agg #[.int .i64 3, .int .i64 0, .int .i64 1]),
      Fx.of (.bool false),
      Fx.of (.bool false),
      Fx.of undef,
      Fx.of undef,
      Fx.of undef,
      Fx.of undef,
      Fx.of undef,
      Fx.of undef,
      Fx.of undef,
      Fx.of undef,
      Fx.of undef,
      Fx.of (.bool false),
      Fx.of (.bool false)]) vu rfl trivial (fun _ h => by cases h) ?_ ?_
     · refine ⟨?_, ?_, ?_, ?_, ?_, ?_, ?_, ?_, ?_, ?_, ?_, ?_, ?_, ?_, ?_, trivial⟩
       · intro vs X wq K;have LE := K.1;exact zz Try.underlying67 rfl xe rfl (qj LE BsE) rfl ⟨Below.refl _ _, Left.of rfl⟩
       · intro vs X wq K;exact qb (cs := #[.int .i64 3, .int .i64 0, .int .i64 1]) pl67 xw rfl rfl ⟨Below.refl _ _, Left.of rfl⟩
       · intro vs X wq K;obtain ⟨_, e0, k0⟩ := K.dep 0 rfl rfl rfl;refine zc 100 (.agg #[.int .i64 ((lkK W top x : Nat) : Int), .int .i64 ((lkT W top x : Nat) : Int), .int .i64 ((lkR W top x : Nat) : Int)]) rfl e0 ?_;obtain ⟨_, e1, k1⟩ := K.dep 1 rfl rfl rfl;refine zc 101 (.agg #[.int .i64 3, .int .i64 0, .int .i64 1]) rfl e1 ?_
         exact zlv rfl rfl (by omega) ⟨Below.refl _ _, Left.of rfl⟩
       · intro vs X wq K;obtain ⟨_, e2, k2⟩ := K.dep 2 rfl rfl rfl;refine zc 102 (.bool false) rfl e2 ?_;exact zp rfl ⟨Below.refl _ _, Left.of rfl⟩
       · intro vs X wq K;obtain ⟨_, e3, k3⟩ := K.dep 3 rfl rfl rfl;refine zc 103 (.bool false) rfl e3 ?_;exact zd rfl ⟨Below.refl _ _, Left.of rfl⟩
       · intro vs X wq K;obtain ⟨_, e4, k4⟩ := K.dep 4 rfl rfl rfl;refine zc 104 (undef) rfl e4 ?_;obtain ⟨_, e3, k3⟩ := K.dep 3 rfl rfl rfl;refine zc 103 (.bool false) rfl e3 ?_;exact zd rfl ⟨Below.refl _ _, Left.of rfl⟩
       · intro vs X wq K;obtain ⟨_, e5, k5⟩ := K.dep 5 rfl rfl rfl;refine zc 105 (undef) rfl e5 ?_;obtain ⟨_, e3, k3⟩ := K.dep 3 rfl rfl rfl;refine zc 103 (.bool false) rfl e3 ?_;exact zd rfl ⟨Below.refl _ _, Left.of rfl⟩
       · intro vs X wq K;obtain ⟨_, e3, k3⟩ := K.dep 3 rfl rfl rfl;refine zc 103 (.bool false) rfl e3 ?_;exact zd rfl ⟨Below.refl _ _, Left.of rfl⟩
       · intro vs X wq K;obtain ⟨_, e7, k7⟩ := K.dep 7 rfl rfl rfl;refine zc 107 (undef) rfl e7 ?_;obtain ⟨_, e3, k3⟩ := K.dep 3 rfl rfl rfl;refine zc 103 (.bool false) rfl e3 ?_;exact zd rfl ⟨Below.refl _ _, Left.of rfl⟩
       · intro vs X wq K;obtain ⟨_, e8, k8⟩ := K.dep 8 rfl rfl rfl;refine zc 108 (undef) rfl e8 ?_;obtain ⟨_, e3, k3⟩ := K.dep 3 rfl rfl rfl;refine zc 103 (.bool false) rfl e3 ?_;exact zd rfl ⟨Below.refl _ _, Left.of rfl⟩
       · intro vs X wq K;obtain ⟨_, e9, k9⟩ := K.dep 9 rfl rfl rfl;refine zc 109 (undef) rfl e9 ?_;obtain ⟨_, e3, k3⟩ := K.dep 3 rfl rfl rfl;refine zc 103 (.bool false) rfl e3 ?_;exact zd rfl ⟨Below.refl _ _, Left.of rfl⟩
       · intro vs X wq K;obtain ⟨_, e10, k10⟩ := K.dep 10 rfl rfl rfl;refine zc 110 (undef) rfl e10 ?_;obtain ⟨_, e3, k3⟩ := K.dep 3 rfl rfl rfl;refine zc 103 (.bool false) rfl e3 ?_;exact zd rfl ⟨Below.refl _ _, Left.of rfl⟩
       · intro vs X wq K;obtain ⟨_, e6, k6⟩ := K.dep 6 rfl rfl rfl;refine zc 106 (undef) rfl e6 ?_;obtain ⟨_, e11, k11⟩ := K.dep 11 rfl rfl rfl;refine zc 111 (undef) rfl e11 ?_;obtain ⟨_, e3, k3⟩ := K.dep 3 rfl rfl rfl;refine zc 103 (.bool false) rfl e3 ?_;exact zd rfl ⟨Below.refl _ _, Left.of rfl⟩
       · intro vs X wq K;obtain ⟨_, e3, k3⟩ := K.dep 3 rfl rfl rfl;refine zc 103 (.bool false) rfl e3 ?_;obtain ⟨_, e12, k12⟩ := K.dep 12 rfl rfl rfl;refine zc 112 (undef) rfl e12 ?_;exact zm rfl rfl ⟨Below.refl _ _, Left.of rfl⟩
       · intro vs X wq K;obtain ⟨_, e13, k13⟩ := K.dep 13 rfl rfl rfl;refine zc 113 (.bool false) rfl e13 ?_;exact yw rfl ⟨Below.refl _ _, Left.of rfl⟩
     intro vs w16 LE AO AL AF AA;have hbd : Below (wE).heap.size (wE) w16 := (((Ext.refl No (wE)).drew).trans LE).toBelow;obtain ⟨_, e14, k14⟩ := AL.2.2.2.2.2.2.2.2.2.2.2.2.2.2.1;refine qy (τ := [(4, _), (5, _), (11, _), (13, _), (99, .bool false)]) ⟨rfl, rfl, rfl, rfl, congrArg some e14, trivial⟩ ?_;clear AL AF AA AO;have E3f := Ext.of_below hbd No
     refine zj (zw rfl (srx (za rfl (zf Try.underlying67 rfl sz3 (by decide) rfl (za rfl (zk Try.underlying3 rfl rfl (BsE.ext E3f (fun h ↦ h.elim)) rfl (za rfl (yl rfl rfl (zq 121 (.bool false) rfl ((by congr 1; rw [beq_eq_false_iff_ne]; omega : (.bool (((lkK W top x : Nat) : Int) == 4) : Value) = _)) ?_)))))))));have EF := E3f
     have BvZ := BvE.ext EF (fun h => h.elim)
     refine mvx rfl (za rfl (zd rfl (za rfl (zd rfl (za rfl (zd rfl (za rfl (zm rfl rfl (mvx rfl (za rfl (zd rfl (za rfl (zd rfl (za rfl (zd rfl (za rfl (zd rfl (za rfl (zm rfl rfl (mvx rfl (za rfl (zd rfl (za rfl (zd rfl (za rfl (zd rfl (za rfl (zd rfl (za rfl (zd rfl (za rfl (zd rfl (za rfl (zd rfl (za rfl (zd rfl (za rfl (zd rfl (za rfl (zd rfl (za rfl (zm rfl rfl (anx rfl (zw rfl (zt (zx (zj (srx (za rfl (qb (cs := #[.int .i64 0, .bool false, .bool false, .slice none 0 0, .int .u64 0, .string ⟨#[]⟩, .slice none 0 0]) zkx og rfl rfl (yn (yi vi rfl rfl BvZ rfl rfl rfl ?_))))))))))))))))))))))))))))))))))))))))))))))))))))
     rintro wY BvY EY;refine anx rfl (zo (zn (rs := [.cell 4 43, .tmp 5]) (vs := [_, _]) rfl ⟨⟨_, rfl, qk Try.underlying43 rfl vi BvY rfl⟩, rfl, trivial⟩ ?_));exact ⟨none, 0, by rw [hnone]; rfl, by rw [hnone]; exact go, ((hEE.step EF (fun _ h => h.elim)).step EY (fun q hq => Or.inl (show w.heap.size ≤ q by have := qd hq; omega))).below (fun _ h => h)⟩
theorem otk_any : Calls Try.prog 35 #[xj A W c top, .int .u64 ((x : Nat) : Int)] w (RetTk w (jp W top x)) := by
 by_cases h1 : yu x = 1
 · exact otk_1 w A W c n top x hM hx h1
 by_cases h2 : yu x = 2
 · exact otk_2 w A W c n top x hM hx h2
 by_cases h : lkB W top x = true ∧ lkT W top x = 0
 · exact otk_4 w A W c n top x hM hx h1 h2 h
 · exact otk_3 w A W c n top x hM hx h1 h2 h
end
end Go.Proofs.Ytebjkmjfcijebaa
namespace Go.Proofs.Ytebjkmjfcijebaa
open Go.RowKit
set_option maxRecDepth 100000
attribute [local irreducible] OW RS
section
variable (w : World) (ua ub : PV) (A1 B1 A2 B2 : Option Addr) (c1 d1 c2 d2 : Nat) (hx : Nums w A1 ua.xs) (hl : ua.xs.length ≤ 9223372036854775807) (ha : ua.bits < 18446744073709551616) (hy : Nums w A2 ub.xs) (hl' : ub.xs.length ≤ 9223372036854775807) (hb0 : ub.bits < 18446744073709551616)
theorem pl_number : Calls Try.prog 54 #[.agg #[.int .i64 ua.k, .bool ua.yes, .bool ua.neg, .slice A1 ua.xs.length c1, .int .u64 ((ua.bits : Nat) : Int), .string ua.s, .slice B1 ua.ni d1]] w fun e w' => e = .returned (.bool (zkz ua.k)) ∧ Below w.heap.size w w' := by
 refine yb Try.func54 rfl Try.ntmps54 rfl ?_;have HF : Per (No) w (fun _ => True) := Per.true_;have LW := erx (No) w;have XLW := grx (No) w;have E := erx (No) w;refine srx (za rfl (yt rfl ?_));intro gb1 w2 Bb1 Eb1 Gb1;have Gb1 : _ ≤ gb1 := Nat.le_trans E.size Gb1;have GLb1 := Nat.le_trans LW.size Gb1;replace E := E.trans Eb1.no;replace HF := HF.cons (yj Gb1)
 replace E := E.cons (some gb1);replace XLW := Mut.grow XLW (fun k e => Or.inr (Nat.le_trans LW.size ((yj Gb1) k e)));replace HF := HF.on E;replace LW := LW.step E XLW;have SB : ∀ q9, No q9 → Mut [(some gb1)] q9 := (Mut.skip Mut.nil_);replace HF := HF.less SB;replace XLW := fun k h => XLW k (SB k h);clear SB;replace E := erx (No) w2;replace HF := HF.and (Per.blkN Bb1 NotIn.nil)
 refine anx rfl (srx (za rfl (zf Try.underlying43 rfl sz3 (by decide) rfl (za rfl (zk Try.underlying3 rfl rfl (HF.on E).here.2 rfl (za rfl (jr rfl rfl (mvx rfl (vp 6 rfl (fun h1 => ?_) (fun h1 => ?_))))))))))
 ·
  replace h1 := of_decide_eq_true h1;refine onx rfl (zf Try.underlying43 rfl sz3 (by decide) rfl (onx rfl (zk Try.underlying3 rfl rfl (HF.on E).here.2 rfl (onx rfl (kr rfl rfl (za rfl (ya rfl rfl (anx rfl (zo (zn (rs := [.tmp 2]) (vs := [_]) rfl ⟨rfl, trivial⟩ ?_))))))))))
  exact ⟨by refine congrArg (fun z => Ending.returned (.bool z)) ?_; unfold zkz; first | (simp_all; done) | (simp_all; omega), (LW.step E XLW).toBelow⟩
 ·
  replace h1 := of_decide_eq_false h1;refine za rfl (zd rfl (za rfl (zd rfl (za rfl (zd rfl (za rfl (zm rfl rfl (anx rfl (zo (zn (rs := [.tmp 2]) (vs := [_]) rfl ⟨rfl, trivial⟩ ?_))))))))));exact ⟨by refine congrArg (fun z => Ending.returned (.bool z)) ?_; unfold zkz; first | (simp_all; done) | (simp_all; omega), (LW.step E XLW).toBelow⟩
include hx hl
theorem xa (r : Bool) (hr : PV.good ua = r) : Calls Try.prog 18 #[.agg #[.int .i64 ua.k, .bool ua.yes, .bool ua.neg, .slice A1 ua.xs.length c1, .int .u64 ((ua.bits : Nat) : Int), .string ua.s, .slice B1 ua.ni d1]] w fun e w' => e = .returned (.bool r) ∧ Below w.heap.size w w' := by
 subst hr;exact pgood_any w ua.k ua.yes ua.neg A1 B1 ua.xs c1 ua.bits ua.ni d1 ua.s hx hl
omit hx hl in
theorem pl_num (r : Bool) (hr : zkz ua.k = r) : Calls Try.prog 54 #[.agg #[.int .i64 ua.k, .bool ua.yes, .bool ua.neg, .slice A1 ua.xs.length c1, .int .u64 ((ua.bits : Nat) : Int), .string ua.s, .slice B1 ua.ni d1]] w fun e w' => e = .returned (.bool r) ∧ Below w.heap.size w w' := by
 subst hr;exact pl_number w ua A1 B1 c1 d1
omit hx hl
theorem zsv : Calls Try.prog 58 #[.agg #[.int .i64 ua.k, .bool ua.yes, .bool ua.neg, .slice A1 ua.xs.length c1, .int .u64 ((ua.bits : Nat) : Int), .string ua.s, .slice B1 ua.ni d1]] w (RetCnt w A1 ua.cn ua.xs ua.cx) := by
 refine yb Try.func58 rfl Try.ntmps58 rfl (srx (za rfl (yt rfl ?_)));rintro g1 wA BX E1 G1;refine za rfl (ym zez ?_);rintro g2 wB BY E2 G2;have BXb := BX.ext E2 (fun h => h.elim);have E12 := E1.trans E2
 refine rnx (zl (srx (za rfl (zf Try.underlying43 rfl sz3 (by decide) rfl (za rfl (zk Try.underlying3 rfl rfl BXb rfl (za rfl (yl rfl rfl (rnx (yv rfl (fun hk => ?_) (fun hk => ?_)))))))))))
 ·
  have hk1 : ua.k = 1 := by simpa using hk
  have e1 : ua.cn = false := by unfold PV.cn; rw [if_pos hk1]
  refine zl (srx (za rfl (zf Try.underlying43 rfl sz4 (by decide) rfl (za rfl (zk Try.underlying4 rfl rfl BXb rfl (rnx (yv rfl (fun hyes => ?_) (fun hyes => ?_))))))))
  ·
   have e2 : ua.cx = [1] := by unfold PV.cx; rw [if_pos hk1, if_pos hyes]
   refine srx (za rfl (zi en51 rfl ((zhv 1 _ (by decide) (by decide)).mono ?_)));rintro e w1 ⟨A3, c3, rfl, hO, hb⟩;refine ⟨_, rfl, ?_⟩;have E3 := Ext.of_below hb No;have BYc := BY.ext E3 (fun h => h.elim);refine yn (yi vk rfl rfl BYc rfl rfl rfl ?_);rintro wC BYd E4;have hs := E12.size;have h3 := own_later hO E4 BY.lt hs
   refine rnx (zo (zh (zh (zn (rs := [.cell 2 40]) (vs := [_]) rfl ⟨⟨_, rfl, qk Try.underlying40 rfl vk BYd rfl⟩, trivial⟩ ?_))));exact ⟨A3, c3, by rw [e1, e2, ← pl_one]; rfl, Or.inr (by rw [e2, ← pl_one]; exact h3), ((E12.trans E3).step E4 (fun q hq => Or.inr (by have := qd hq; have := E1.size; omega))).toBelow⟩
  ·
   have e2 : ua.cx = [] := by unfold PV.cx; rw [if_pos hk1, if_neg (by rw [hyes]; decide)]
   refine zt (zj (srx (za rfl (qb (cs := #[.bool false, .slice none 0 0]) pl40 zez rfl rfl (yn (yi vk rfl rfl BY rfl rfl rfl ?_))))));rintro wC BYd E4;refine rnx (zo (zh (zn (rs := [.cell 2 40]) (vs := [_]) rfl ⟨⟨_, rfl, qk Try.underlying40 rfl vk BYd rfl⟩, trivial⟩ ?_)))
   exact ⟨none, 0, by rw [e1, e2]; rfl, Or.inr (by rw [e2]; exact own_nil), (E12.step E4 (fun q hq => Or.inr (by have := qd hq; have := E1.size; omega))).toBelow⟩
 ·
  have hk1 : ua.k ≠ 1 := by simpa using hk
  have e1 : ua.cn = ua.neg := by unfold PV.cn; rw [if_neg hk1]
  have e2 : ua.cx = ua.xs := by unfold PV.cx; rw [if_neg hk1]
  refine zt (zj (srx (za rfl (zf Try.underlying43 rfl vk (by decide) rfl (za rfl (vr (cs := #[.bool ua.neg, .slice A1 ua.xs.length c1]) Try.underlying40 rfl vk rfl rfl (two_cells (BXb.cell 2) (BXb.cell 3)) (yn (yi vk rfl rfl BY rfl rfl rfl ?_))))))));rintro wC BYd E4;refine rnx (zo ?_)
  have E5 : Ext No w wC := E12.step E4 (fun q hq => Or.inr (by have := qd hq; have := E1.size; omega));refine zn (rs := [.cell 2 40]) (vs := [_]) rfl ⟨⟨_, rfl, qk Try.underlying40 rfl vk BYd rfl⟩, trivial⟩ ?_;exact ⟨A1, c1, by rw [e1, e2]; rfl, Or.inl ⟨rfl, e2⟩, E5.toBelow⟩
include hx hl ha hy hl' hb0
theorem pl_order : Calls Try.prog 55 #[.agg #[.int .i64 ua.k, .bool ua.yes, .bool ua.neg, .slice A1 ua.xs.length c1, .int .u64 ((ua.bits : Nat) : Int), .string ua.s, .slice B1 ua.ni d1], .agg #[.int .i64 ub.k, .bool ub.yes, .bool ub.neg, .slice A2 ub.xs.length c2, .int .u64 ((ub.bits : Nat) : Int), .string ub.s, .slice B2 ub.ni d2]] w fun e w' => e = .returned (.tuple #[.int .i64 (ordC ua ub), .bool (ordO ua ub)]) ∧ Below w.heap.size w w' := by
 have hcl := PV.cx_len hl;have hcl' := PV.cx_len hl';refine yb Try.func55 rfl Try.ntmps55 rfl ?_;have HF : Per (No) w (fun _ => True) := Per.true_;have LW := erx (No) w;have XLW := grx (No) w;have E := erx (No) w;replace HF := HF.on E;replace LW := LW.step E XLW;replace E := erx (No) w;replace HF := HF.and (Per.nums0 hx);replace HF := HF.on E;replace LW := LW.step E XLW
 replace E := erx (No) w;replace HF := HF.and (Per.nums0 hy);by_cases hk3 : ua.k = 3
 ·
  by_cases hj3 : ub.k = 3
  ·
   refine srx (za rfl (yt rfl ?_));intro gb1 w2 Bb1 Eb1 Gb1;have Gb1 : _ ≤ gb1 := Nat.le_trans E.size Gb1;have GLb1 := Nat.le_trans LW.size Gb1;replace E := E.trans Eb1.no;replace HF := HF.cons (yj Gb1);replace E := E.cons (some gb1);replace XLW := Mut.grow XLW (fun k e => Or.inr (Nat.le_trans LW.size ((yj Gb1) k e)));replace HF := HF.on E;replace LW := LW.step E XLW
   have SB : ∀ q9, No q9 → Mut [(some gb1)] q9 := (Mut.skip Mut.nil_);replace HF := HF.less SB;replace XLW := fun k h => XLW k (SB k h);clear SB;replace E := erx (No) w2;replace HF := HF.and (Per.blkN Bb1 NotIn.nil);refine za rfl (yt rfl ?_);intro gb3 w4 Bb3 Eb3 Gb3;have Gb3 : _ ≤ gb3 := Nat.le_trans E.size Gb3;have GLb3 := Nat.le_trans LW.size Gb3;replace E := E.trans Eb3.no
   replace HF := HF.cons (yj Gb3);replace E := E.cons (some gb3);replace XLW := Mut.grow XLW (fun k e => Or.inr (Nat.le_trans LW.size ((yj Gb3) k e)));replace HF := HF.on E;replace LW := LW.step E XLW;have SB : ∀ q9, No q9 → Mut [(some gb3)] q9 := (Mut.skip Mut.nil_);replace HF := HF.less SB;replace XLW := fun k h => XLW k (SB k h);clear SB;replace E := erx (No) w4
   replace HF := HF.and (Per.blkN Bb3 NotIn.nil)
   refine avx rfl (anx rfl (zl (yh (srx (za rfl (zf Try.underlying43 rfl sz3 (by decide) rfl (za rfl (zk Try.underlying3 rfl rfl (HF.on E).here.1.2 rfl (za rfl (yl rfl rfl (mvx rfl (zq 12 (.bool true) rfl ((by simp [hk3] : (.bool (ua.k == 3) : Value) = _)) (onx rfl (zf Try.underlying43 rfl sz3 (by decide) rfl (onx rfl (zk Try.underlying3 rfl rfl (HF.on E).here.2 rfl (onx rfl (yl rfl rfl (za rfl (ya rfl rfl (anx rfl (yd 8 (.bool true) rfl ((by simp [hj3] : (.bool (ub.k == 3) : Value) = _)) (ye rfl (srx (za rfl (zf Try.underlying43 rfl vc (by decide) rfl (za rfl (zk Try.underlying25 rfl rfl (HF.on E).here.1.2 rfl (za rfl (zf Try.underlying43 rfl vc (by decide) rfl (za rfl (zk Try.underlying25 rfl rfl (HF.on E).here.2 rfl (za rfl (zi en63 rfl ((cmp_any_r _ ua.bits ub.bits).mono ?_)))))))))))))))))))))))))))))))))))
   rintro e w5 ⟨rfl, hb⟩;refine ⟨_, rfl, ?_⟩;replace E := blx E hb;refine za rfl (zg rfl rfl (za rfl (zg rfl rfl (avx rfl (anx rfl (zo (zr (zh (zn (rs := [.tmp 4, .tmp 5]) (vs := [_, _]) rfl ⟨rfl, rfl, trivial⟩ ?_)))))))));exact ⟨by unfold ordC ordO; rw [if_pos hk3, if_pos hk3, if_pos hj3, if_pos hj3]; rfl, (LW.step E XLW).toBelow⟩
  ·
   refine srx (za rfl (yt rfl ?_));intro gb6 w7 Bb6 Eb6 Gb6;have Gb6 : _ ≤ gb6 := Nat.le_trans E.size Gb6;have GLb6 := Nat.le_trans LW.size Gb6;replace E := E.trans Eb6.no;replace HF := HF.cons (yj Gb6);replace E := E.cons (some gb6);replace XLW := Mut.grow XLW (fun k e => Or.inr (Nat.le_trans LW.size ((yj Gb6) k e)));replace HF := HF.on E;replace LW := LW.step E XLW
   have SB : ∀ q9, No q9 → Mut [(some gb6)] q9 := (Mut.skip Mut.nil_);replace HF := HF.less SB;replace XLW := fun k h => XLW k (SB k h);clear SB;replace E := erx (No) w7;replace HF := HF.and (Per.blkN Bb6 NotIn.nil);refine za rfl (yt rfl ?_);intro gb8 w9 Bb8 Eb8 Gb8;have Gb8 : _ ≤ gb8 := Nat.le_trans E.size Gb8;have GLb8 := Nat.le_trans LW.size Gb8;replace E := E.trans Eb8.no
   replace HF := HF.cons (yj Gb8);replace E := E.cons (some gb8);replace XLW := Mut.grow XLW (fun k e => Or.inr (Nat.le_trans LW.size ((yj Gb8) k e)));replace HF := HF.on E;replace LW := LW.step E XLW;have SB : ∀ q9, No q9 → Mut [(some gb8)] q9 := (Mut.skip Mut.nil_);replace HF := HF.less SB;replace XLW := fun k h => XLW k (SB k h);clear SB;replace E := erx (No) w9
   replace HF := HF.and (Per.blkN Bb8 NotIn.nil)
   refine avx rfl (anx rfl (zl (yh (srx (za rfl (zf Try.underlying43 rfl sz3 (by decide) rfl (za rfl (zk Try.underlying3 rfl rfl (HF.on E).here.1.2 rfl (za rfl (yl rfl rfl (mvx rfl (zq 12 (.bool true) rfl ((by simp [hk3] : (.bool (ua.k == 3) : Value) = _)) (onx rfl (zf Try.underlying43 rfl sz3 (by decide) rfl (onx rfl (zk Try.underlying3 rfl rfl (HF.on E).here.2 rfl (onx rfl (yl rfl rfl (za rfl (ya rfl rfl (anx rfl (yd 8 (.bool false) rfl ((by simp [hj3] : (.bool (ub.k == 3) : Value) = _)) (zw rfl (srx (za rfl (zf Try.underlying43 rfl sz3 (by decide) rfl (za rfl (zk Try.underlying3 rfl rfl (HF.on E).here.1.2 rfl (za rfl (yl rfl rfl (anx rfl (yd 24 (.bool true) rfl ((by simp [hk3] : (.bool (ua.k == 3) : Value) = _)) (ye rfl (zl ?_))))))))))))))))))))))))))))))))))
   have OY : ∀ q9, (Mut (outM [])) q9 → q9 < (World.drew w9).heap.size → (No) q9 := fun k h _ => (Mut.none_) k h;refine qt (No) Mut.none_ [] [] (gg [Fx.of (.pointer (some ⟨gb6, 4, none⟩)),
    Fx.of (.int .u64 ((ua.bits : Nat) : Int)),
    Fx.of (.agg #[.int .i64 ub.k, .bool ub.yes, .bool ub.neg, .slice A2 ub.xs.length c2, .int .u64 ((ub.bits : Nat) : Int), .string ub.s, .slice B2 ub.ni d2]),
    ⟨(Option Addr × Nat), fun (A3, c3) => .agg #[.bool ub.cn, .slice A3 ub.cx.length c3], fun (A3, c3) b => (CntV b A2 A3 ub.xs (PV.cx ub))⟩,
    Fx.of (.tuple #[.int .i64 (ow ua.bits ub.cn ub.cx), .bool (ke ua.bits ub.cn ub.cx)]),
    Fx.of (.int .i64 (ow ua.bits ub.cn ub.cx)),
    Fx.of (.bool (ke ua.bits ub.cn ub.cx)),
    Fx.of (.int .i64 (ow ua.bits ub.cn ub.cx)),
    Fx.of (.bool (ke ua.bits ub.cn ub.cx))]) vu rfl trivial (fun _ h => by cases h) ?_ ?_
   · refine ⟨?_, ?_, ?_, ?_, ?_, ?_, ?_, ?_, ?_, trivial⟩
     · intro vs X wq K;exact zf Try.underlying43 rfl vc (by decide) rfl ⟨Below.refl _ _, Left.of rfl⟩
     · intro vs X wq K;have LE := K.1;obtain ⟨_, e0, k0⟩ := K.dep 0 rfl rfl rfl;refine zc 28 (.pointer (some ⟨gb6, 4, none⟩)) rfl e0 ?_;exact zk Try.underlying25 rfl rfl (HF.on (E.drew.trans (LE.mono OY))).here.1.2 rfl ⟨Below.refl _ _, Left.of rfl⟩
     · intro vs X wq K;have LE := K.1;exact zz Try.underlying43 rfl vi rfl (HF.on (E.drew.trans (LE.mono OY))).here.2 rfl ⟨Below.refl _ _, Left.of rfl⟩
     · intro vs X wq K;have XN := K.2.1;obtain ⟨_, e2, k2⟩ := K.dep 2 rfl rfl rfl;refine zc 30 (.agg #[.int .i64 ub.k, .bool ub.yes, .bool ub.neg, .slice A2 ub.xs.length c2, .int .u64 ((ub.bits : Nat) : Int), .string ub.s, .slice B2 ub.ni d2]) rfl e2 (zi en58 rfl ((zsv _ ub A2 B2 c2 d2).mono ?_));rintro e w2 ⟨A3, c3, rfl, hN, hb⟩
       exact ⟨_, rfl, hb, ⟨(A3, c3), rfl, yuv hN XN⟩⟩
     · intro vs X wq K;have LE := K.1;obtain ⟨_, e1, k1⟩ := K.dep 1 rfl rfl rfl;refine zc 29 (.int .u64 ((ua.bits : Nat) : Int)) rfl e1 ?_;obtain ⟨⟨A3, c3⟩, e3, k3⟩ := K.dep 3 rfl rfl rfl
       refine zc 31 (.agg #[.bool ub.cn, .slice A3 ub.cx.length c3]) rfl e3 (zi en64 rfl ((cmpbig_any _ ua.bits ha ub.cn A3 c3 ub.cx ((k3.here).nums (HF.on (E.drew.trans (LE.mono OY))).here.1.1.2) hcl').mono ?_));rintro e w2 ⟨rfl, hb⟩;exact ⟨_, rfl, hb, Left.of rfl⟩
     · intro vs X wq K;obtain ⟨_, e4, k4⟩ := K.dep 4 rfl rfl rfl;refine zc 32 (.tuple #[.int .i64 (ow ua.bits ub.cn ub.cx), .bool (ke ua.bits ub.cn ub.cx)]) rfl e4 ?_;exact zg rfl rfl ⟨Below.refl _ _, Left.of rfl⟩
     · intro vs X wq K;obtain ⟨_, e4, k4⟩ := K.dep 4 rfl rfl rfl;refine zc 32 (.tuple #[.int .i64 (ow ua.bits ub.cn ub.cx), .bool (ke ua.bits ub.cn ub.cx)]) rfl e4 ?_;exact zg rfl rfl ⟨Below.refl _ _, Left.of rfl⟩
     · intro vs X wq K;obtain ⟨_, e5, k5⟩ := K.dep 5 rfl rfl rfl;refine zc 33 (.int .i64 (ow ua.bits ub.cn ub.cx)) rfl e5 ?_;exact yw rfl ⟨Below.refl _ _, Left.of rfl⟩
     · intro vs X wq K;obtain ⟨_, e6, k6⟩ := K.dep 6 rfl rfl rfl;refine zc 34 (.bool (ke ua.bits ub.cn ub.cx)) rfl e6 ?_;exact yw rfl ⟨Below.refl _ _, Left.of rfl⟩
   intro vs w10 LE AO AL AF AA;replace E := E.drew.trans (LE.mono OY);obtain ⟨_, e7, k7⟩ := AL.2.2.2.2.2.2.2.1;obtain ⟨_, e8, k8⟩ := AL.2.2.2.2.2.2.2.2.1;refine qy (τ := [(2, _), (3, _), (4, .int .i64 (ow ua.bits ub.cn ub.cx)), (5, .bool (ke ua.bits ub.cn ub.cx))]) ⟨rfl, rfl, congrArg some e7, congrArg some e8, trivial⟩ ?_;clear AL AF AA LE AO OY e7 e8 k7 k8
   refine zj (zo (zr (zh (zn (rs := [.tmp 4, .tmp 5]) (vs := [_, _]) rfl ⟨rfl, rfl, trivial⟩ ?_))));exact ⟨by unfold ordC ordO; rw [if_pos hk3, if_pos hk3, if_neg hj3, if_neg hj3]; rfl, (LW.step E XLW).toBelow⟩
 ·
  refine srx (za rfl (yt rfl ?_));intro gb11 w12 Bb11 Eb11 Gb11;have Gb11 : _ ≤ gb11 := Nat.le_trans E.size Gb11;have GLb11 := Nat.le_trans LW.size Gb11;replace E := E.trans Eb11.no;replace HF := HF.cons (yj Gb11);replace E := E.cons (some gb11);replace XLW := Mut.grow XLW (fun k e => Or.inr (Nat.le_trans LW.size ((yj Gb11) k e)));replace HF := HF.on E
  replace LW := LW.step E XLW;have SB : ∀ q9, No q9 → Mut [(some gb11)] q9 := (Mut.skip Mut.nil_);replace HF := HF.less SB;replace XLW := fun k h => XLW k (SB k h);clear SB;replace E := erx (No) w12;replace HF := HF.and (Per.blkN Bb11 NotIn.nil);refine za rfl (yt rfl ?_);intro gb13 w14 Bb13 Eb13 Gb13;have Gb13 : _ ≤ gb13 := Nat.le_trans E.size Gb13;have GLb13 := Nat.le_trans LW.size Gb13
  replace E := E.trans Eb13.no;replace HF := HF.cons (yj Gb13);replace E := E.cons (some gb13);replace XLW := Mut.grow XLW (fun k e => Or.inr (Nat.le_trans LW.size ((yj Gb13) k e)));replace HF := HF.on E;replace LW := LW.step E XLW;have SB : ∀ q9, No q9 → Mut [(some gb13)] q9 := (Mut.skip Mut.nil_);replace HF := HF.less SB;replace XLW := fun k h => XLW k (SB k h);clear SB
  replace E := erx (No) w14;replace HF := HF.and (Per.blkN Bb13 NotIn.nil)
  refine avx rfl (anx rfl (zl (yh (srx (za rfl (zf Try.underlying43 rfl sz3 (by decide) rfl (za rfl (zk Try.underlying3 rfl rfl (HF.on E).here.1.2 rfl (za rfl (yl rfl rfl (mvx rfl (zq 12 (.bool false) rfl ((by simp [hk3] : (.bool (ua.k == 3) : Value) = _)) (za rfl (zd rfl (za rfl (zd rfl (za rfl (zd rfl (za rfl (zm rfl rfl (anx rfl (zw rfl (srx (za rfl (zf Try.underlying43 rfl sz3 (by decide) rfl (za rfl (zk Try.underlying3 rfl rfl (HF.on E).here.1.2 rfl (za rfl (yl rfl rfl (anx rfl (yd 24 (.bool false) rfl ((by simp [hk3] : (.bool (ua.k == 3) : Value) = _)) ?_)))))))))))))))))))))))))))))))
  by_cases hj3 : ub.k = 3
  ·
   refine zw rfl (srx (za rfl (zf Try.underlying43 rfl sz3 (by decide) rfl (za rfl (zk Try.underlying3 rfl rfl (HF.on E).here.2 rfl (za rfl (yl rfl rfl (anx rfl (yd 35 (.bool true) rfl ((by simp [hj3] : (.bool (ub.k == 3) : Value) = _)) (ye rfl (zl ?_)))))))))))
   have OY : ∀ q9, (Mut (outM [])) q9 → q9 < (World.drew w14).heap.size → (No) q9 := fun k h _ => (Mut.none_) k h;refine qt (No) Mut.none_ [] [] (gg [Fx.of (.pointer (some ⟨gb13, 4, none⟩)),
    Fx.of (.int .u64 ((ub.bits : Nat) : Int)),
    Fx.of (.agg #[.int .i64 ua.k, .bool ua.yes, .bool ua.neg, .slice A1 ua.xs.length c1, .int .u64 ((ua.bits : Nat) : Int), .string ua.s, .slice B1 ua.ni d1]),
    ⟨(Option Addr × Nat), fun (A3, c3) => .agg #[.bool ua.cn, .slice A3 ua.cx.length c3], fun (A3, c3) b => (CntV b A1 A3 ua.xs (PV.cx ua))⟩,
    Fx.of (.tuple #[.int .i64 (ow ub.bits ua.cn ua.cx), .bool (ke ub.bits ua.cn ua.cx)]),
    Fx.of (.tuple #[.int .i64 (ow ub.bits ua.cn ua.cx), .bool (ke ub.bits ua.cn ua.cx)]),
    Fx.of (.int .i64 (ow ub.bits ua.cn ua.cx)),
    Fx.of (.bool (ke ub.bits ua.cn ua.cx)),
    Fx.of (.int .i64 (ow ub.bits ua.cn ua.cx)),
    Fx.of (.bool (ke ub.bits ua.cn ua.cx))]) vu rfl trivial (fun _ h => by cases h) ?_ ?_
   · refine ⟨?_, ?_, ?_, ?_, ?_, ?_, ?_, ?_, ?_, ?_, trivial⟩
     · intro vs X wq K;exact zf Try.underlying43 rfl vc (by decide) rfl ⟨Below.refl _ _, Left.of rfl⟩
     · intro vs X wq K;have LE := K.1;obtain ⟨_, e0, k0⟩ := K.dep 0 rfl rfl rfl;refine zc 40 (.pointer (some ⟨gb13, 4, none⟩)) rfl e0 ?_;exact zk Try.underlying25 rfl rfl (HF.on (E.drew.trans (LE.mono OY))).here.2 rfl ⟨Below.refl _ _, Left.of rfl⟩
     · intro vs X wq K;have LE := K.1;exact zz Try.underlying43 rfl vi rfl (HF.on (E.drew.trans (LE.mono OY))).here.1.2 rfl ⟨Below.refl _ _, Left.of rfl⟩
     · intro vs X wq K;have XN := K.2.1;obtain ⟨_, e2, k2⟩ := K.dep 2 rfl rfl rfl;refine zc 42 (.agg #[.int .i64 ua.k, .bool ua.yes, .bool ua.neg, .slice A1 ua.xs.length c1, .int .u64 ((ua.bits : Nat) : Int), .string ua.s, .slice B1 ua.ni d1]) rfl e2 (zi en58 rfl ((zsv _ ua A1 B1 c1 d1).mono ?_));rintro e w2 ⟨A3, c3, rfl, hN, hb⟩
       exact ⟨_, rfl, hb, ⟨(A3, c3), rfl, yuv hN XN⟩⟩
     · intro vs X wq K;have LE := K.1;obtain ⟨_, e1, k1⟩ := K.dep 1 rfl rfl rfl;refine zc 41 (.int .u64 ((ub.bits : Nat) : Int)) rfl e1 ?_;obtain ⟨⟨A3, c3⟩, e3, k3⟩ := K.dep 3 rfl rfl rfl
       refine zc 43 (.agg #[.bool ua.cn, .slice A3 ua.cx.length c3]) rfl e3 (zi en64 rfl ((cmpbig_any _ ub.bits hb0 ua.cn A3 c3 ua.cx ((k3.here).nums (HF.on (E.drew.trans (LE.mono OY))).here.1.1.1.2) hcl).mono ?_));rintro e w2 ⟨rfl, hb⟩;exact ⟨_, rfl, hb, Left.of rfl⟩
     · intro vs X wq K;obtain ⟨_, e4, k4⟩ := K.dep 4 rfl rfl rfl;refine zc 44 (.tuple #[.int .i64 (ow ub.bits ua.cn ua.cx), .bool (ke ub.bits ua.cn ua.cx)]) rfl e4 ?_;exact zp rfl ⟨Below.refl _ _, Left.of rfl⟩
     · intro vs X wq K;obtain ⟨_, e5, k5⟩ := K.dep 5 rfl rfl rfl;refine zc 39 (.tuple #[.int .i64 (ow ub.bits ua.cn ua.cx), .bool (ke ub.bits ua.cn ua.cx)]) rfl e5 ?_;exact zg rfl rfl ⟨Below.refl _ _, Left.of rfl⟩
     · intro vs X wq K;obtain ⟨_, e5, k5⟩ := K.dep 5 rfl rfl rfl;refine zc 39 (.tuple #[.int .i64 (ow ub.bits ua.cn ua.cx), .bool (ke ub.bits ua.cn ua.cx)]) rfl e5 ?_;exact zg rfl rfl ⟨Below.refl _ _, Left.of rfl⟩
     · intro vs X wq K;obtain ⟨_, e6, k6⟩ := K.dep 6 rfl rfl rfl;refine zc 45 (.int .i64 (ow ub.bits ua.cn ua.cx)) rfl e6 ?_;exact yw rfl ⟨Below.refl _ _, Left.of rfl⟩
     · intro vs X wq K;obtain ⟨_, e7, k7⟩ := K.dep 7 rfl rfl rfl;refine zc 46 (.bool (ke ub.bits ua.cn ua.cx)) rfl e7 ?_;exact yw rfl ⟨Below.refl _ _, Left.of rfl⟩
   intro vs w15 LE AO AL AF AA;replace E := E.drew.trans (LE.mono OY);obtain ⟨_, e8, k8⟩ := AL.2.2.2.2.2.2.2.2.1;obtain ⟨_, e9, k9⟩ := AL.2.2.2.2.2.2.2.2.2.1;refine qy (τ := [(2, _), (3, _), (4, _), (5, _), (6, .int .i64 (ow ub.bits ua.cn ua.cx)), (7, .bool (ke ub.bits ua.cn ua.cx))]) ⟨rfl, rfl, rfl, rfl, congrArg some e8, congrArg some e9, trivial⟩ ?_
   clear AL AF AA LE AO OY e8 e9 k8 k9;have hcv := cmpV_in ub.bits ua.cn ua.cx;refine zj (srx (mvx rfl (za rfl (ow_neg rfl (zy (by omega)) (mvx rfl (avx rfl (anx rfl (zo (zr (zh (zn (rs := [.tmp 4, .tmp 5]) (vs := [_, _]) rfl ⟨rfl, rfl, trivial⟩ ?_)))))))))))
   exact ⟨by unfold ordC ordO; rw [if_neg hk3, if_neg hk3, if_pos hj3, if_pos hj3]; rfl, (LW.step E XLW).toBelow⟩
  ·
   refine zw rfl (srx (za rfl (zf Try.underlying43 rfl sz3 (by decide) rfl (za rfl (zk Try.underlying3 rfl rfl (HF.on E).here.2 rfl (za rfl (yl rfl rfl (anx rfl (yd 35 (.bool false) rfl ((by simp [hj3] : (.bool (ub.k == 3) : Value) = _)) (zw rfl (zt (zx (zj (zl ?_))))))))))))))
   have OY : ∀ q9, (Mut (outM [])) q9 → q9 < (World.drew w14).heap.size → (No) q9 := fun k h _ => (Mut.none_) k h;refine qt (No) Mut.none_ [] [] (gg [Fx.of (.agg #[.int .i64 ua.k, .bool ua.yes, .bool ua.neg, .slice A1 ua.xs.length c1, .int .u64 ((ua.bits : Nat) : Int), .string ua.s, .slice B1 ua.ni d1]),
    ⟨(Option Addr × Nat), fun (A3, c3) => .agg #[.bool ua.cn, .slice A3 ua.cx.length c3], fun (A3, c3) b => (CntV b A1 A3 ua.xs (PV.cx ua))⟩,
    Fx.of (.agg #[.int .i64 ub.k, .bool ub.yes, .bool ub.neg, .slice A2 ub.xs.length c2, .int .u64 ((ub.bits : Nat) : Int), .string ub.s, .slice B2 ub.ni d2]),
    ⟨(Option Addr × Nat), fun (A4, c4) => .agg #[.bool ub.cn, .slice A4 ub.cx.length c4], fun (A4, c4) b => (CntV b A2 A4 ub.xs (PV.cx ub))⟩,
    Fx.of (.int .i64 (cmpO (qr ua.cn ua.cx && qr ub.cn ub.cx) (num ua.cn ua.cx) (num ub.cn ub.cx))),
    Fx.of (.int .i64 (cmpO (qr ua.cn ua.cx && qr ub.cn ub.cx) (num ua.cn ua.cx) (num ub.cn ub.cx))),
    Fx.of (.bool true)]) vu rfl trivial (fun _ h => by cases h) ?_ ?_
   · refine ⟨?_, ?_, ?_, ?_, ?_, ?_, ?_, trivial⟩
     · intro vs X wq K;have LE := K.1;exact zz Try.underlying43 rfl vi rfl (HF.on (E.drew.trans (LE.mono OY))).here.1.2 rfl ⟨Below.refl _ _, Left.of rfl⟩
     · intro vs X wq K;have XN := K.2.1;obtain ⟨_, e0, k0⟩ := K.dep 0 rfl rfl rfl;refine zc 50 (.agg #[.int .i64 ua.k, .bool ua.yes, .bool ua.neg, .slice A1 ua.xs.length c1, .int .u64 ((ua.bits : Nat) : Int), .string ua.s, .slice B1 ua.ni d1]) rfl e0 (zi en58 rfl ((zsv _ ua A1 B1 c1 d1).mono ?_));rintro e w2 ⟨A3, c3, rfl, hN, hb⟩
       exact ⟨_, rfl, hb, ⟨(A3, c3), rfl, yuv hN XN⟩⟩
     · intro vs X wq K;have LE := K.1;exact zz Try.underlying43 rfl vi rfl (HF.on (E.drew.trans (LE.mono OY))).here.2 rfl ⟨Below.refl _ _, Left.of rfl⟩
     · intro vs X wq K;have XN := K.2.1;obtain ⟨_, e2, k2⟩ := K.dep 2 rfl rfl rfl;refine zc 52 (.agg #[.int .i64 ub.k, .bool ub.yes, .bool ub.neg, .slice A2 ub.xs.length c2, .int .u64 ((ub.bits : Nat) : Int), .string ub.s, .slice B2 ub.ni d2]) rfl e2 (zi en58 rfl ((zsv _ ub A2 B2 c2 d2).mono ?_));rintro e w2 ⟨A4, c4, rfl, hN, hb⟩
       exact ⟨_, rfl, hb, ⟨(A4, c4), rfl, yuv hN XN⟩⟩
     · intro vs X wq K;have LE := K.1;obtain ⟨⟨A3, c3⟩, e1, k1⟩ := K.dep 1 rfl rfl rfl;refine zc 51 (.agg #[.bool ua.cn, .slice A3 ua.cx.length c3]) rfl e1 ?_;obtain ⟨⟨A4, c4⟩, e3, k3⟩ := K.dep 3 rfl rfl rfl
       refine zc 53 (.agg #[.bool ub.cn, .slice A4 ub.cx.length c4]) rfl e3 (zi en65 rfl ((cmp_any A3 A4 c3 c4 ua.cx ub.cx _ ua.cn ub.cn ((k1.here).nums (HF.on (E.drew.trans (LE.mono OY))).here.1.1.1.2) ((k3.here).nums (HF.on (E.drew.trans (LE.mono OY))).here.1.1.2) hcl hcl').mono ?_));rintro e w2 ⟨rfl, hb⟩;exact ⟨_, rfl, hb, Left.of rfl⟩
     · intro vs X wq K;obtain ⟨_, e4, k4⟩ := K.dep 4 rfl rfl rfl;refine zc 54 (.int .i64 (cmpO (qr ua.cn ua.cx && qr ub.cn ub.cx) (num ua.cn ua.cx) (num ub.cn ub.cx))) rfl e4 ?_;exact yw rfl ⟨Below.refl _ _, Left.of rfl⟩
     · intro vs X wq K;exact yw rfl ⟨Below.refl _ _, Left.of rfl⟩
   intro vs w16 LE AO AL AF AA;replace E := E.drew.trans (LE.mono OY);obtain ⟨_, e5, k5⟩ := AL.2.2.2.2.2.1;obtain ⟨_, e6, k6⟩ := AL.2.2.2.2.2.2.1;refine qy (τ := [(4, .int .i64 (cmpO (qr ua.cn ua.cx && qr ub.cn ub.cx) (num ua.cn ua.cx) (num ub.cn ub.cx))), (5, .bool true)]) ⟨congrArg some e5, congrArg some e6, trivial⟩ ?_;clear AL AF AA LE AO OY e5 e6 k5 k6
   refine zj (zo (zn (rs := [.tmp 4, .tmp 5]) (vs := [_, _]) rfl ⟨rfl, rfl, trivial⟩ ?_));exact ⟨by unfold ordC ordO; rw [if_neg hk3, if_neg hk3, if_neg hj3, if_neg hj3]; rfl, (LW.step E XLW).toBelow⟩
theorem pl_eq1 (h1 : ua.good = false) : Calls Try.prog 36 #[.agg #[.int .i64 ua.k, .bool ua.yes, .bool ua.neg, .slice A1 ua.xs.length c1, .int .u64 ((ua.bits : Nat) : Int), .string ua.s, .slice B1 ua.ni d1], .agg #[.int .i64 ub.k, .bool ub.yes, .bool ub.neg, .slice A2 ub.xs.length c2, .int .u64 ((ub.bits : Nat) : Int), .string ub.s, .slice B2 ub.ni d2]] w fun e w' => e = .returned (.bool (eqV ua ub)) ∧ Below w.heap.size w w' := by
 have _ := hx; have _ := hl; have _ := ha; have _ := hy; have _ := hl'; have _ := hb0;refine yb Try.func36 rfl Try.ntmps36 rfl ?_;have HF : Per (No) w (fun _ => True) := Per.true_;have LW := erx (No) w;have XLW := grx (No) w;have E := erx (No) w;replace HF := HF.on E;replace LW := LW.step E XLW;replace E := erx (No) w;replace HF := HF.and (Per.nums0 hx);replace HF := HF.on E
 replace LW := LW.step E XLW;replace E := erx (No) w;replace HF := HF.and (Per.nums0 hy);refine srx (za rfl (yt rfl ?_));intro gb1 w2 Bb1 Eb1 Gb1;have Gb1 : _ ≤ gb1 := Nat.le_trans E.size Gb1;have GLb1 := Nat.le_trans LW.size Gb1;replace E := E.trans Eb1.no;replace HF := HF.cons (yj Gb1);replace E := E.cons (some gb1)
 replace XLW := Mut.grow XLW (fun k e => Or.inr (Nat.le_trans LW.size ((yj Gb1) k e)));replace HF := HF.on E;replace LW := LW.step E XLW;have SB : ∀ q9, No q9 → Mut [(some gb1)] q9 := (Mut.skip Mut.nil_);replace HF := HF.less SB;replace XLW := fun k h => XLW k (SB k h);clear SB;replace E := erx (No) w2;replace HF := HF.and (Per.blkN Bb1 NotIn.nil);refine za rfl (yt rfl ?_)
 intro gb3 w4 Bb3 Eb3 Gb3;have Gb3 : _ ≤ gb3 := Nat.le_trans E.size Gb3;have GLb3 := Nat.le_trans LW.size Gb3;replace E := E.trans Eb3.no;replace HF := HF.cons (yj Gb3);replace E := E.cons (some gb3);replace XLW := Mut.grow XLW (fun k e => Or.inr (Nat.le_trans LW.size ((yj Gb3) k e)));replace HF := HF.on E;replace LW := LW.step E XLW
 have SB : ∀ q9, No q9 → Mut [(some gb3)] q9 := (Mut.skip Mut.nil_);replace HF := HF.less SB;replace XLW := fun k h => XLW k (SB k h);clear SB;replace E := erx (No) w4;replace HF := HF.and (Per.blkN Bb3 NotIn.nil)
 refine anx rfl (zl (srx (za rfl (zz Try.underlying43 rfl vi rfl (HF.on E).here.1.2 rfl (za rfl (zi en18 rfl ((xa _ ua A1 B1 c1 d1 (HF.on E).here.1.1.1.2 hl false h1).mono ?_)))))));rintro e w5 ⟨rfl, hb⟩;refine ⟨_, rfl, ?_⟩;replace E := blx E hb
 refine za rfl (qa rfl (mvx rfl (za rfl (zd rfl (za rfl (zd rfl (za rfl (zd rfl (za rfl (ya rfl rfl (rnx (ye rfl (srx (anx rfl (zo (zh (zn (rs := [.tmp 4]) (vs := [_]) rfl ⟨rfl, trivial⟩ ?_)))))))))))))))));exact ⟨by unfold eqV; rw [h1]; rfl, (LW.step E XLW).toBelow⟩
theorem pl_eq2 (h1 : ua.good = true) (h2 : ub.good = false) : Calls Try.prog 36 #[.agg #[.int .i64 ua.k, .bool ua.yes, .bool ua.neg, .slice A1 ua.xs.length c1, .int .u64 ((ua.bits : Nat) : Int), .string ua.s, .slice B1 ua.ni d1], .agg #[.int .i64 ub.k, .bool ub.yes, .bool ub.neg, .slice A2 ub.xs.length c2, .int .u64 ((ub.bits : Nat) : Int), .string ub.s, .slice B2 ub.ni d2]] w fun e w' => e = .returned (.bool (eqV ua ub)) ∧ Below w.heap.size w w' := by
 have _ := hx; have _ := hl; have _ := ha; have _ := hy; have _ := hl'; have _ := hb0;refine yb Try.func36 rfl Try.ntmps36 rfl ?_;have HF : Per (No) w (fun _ => True) := Per.true_;have LW := erx (No) w;have XLW := grx (No) w;have E := erx (No) w;replace HF := HF.on E;replace LW := LW.step E XLW;replace E := erx (No) w;replace HF := HF.and (Per.nums0 hx);replace HF := HF.on E
 replace LW := LW.step E XLW;replace E := erx (No) w;replace HF := HF.and (Per.nums0 hy);refine srx (za rfl (yt rfl ?_));intro gb1 w2 Bb1 Eb1 Gb1;have Gb1 : _ ≤ gb1 := Nat.le_trans E.size Gb1;have GLb1 := Nat.le_trans LW.size Gb1;replace E := E.trans Eb1.no;replace HF := HF.cons (yj Gb1);replace E := E.cons (some gb1)
 replace XLW := Mut.grow XLW (fun k e => Or.inr (Nat.le_trans LW.size ((yj Gb1) k e)));replace HF := HF.on E;replace LW := LW.step E XLW;have SB : ∀ q9, No q9 → Mut [(some gb1)] q9 := (Mut.skip Mut.nil_);replace HF := HF.less SB;replace XLW := fun k h => XLW k (SB k h);clear SB;replace E := erx (No) w2;replace HF := HF.and (Per.blkN Bb1 NotIn.nil);refine za rfl (yt rfl ?_)
 intro gb3 w4 Bb3 Eb3 Gb3;have Gb3 : _ ≤ gb3 := Nat.le_trans E.size Gb3;have GLb3 := Nat.le_trans LW.size Gb3;replace E := E.trans Eb3.no;replace HF := HF.cons (yj Gb3);replace E := E.cons (some gb3);replace XLW := Mut.grow XLW (fun k e => Or.inr (Nat.le_trans LW.size ((yj Gb3) k e)));replace HF := HF.on E;replace LW := LW.step E XLW
 have SB : ∀ q9, No q9 → Mut [(some gb3)] q9 := (Mut.skip Mut.nil_);replace HF := HF.less SB;replace XLW := fun k h => XLW k (SB k h);clear SB;replace E := erx (No) w4;replace HF := HF.and (Per.blkN Bb3 NotIn.nil)
 refine anx rfl (zl (srx (za rfl (zz Try.underlying43 rfl vi rfl (HF.on E).here.1.2 rfl (za rfl (zi en18 rfl ((xa _ ua A1 B1 c1 d1 (HF.on E).here.1.1.1.2 hl true h1).mono ?_)))))));rintro e w5 ⟨rfl, hb⟩;refine ⟨_, rfl, ?_⟩;replace E := blx E hb
 refine za rfl (qa rfl (mvx rfl (onx rfl (zz Try.underlying43 rfl vi rfl (HF.on E).here.2 rfl (onx rfl (zi en18 rfl ((xa _ ub A2 B2 c2 d2 (HF.on E).here.1.1.2 hl' false h2).mono ?_)))))));rintro e w6 ⟨rfl, hb⟩;refine ⟨_, rfl, ?_⟩;replace E := blx E hb
 refine onx rfl (qa rfl (za rfl (zm rfl rfl (rnx (ye rfl (srx (anx rfl (zo (zh (zn (rs := [.tmp 4]) (vs := [_]) rfl ⟨rfl, trivial⟩ ?_))))))))));exact ⟨by unfold eqV; rw [h1, h2]; rfl, (LW.step E XLW).toBelow⟩
theorem pl_eq3 (h1 : ua.good = true) (h2 : ub.good = true) (h3 : zkz ua.k = true) (h4 : zkz ub.k = true) : Calls Try.prog 36 #[.agg #[.int .i64 ua.k, .bool ua.yes, .bool ua.neg, .slice A1 ua.xs.length c1, .int .u64 ((ua.bits : Nat) : Int), .string ua.s, .slice B1 ua.ni d1], .agg #[.int .i64 ub.k, .bool ub.yes, .bool ub.neg, .slice A2 ub.xs.length c2, .int .u64 ((ub.bits : Nat) : Int), .string ub.s, .slice B2 ub.ni d2]] w fun e w' => e = .returned (.bool (eqV ua ub)) ∧ Below w.heap.size w w' := by
 have _ := hx; have _ := hl; have _ := ha; have _ := hy; have _ := hl'; have _ := hb0;refine yb Try.func36 rfl Try.ntmps36 rfl ?_;have HF : Per (No) w (fun _ => True) := Per.true_;have LW := erx (No) w;have XLW := grx (No) w;have E := erx (No) w;replace HF := HF.on E;replace LW := LW.step E XLW;replace E := erx (No) w;replace HF := HF.and (Per.nums0 hx);replace HF := HF.on E
 replace LW := LW.step E XLW;replace E := erx (No) w;replace HF := HF.and (Per.nums0 hy);refine srx (za rfl (yt rfl ?_));intro gb1 w2 Bb1 Eb1 Gb1;have Gb1 : _ ≤ gb1 := Nat.le_trans E.size Gb1;have GLb1 := Nat.le_trans LW.size Gb1;replace E := E.trans Eb1.no;replace HF := HF.cons (yj Gb1);replace E := E.cons (some gb1)
 replace XLW := Mut.grow XLW (fun k e => Or.inr (Nat.le_trans LW.size ((yj Gb1) k e)));replace HF := HF.on E;replace LW := LW.step E XLW;have SB : ∀ q9, No q9 → Mut [(some gb1)] q9 := (Mut.skip Mut.nil_);replace HF := HF.less SB;replace XLW := fun k h => XLW k (SB k h);clear SB;replace E := erx (No) w2;replace HF := HF.and (Per.blkN Bb1 NotIn.nil);refine za rfl (yt rfl ?_)
 intro gb3 w4 Bb3 Eb3 Gb3;have Gb3 : _ ≤ gb3 := Nat.le_trans E.size Gb3;have GLb3 := Nat.le_trans LW.size Gb3;replace E := E.trans Eb3.no;replace HF := HF.cons (yj Gb3);replace E := E.cons (some gb3);replace XLW := Mut.grow XLW (fun k e => Or.inr (Nat.le_trans LW.size ((yj Gb3) k e)));replace HF := HF.on E;replace LW := LW.step E XLW
 have SB : ∀ q9, No q9 → Mut [(some gb3)] q9 := (Mut.skip Mut.nil_);replace HF := HF.less SB;replace XLW := fun k h => XLW k (SB k h);clear SB;replace E := erx (No) w4;replace HF := HF.and (Per.blkN Bb3 NotIn.nil)
 refine anx rfl (zl (srx (za rfl (zz Try.underlying43 rfl vi rfl (HF.on E).here.1.2 rfl (za rfl (zi en18 rfl ((xa _ ua A1 B1 c1 d1 (HF.on E).here.1.1.1.2 hl true h1).mono ?_)))))));rintro e w5 ⟨rfl, hb⟩;refine ⟨_, rfl, ?_⟩;replace E := blx E hb
 refine za rfl (qa rfl (mvx rfl (onx rfl (zz Try.underlying43 rfl vi rfl (HF.on E).here.2 rfl (onx rfl (zi en18 rfl ((xa _ ub A2 B2 c2 d2 (HF.on E).here.1.1.2 hl' true h2).mono ?_)))))));rintro e w6 ⟨rfl, hb⟩;refine ⟨_, rfl, ?_⟩;replace E := blx E hb
 refine onx rfl (qa rfl (za rfl (zm rfl rfl (rnx (zw rfl (zt (zj (zl (srx (za rfl (zz Try.underlying43 rfl vi rfl (HF.on E).here.1.2 rfl (za rfl (zi en54 rfl ((pl_num _ ua A1 B1 c1 d1 true h3).mono ?_))))))))))))));rintro e w7 ⟨rfl, hb⟩;refine ⟨_, rfl, ?_⟩;replace E := blx E hb
 refine mvx rfl (onx rfl (zz Try.underlying43 rfl vi rfl (HF.on E).here.2 rfl (onx rfl (zi en54 rfl ((pl_num _ ub A2 B2 c2 d2 true h4).mono ?_)))));rintro e w8 ⟨rfl, hb⟩;refine ⟨_, rfl, ?_⟩;replace E := blx E hb
 refine za rfl (ya rfl rfl (rnx (ye rfl (srx (za rfl (zz Try.underlying43 rfl vi rfl (HF.on E).here.1.2 rfl (za rfl (zz Try.underlying43 rfl vi rfl (HF.on E).here.2 rfl (za rfl (zi en55 rfl ((pl_order _ ua ub A1 B1 A2 B2 c1 d1 c2 d2 (HF.on E).here.1.1.1.2 hl ha (HF.on E).here.1.1.2 hl' hb0).mono ?_)))))))))));rintro e w9 ⟨rfl, hb⟩;refine ⟨_, rfl, ?_⟩
 replace E := blx E hb;refine mvx rfl (za rfl (zg rfl rfl (za rfl (zg rfl rfl (avx rfl (anx rfl (srx (mvx rfl (mvx rfl ?_)))))))));by_cases ho : ordO ua ub = true
 ·
  refine zq 28 (.bool true) rfl ((by rw [ho] : (.bool (ordO ua ub) : Value) = _)) (onx rfl (zp rfl (onx rfl (yl rfl rfl (za rfl (ya rfl rfl (anx rfl (zo (zh (zn (rs := [.tmp 4]) (vs := [_]) rfl ⟨rfl, trivial⟩ ?_))))))))));exact ⟨by unfold eqV; rw [h1, h2, h3, h4, ho]; rfl, (LW.step E XLW).toBelow⟩
 ·
  have ho := Bool.eq_false_iff.2 ho;refine zq 28 (.bool false) rfl ((by rw [ho] : (.bool (ordO ua ub) : Value) = _)) (za rfl (zd rfl (za rfl (zd rfl (za rfl (zm rfl rfl (anx rfl (zo (zh (zn (rs := [.tmp 4]) (vs := [_]) rfl ⟨rfl, trivial⟩ ?_))))))))));exact ⟨by unfold eqV; rw [h1, h2, h3, h4, ho]; rfl, (LW.step E XLW).toBelow⟩
theorem pl_eq4 (h1 : ua.good = true) (h2 : ub.good = true) (h3 : zkz ua.k = false) : Calls Try.prog 36 #[.agg #[.int .i64 ua.k, .bool ua.yes, .bool ua.neg, .slice A1 ua.xs.length c1, .int .u64 ((ua.bits : Nat) : Int), .string ua.s, .slice B1 ua.ni d1], .agg #[.int .i64 ub.k, .bool ub.yes, .bool ub.neg, .slice A2 ub.xs.length c2, .int .u64 ((ub.bits : Nat) : Int), .string ub.s, .slice B2 ub.ni d2]] w fun e w' => e = .returned (.bool (eqV ua ub)) ∧ Below w.heap.size w w' := by
 have _ := hx; have _ := hl; have _ := ha; have _ := hy; have _ := hl'; have _ := hb0;refine yb Try.func36 rfl Try.ntmps36 rfl ?_;have HF : Per (No) w (fun _ => True) := Per.true_;have LW := erx (No) w;have XLW := grx (No) w;have E := erx (No) w;replace HF := HF.on E;replace LW := LW.step E XLW;replace E := erx (No) w;replace HF := HF.and (Per.nums0 hx);replace HF := HF.on E
 replace LW := LW.step E XLW;replace E := erx (No) w;replace HF := HF.and (Per.nums0 hy);refine srx (za rfl (yt rfl ?_));intro gb1 w2 Bb1 Eb1 Gb1;have Gb1 : _ ≤ gb1 := Nat.le_trans E.size Gb1;have GLb1 := Nat.le_trans LW.size Gb1;replace E := E.trans Eb1.no;replace HF := HF.cons (yj Gb1);replace E := E.cons (some gb1)
 replace XLW := Mut.grow XLW (fun k e => Or.inr (Nat.le_trans LW.size ((yj Gb1) k e)));replace HF := HF.on E;replace LW := LW.step E XLW;have SB : ∀ q9, No q9 → Mut [(some gb1)] q9 := (Mut.skip Mut.nil_);replace HF := HF.less SB;replace XLW := fun k h => XLW k (SB k h);clear SB;replace E := erx (No) w2;replace HF := HF.and (Per.blkN Bb1 NotIn.nil);refine za rfl (yt rfl ?_)
 intro gb3 w4 Bb3 Eb3 Gb3;have Gb3 : _ ≤ gb3 := Nat.le_trans E.size Gb3;have GLb3 := Nat.le_trans LW.size Gb3;replace E := E.trans Eb3.no;replace HF := HF.cons (yj Gb3);replace E := E.cons (some gb3);replace XLW := Mut.grow XLW (fun k e => Or.inr (Nat.le_trans LW.size ((yj Gb3) k e)));replace HF := HF.on E;replace LW := LW.step E XLW
 have SB : ∀ q9, No q9 → Mut [(some gb3)] q9 := (Mut.skip Mut.nil_);replace HF := HF.less SB;replace XLW := fun k h => XLW k (SB k h);clear SB;replace E := erx (No) w4;replace HF := HF.and (Per.blkN Bb3 NotIn.nil)
 refine anx rfl (zl (srx (za rfl (zz Try.underlying43 rfl vi rfl (HF.on E).here.1.2 rfl (za rfl (zi en18 rfl ((xa _ ua A1 B1 c1 d1 (HF.on E).here.1.1.1.2 hl true h1).mono ?_)))))));rintro e w5 ⟨rfl, hb⟩;refine ⟨_, rfl, ?_⟩;replace E := blx E hb
 refine za rfl (qa rfl (mvx rfl (onx rfl (zz Try.underlying43 rfl vi rfl (HF.on E).here.2 rfl (onx rfl (zi en18 rfl ((xa _ ub A2 B2 c2 d2 (HF.on E).here.1.1.2 hl' true h2).mono ?_)))))));rintro e w6 ⟨rfl, hb⟩;refine ⟨_, rfl, ?_⟩;replace E := blx E hb
 refine onx rfl (qa rfl (za rfl (zm rfl rfl (rnx (zw rfl (zt (zj (zl (srx (za rfl (zz Try.underlying43 rfl vi rfl (HF.on E).here.1.2 rfl (za rfl (zi en54 rfl ((pl_num _ ua A1 B1 c1 d1 false h3).mono ?_))))))))))))));rintro e w7 ⟨rfl, hb⟩;refine ⟨_, rfl, ?_⟩;replace E := blx E hb
 refine mvx rfl (za rfl (zd rfl (za rfl (zd rfl (za rfl (zm rfl rfl (rnx (zw rfl (zt (zj (srx (za rfl (zf Try.underlying43 rfl sz3 (by decide) rfl (za rfl (zk Try.underlying3 rfl rfl (HF.on E).here.1.2 rfl (za rfl (zf Try.underlying43 rfl sz3 (by decide) rfl (za rfl (zk Try.underlying3 rfl rfl (HF.on E).here.2 rfl (za rfl (yl rfl rfl (mvx rfl ?_))))))))))))))))))))))
 by_cases ho : (ua.k == ub.k) = true
 ·
  refine zq 37 (.bool true) rfl ((by rw [ho] : (.bool (ua.k == ub.k) : Value) = _)) (onx rfl (zf Try.underlying43 rfl sz9 (by decide) rfl (onx rfl (zk Try.underlying9 rfl rfl (HF.on E).here.1.2 rfl (onx rfl (zf Try.underlying43 rfl sz9 (by decide) rfl (onx rfl (zk Try.underlying9 rfl rfl (HF.on E).here.2 rfl (onx rfl (zpk rfl rfl (za rfl (ya rfl rfl (anx rfl (zo (zn (rs := [.tmp 4]) (vs := [_]) rfl ⟨rfl, trivial⟩ ?_)))))))))))))))
  exact ⟨by unfold eqV eqS; rw [h1, h2, h3, ho]; rfl, (LW.step E XLW).toBelow⟩
 ·
  have ho := Bool.eq_false_iff.2 ho;refine zq 37 (.bool false) rfl ((by rw [ho] : (.bool (ua.k == ub.k) : Value) = _)) (za rfl (zd rfl (za rfl (zd rfl (za rfl (zd rfl (za rfl (zd rfl (za rfl (zd rfl (za rfl (zm rfl rfl (anx rfl (zo (zn (rs := [.tmp 4]) (vs := [_]) rfl ⟨rfl, trivial⟩ ?_)))))))))))))))
  exact ⟨by unfold eqV eqS; rw [h1, h2, h3, ho]; rfl, (LW.step E XLW).toBelow⟩
theorem pl_eq5 (h1 : ua.good = true) (h2 : ub.good = true) (h3 : zkz ua.k = true) (h4 : zkz ub.k = false) : Calls Try.prog 36 #[.agg #[.int .i64 ua.k, .bool ua.yes, .bool ua.neg, .slice A1 ua.xs.length c1, .int .u64 ((ua.bits : Nat) : Int), .string ua.s, .slice B1 ua.ni d1], .agg #[.int .i64 ub.k, .bool ub.yes, .bool ub.neg, .slice A2 ub.xs.length c2, .int .u64 ((ub.bits : Nat) : Int), .string ub.s, .slice B2 ub.ni d2]] w fun e w' => e = .returned (.bool (eqV ua ub)) ∧ Below w.heap.size w w' := by
 have _ := hx; have _ := hl; have _ := ha; have _ := hy; have _ := hl'; have _ := hb0;refine yb Try.func36 rfl Try.ntmps36 rfl ?_;have HF : Per (No) w (fun _ => True) := Per.true_;have LW := erx (No) w;have XLW := grx (No) w;have E := erx (No) w;replace HF := HF.on E;replace LW := LW.step E XLW;replace E := erx (No) w;replace HF := HF.and (Per.nums0 hx);replace HF := HF.on E
 replace LW := LW.step E XLW;replace E := erx (No) w;replace HF := HF.and (Per.nums0 hy);refine srx (za rfl (yt rfl ?_));intro gb1 w2 Bb1 Eb1 Gb1;have Gb1 : _ ≤ gb1 := Nat.le_trans E.size Gb1;have GLb1 := Nat.le_trans LW.size Gb1;replace E := E.trans Eb1.no;replace HF := HF.cons (yj Gb1);replace E := E.cons (some gb1)
 replace XLW := Mut.grow XLW (fun k e => Or.inr (Nat.le_trans LW.size ((yj Gb1) k e)));replace HF := HF.on E;replace LW := LW.step E XLW;have SB : ∀ q9, No q9 → Mut [(some gb1)] q9 := (Mut.skip Mut.nil_);replace HF := HF.less SB;replace XLW := fun k h => XLW k (SB k h);clear SB;replace E := erx (No) w2;replace HF := HF.and (Per.blkN Bb1 NotIn.nil);refine za rfl (yt rfl ?_)
 intro gb3 w4 Bb3 Eb3 Gb3;have Gb3 : _ ≤ gb3 := Nat.le_trans E.size Gb3;have GLb3 := Nat.le_trans LW.size Gb3;replace E := E.trans Eb3.no;replace HF := HF.cons (yj Gb3);replace E := E.cons (some gb3);replace XLW := Mut.grow XLW (fun k e => Or.inr (Nat.le_trans LW.size ((yj Gb3) k e)));replace HF := HF.on E;replace LW := LW.step E XLW
 have SB : ∀ q9, No q9 → Mut [(some gb3)] q9 := (Mut.skip Mut.nil_);replace HF := HF.less SB;replace XLW := fun k h => XLW k (SB k h);clear SB;replace E := erx (No) w4;replace HF := HF.and (Per.blkN Bb3 NotIn.nil)
 refine anx rfl (zl (srx (za rfl (zz Try.underlying43 rfl vi rfl (HF.on E).here.1.2 rfl (za rfl (zi en18 rfl ((xa _ ua A1 B1 c1 d1 (HF.on E).here.1.1.1.2 hl true h1).mono ?_)))))));rintro e w5 ⟨rfl, hb⟩;refine ⟨_, rfl, ?_⟩;replace E := blx E hb
 refine za rfl (qa rfl (mvx rfl (onx rfl (zz Try.underlying43 rfl vi rfl (HF.on E).here.2 rfl (onx rfl (zi en18 rfl ((xa _ ub A2 B2 c2 d2 (HF.on E).here.1.1.2 hl' true h2).mono ?_)))))));rintro e w6 ⟨rfl, hb⟩;refine ⟨_, rfl, ?_⟩;replace E := blx E hb
 refine onx rfl (qa rfl (za rfl (zm rfl rfl (rnx (zw rfl (zt (zj (zl (srx (za rfl (zz Try.underlying43 rfl vi rfl (HF.on E).here.1.2 rfl (za rfl (zi en54 rfl ((pl_num _ ua A1 B1 c1 d1 true h3).mono ?_))))))))))))));rintro e w7 ⟨rfl, hb⟩;refine ⟨_, rfl, ?_⟩;replace E := blx E hb
 refine mvx rfl (onx rfl (zz Try.underlying43 rfl vi rfl (HF.on E).here.2 rfl (onx rfl (zi en54 rfl ((pl_num _ ub A2 B2 c2 d2 false h4).mono ?_)))));rintro e w8 ⟨rfl, hb⟩;refine ⟨_, rfl, ?_⟩;replace E := blx E hb
 refine za rfl (ya rfl rfl (rnx (zw rfl (zt (zj (srx (za rfl (zf Try.underlying43 rfl sz3 (by decide) rfl (za rfl (zk Try.underlying3 rfl rfl (HF.on E).here.1.2 rfl (za rfl (zf Try.underlying43 rfl sz3 (by decide) rfl (za rfl (zk Try.underlying3 rfl rfl (HF.on E).here.2 rfl (za rfl (yl rfl rfl (mvx rfl ?_)))))))))))))))))
 by_cases ho : (ua.k == ub.k) = true
 ·
  refine zq 37 (.bool true) rfl ((by rw [ho] : (.bool (ua.k == ub.k) : Value) = _)) (onx rfl (zf Try.underlying43 rfl sz9 (by decide) rfl (onx rfl (zk Try.underlying9 rfl rfl (HF.on E).here.1.2 rfl (onx rfl (zf Try.underlying43 rfl sz9 (by decide) rfl (onx rfl (zk Try.underlying9 rfl rfl (HF.on E).here.2 rfl (onx rfl (zpk rfl rfl (za rfl (ya rfl rfl (anx rfl (zo (zn (rs := [.tmp 4]) (vs := [_]) rfl ⟨rfl, trivial⟩ ?_)))))))))))))))
  exact ⟨by unfold eqV eqS; rw [h1, h2, h3, h4, ho]; rfl, (LW.step E XLW).toBelow⟩
 ·
  have ho := Bool.eq_false_iff.2 ho;refine zq 37 (.bool false) rfl ((by rw [ho] : (.bool (ua.k == ub.k) : Value) = _)) (za rfl (zd rfl (za rfl (zd rfl (za rfl (zd rfl (za rfl (zd rfl (za rfl (zd rfl (za rfl (zm rfl rfl (anx rfl (zo (zn (rs := [.tmp 4]) (vs := [_]) rfl ⟨rfl, trivial⟩ ?_)))))))))))))))
  exact ⟨by unfold eqV eqS; rw [h1, h2, h3, h4, ho]; rfl, (LW.step E XLW).toBelow⟩
theorem pl_equal : Calls Try.prog 36 #[.agg #[.int .i64 ua.k, .bool ua.yes, .bool ua.neg, .slice A1 ua.xs.length c1, .int .u64 ((ua.bits : Nat) : Int), .string ua.s, .slice B1 ua.ni d1], .agg #[.int .i64 ub.k, .bool ub.yes, .bool ub.neg, .slice A2 ub.xs.length c2, .int .u64 ((ub.bits : Nat) : Int), .string ub.s, .slice B2 ub.ni d2]] w fun e w' => e = .returned (.bool (eqV ua ub)) ∧ Below w.heap.size w w' := by
 cases h1 : ua.good
 · exact pl_eq1 w ua ub A1 B1 A2 B2 c1 d1 c2 d2 hx hl ha hy hl' hb0 h1
 cases h2 : ub.good
 · exact pl_eq2 w ua ub A1 B1 A2 B2 c1 d1 c2 d2 hx hl ha hy hl' hb0 h1 h2
 cases h3 : zkz ua.k
 · exact pl_eq4 w ua ub A1 B1 A2 B2 c1 d1 c2 d2 hx hl ha hy hl' hb0 h1 h2 h3
 cases h4 : zkz ub.k
 · exact pl_eq5 w ua ub A1 B1 A2 B2 c1 d1 c2 d2 hx hl ha hy hl' hb0 h1 h2 h3 h4
 · exact pl_eq3 w ua ub A1 B1 A2 B2 c1 d1 c2 d2 hx hl ha hy hl' hb0 h1 h2 h3 h4
end
end Go.Proofs.Ytebjkmjfcijebaa
namespace Go.Proofs.Ytebjkmjfcijebaa
open Go.RowKit
set_option maxRecDepth 100000
theorem num_1 : num false [1] = 1 := by
 have h := kp 1;rw [pl_one] at h;exact h
theorem num_0 : num false [] = 0 := by
 have h := kp 0;rwa [show limbs 0 = [] from jg] at h
theorem numK_at {k : Int} (h : zkz k = true) : 1 ≤ k ∧ k ≤ 3 := by
 unfold zkz at h;simp only [Bool.and_eq_true, decide_eq_true_eq] at h
 exact h
theorem PV.good2 {v : PV} (h : v.good = true) (hk : v.k = 2) : qr v.neg v.xs = true := by
 unfold PV.good at h;rw [if_neg (by omega), if_neg (by omega), if_pos hk] at h;simp only [Bool.and_eq_true] at h
 exact h.2.1.1.1
theorem PV.canon {v : PV} (h : v.good = true) (hk : v.k = 1 ∨ v.k = 2) : v.cn = decide (num v.cn v.cx < 0) ∧ v.cx = limbs (num v.cn v.cx) ∧ (num v.cn v.cx).natAbs < B18 ^ 30 := by
 have hg : qr v.cn v.cx = true := by
  unfold PV.cn PV.cx;by_cases h1 : v.k = 1
  · rw [if_pos h1, if_pos h1];split
    · have := kj (i := 1) (by decide);rwa [pl_one] at this
    · have := kj (i := 0) (by decide);rwa [jg] at this
  · rw [if_neg h1, if_neg h1];exact PV.good2 h (by omega)
 obtain ⟨i, e1, e2, e3⟩ := good_is hg;have e : num v.cn v.cx = i := by rw [e1, e2, kp]
 rw [e];exact ⟨e1, e2, e3⟩
theorem PV.kinds {v : PV} (h : v.good = true) : v.k = 0 ∨ v.k = 1 ∨ v.k = 2 ∨ v.k = 3 ∨ v.k = 4 := by
 unfold PV.good at h;by_cases h0 : v.k = 0
 · exact Or.inl h0
 by_cases h1 : v.k = 1
 · exact Or.inr (Or.inl h1)
 by_cases h2 : v.k = 2
 · exact Or.inr (Or.inr (Or.inl h2))
 by_cases h3 : v.k = 3
 · exact Or.inr (Or.inr (Or.inr (Or.inl h3)))
 by_cases h4 : v.k = 4
 · exact Or.inr (Or.inr (Or.inr (Or.inr h4)))
 rw [if_neg h0, if_neg h1, if_neg h2, if_neg h3, if_neg h4] at h;simp at h
theorem PV.str {v : PV} (h : v.good = true) (hn : zkz v.k = false) (h0 : v.k ≠ 0) : v.k = 4 := by
 rcases PV.kinds h with e | e | e | e | e
 · exact absurd e h0
 · rw [e] at hn; exact absurd hn (by decide)
 · rw [e] at hn; exact absurd hn (by decide)
 · rw [e] at hn; exact absurd hn (by decide)
 · exact e
theorem PV.s0 {v : PV} (h : v.good = true) (hk : v.k = 0 ∨ v.k = 1 ∨ v.k = 2 ∨ v.k = 3) : v.s.toList = (⟨#[]⟩ : ByteArray).toList := by
 unfold PV.good at h;rcases hk with e | e | e | e <;> simp [e] at h <;> simp [h]
theorem PV.s_max {v : PV} (h : v.good = true) (hk : v.k = 4) : v.s.size ≤ 20000 := by
 unfold PV.good at h;simp [hk] at h
 omega
theorem PV.y0 {v : PV} (h : v.good = true) (hk : v.k ≠ 1) : v.yes = false := by
 unfold PV.good at h;rcases PV.kinds h with e | e | e | e | e <;> simp [e] at h <;> first | exact absurd e hk | simp [h]
theorem PV.b0 {v : PV} (h : v.good = true) (hk : v.k ≠ 2) : v.neg = false ∧ v.xs = [] := by
 unfold PV.good at h;rcases PV.kinds h with e | e | e | e | e <;> simp [e] at h <;> first | exact absurd e hk | simp [h]
section
variable {u v : PV} (g1 : u.good = true) (g2 : v.good = true) (h3 : (u.k == v.k) = true) (h5 : u.k ≠ 3)
include g1 g2 h3 h5
end
end Go.Proofs.Ytebjkmjfcijebaa
namespace Go.Proofs.Ytebjkmjfcijebaa
open Go.RowKit
set_option maxRecDepth 100000
attribute [local irreducible] OW RS
def ziq (h : Nat) (x : UInt8) : Nat := (31 * h + x.toNat + 1) % 2147483647
def hashN (l : List UInt8) : Nat := l.foldl ziq l.length
noncomputable def oc (v : PV) : Int := if v.good then (if v.k = 0 then 1 else if v.k = 3 then od v.bits else if v.k = 4 then ((hashN v.s.data.toList : Nat) : Int) else ysx v.cn v.cx) else 0
def yex (v : PV) : Bool := if v.good then (if v.k = 1 then v.yes else if v.k = 2 then decide ((0 : Int) < ((v.xs.length : Nat) : Int)) else if v.k = 3 then (IntKind.u64.wrap (((v.bits : Nat) : Int) * 2) != 0) else !(v.s.toList == (⟨#[]⟩ : ByteArray).toList)) else false
theorem fold_lt (l : List UInt8) (h : Nat) (hh : h < 2147483647) : l.foldl ziq h < 2147483647 := by
 induction l generalizing h with
 | nil => exact hh
 | cons x l ih => exact ih _ (Nat.mod_lt _ (by decide))
theorem fold_step {l : List UInt8} {i : Nat} {x : UInt8} (h : l[i]? = some x) (n : Nat) : (l.take (i + 1)).foldl ziq n = ziq ((l.take i).foldl ziq n) x := by
 obtain ⟨hi, he⟩ := List.getElem?_eq_some_iff.1 h;rw [List.take_succ_eq_append_getElem hi, List.foldl_append, he];rfl
theorem rem_at (m x : Nat) : (31 * ((m : Nat) : Int) + ((x : Nat) : Int) + 1).tmod 2147483647 = (((31 * m + x + 1) % 2147483647 : Nat) : Int) := by
 rw [Int.tmod_eq_emod_of_nonneg (by omega)]; omega
section
variable (w : World) (ua : PV) (A1 B1 : Option Addr) (c1 d1 : Nat) (hx : Nums w A1 ua.xs) (hl : ua.xs.length ≤ 9223372036854775807) (ha : ua.bits < 18446744073709551616)
include hx hl ha
theorem ph0 (g1 : ua.good = false) : Calls Try.prog 37 #[.agg #[.int .i64 ua.k, .bool ua.yes, .bool ua.neg, .slice A1 ua.xs.length c1, .int .u64 ((ua.bits : Nat) : Int), .string ua.s, .slice B1 ua.ni d1]] w fun e w' => e = .returned (.int .i64 (oc ua)) ∧ Below w.heap.size w w' := by
 have _ := hx; have _ := hl; have _ := ha;refine yb Try.func37 rfl Try.ntmps37 rfl ?_;have HF : Per (No) w (fun _ => True) := Per.true_;have LW := erx (No) w;have XLW := grx (No) w;have E := erx (No) w;replace HF := HF.on E;replace LW := LW.step E XLW;replace E := erx (No) w;replace HF := HF.and (Per.nums0 hx);refine srx (za rfl (yt rfl ?_));intro gb1 w2 Bb1 Eb1 Gb1
 have Gb1 : _ ≤ gb1 := Nat.le_trans E.size Gb1;have GLb1 := Nat.le_trans LW.size Gb1;replace E := E.trans Eb1.no;replace HF := HF.cons (yj Gb1);replace E := E.cons (some gb1);replace XLW := Mut.grow XLW (fun k e => Or.inr (Nat.le_trans LW.size ((yj Gb1) k e)));replace HF := HF.on E;replace LW := LW.step E XLW;have SB : ∀ q9, No q9 → Mut [(some gb1)] q9 := (Mut.skip Mut.nil_)
 replace HF := HF.less SB;replace XLW := fun k h => XLW k (SB k h);clear SB;replace E := erx (No) w2;replace HF := HF.and (Per.blkN Bb1 NotIn.nil);refine anx rfl (zl (srx (za rfl (zz Try.underlying43 rfl vi rfl (HF.on E).here.2 rfl (za rfl (zi en18 rfl ((xa _ ua A1 B1 c1 d1 (HF.on E).here.1.2 hl false g1).mono ?_)))))));rintro e w3 ⟨rfl, hb⟩;refine ⟨_, rfl, ?_⟩
 replace E := blx E hb;refine za rfl (qa rfl (rnx (ye rfl (srx (anx rfl (zo (zh (zn (rs := [.tmp 2]) (vs := [_]) rfl ⟨rfl, trivial⟩ ?_))))))));exact ⟨by unfold oc; rw [g1]; rfl, (LW.step E XLW).toBelow⟩
theorem ph1 (g1 : ua.good = true) (h0 : ua.k = 0) : Calls Try.prog 37 #[.agg #[.int .i64 ua.k, .bool ua.yes, .bool ua.neg, .slice A1 ua.xs.length c1, .int .u64 ((ua.bits : Nat) : Int), .string ua.s, .slice B1 ua.ni d1]] w fun e w' => e = .returned (.int .i64 (oc ua)) ∧ Below w.heap.size w w' := by
 have _ := hx; have _ := hl; have _ := ha;refine yb Try.func37 rfl Try.ntmps37 rfl ?_;have HF : Per (No) w (fun _ => True) := Per.true_;have LW := erx (No) w;have XLW := grx (No) w;have E := erx (No) w;replace HF := HF.on E;replace LW := LW.step E XLW;replace E := erx (No) w;replace HF := HF.and (Per.nums0 hx);refine srx (za rfl (yt rfl ?_));intro gb1 w2 Bb1 Eb1 Gb1
 have Gb1 : _ ≤ gb1 := Nat.le_trans E.size Gb1;have GLb1 := Nat.le_trans LW.size Gb1;replace E := E.trans Eb1.no;replace HF := HF.cons (yj Gb1);replace E := E.cons (some gb1);replace XLW := Mut.grow XLW (fun k e => Or.inr (Nat.le_trans LW.size ((yj Gb1) k e)));replace HF := HF.on E;replace LW := LW.step E XLW;have SB : ∀ q9, No q9 → Mut [(some gb1)] q9 := (Mut.skip Mut.nil_)
 replace HF := HF.less SB;replace XLW := fun k h => XLW k (SB k h);clear SB;replace E := erx (No) w2;replace HF := HF.and (Per.blkN Bb1 NotIn.nil);refine anx rfl (zl (srx (za rfl (zz Try.underlying43 rfl vi rfl (HF.on E).here.2 rfl (za rfl (zi en18 rfl ((xa _ ua A1 B1 c1 d1 (HF.on E).here.1.2 hl true g1).mono ?_)))))));rintro e w3 ⟨rfl, hb⟩;refine ⟨_, rfl, ?_⟩
 replace E := blx E hb
 refine za rfl (qa rfl (rnx (zw rfl (zt (zj (zl (srx (za rfl (zf Try.underlying43 rfl sz3 (by decide) rfl (za rfl (zk Try.underlying3 rfl rfl (HF.on E).here.2 rfl (rnx (yh (srx (za rfl (yl rfl rfl (anx rfl (yd 11 (.bool true) rfl ((by simp [h0] : (.bool (ua.k == 0) : Value) = _)) (ye rfl (srx (anx rfl (zo (zr (zh (zn (rs := [.tmp 2]) (vs := [_]) rfl ⟨rfl, trivial⟩ ?_)))))))))))))))))))))))))
 exact ⟨by unfold oc; rw [g1, if_pos rfl, if_pos h0]; rfl, (LW.step E XLW).toBelow⟩
theorem ph2 (g1 : ua.good = true) (h0 : ¬ ua.k = 0) (h3 : ua.k = 3) : Calls Try.prog 37 #[.agg #[.int .i64 ua.k, .bool ua.yes, .bool ua.neg, .slice A1 ua.xs.length c1, .int .u64 ((ua.bits : Nat) : Int), .string ua.s, .slice B1 ua.ni d1]] w fun e w' => e = .returned (.int .i64 (oc ua)) ∧ Below w.heap.size w w' := by
 have _ := hx; have _ := hl; have _ := ha;refine yb Try.func37 rfl Try.ntmps37 rfl ?_;have HF : Per (No) w (fun _ => True) := Per.true_;have LW := erx (No) w;have XLW := grx (No) w;have E := erx (No) w;replace HF := HF.on E;replace LW := LW.step E XLW;replace E := erx (No) w;replace HF := HF.and (Per.nums0 hx);refine srx (za rfl (yt rfl ?_));intro gb1 w2 Bb1 Eb1 Gb1
 have Gb1 : _ ≤ gb1 := Nat.le_trans E.size Gb1;have GLb1 := Nat.le_trans LW.size Gb1;replace E := E.trans Eb1.no;replace HF := HF.cons (yj Gb1);replace E := E.cons (some gb1);replace XLW := Mut.grow XLW (fun k e => Or.inr (Nat.le_trans LW.size ((yj Gb1) k e)));replace HF := HF.on E;replace LW := LW.step E XLW;have SB : ∀ q9, No q9 → Mut [(some gb1)] q9 := (Mut.skip Mut.nil_)
 replace HF := HF.less SB;replace XLW := fun k h => XLW k (SB k h);clear SB;replace E := erx (No) w2;replace HF := HF.and (Per.blkN Bb1 NotIn.nil);refine anx rfl (zl (srx (za rfl (zz Try.underlying43 rfl vi rfl (HF.on E).here.2 rfl (za rfl (zi en18 rfl ((xa _ ua A1 B1 c1 d1 (HF.on E).here.1.2 hl true g1).mono ?_)))))));rintro e w3 ⟨rfl, hb⟩;refine ⟨_, rfl, ?_⟩
 replace E := blx E hb
 refine za rfl (qa rfl (rnx (zw rfl (zt (zj (zl (srx (za rfl (zf Try.underlying43 rfl sz3 (by decide) rfl (za rfl (zk Try.underlying3 rfl rfl (HF.on E).here.2 rfl (rnx (yh (srx (za rfl (yl rfl rfl (anx rfl (yd 11 (.bool false) rfl ((by simp [h0] : (.bool (ua.k == 0) : Value) = _)) (zw rfl (srx (za rfl (yl rfl rfl (anx rfl (yd 13 (.bool true) rfl ((by simp [h3] : (.bool (ua.k == 3) : Value) = _)) (ye rfl (srx (za rfl (zf Try.underlying43 rfl vc (by decide) rfl (za rfl (zk Try.underlying25 rfl rfl (HF.on E).here.2 rfl (za rfl (zi en56 rfl ((hash_any _ ua.bits ha).mono ?_)))))))))))))))))))))))))))))))))
 rintro e w4 ⟨rfl, hb⟩;refine ⟨_, rfl, ?_⟩;replace E := blx E hb;refine anx rfl (zo (zr (zh (zn (rs := [.tmp 2]) (vs := [_]) rfl ⟨rfl, trivial⟩ ?_))));exact ⟨by unfold oc; rw [g1, if_pos rfl, if_neg h0, if_pos h3]; rfl, (LW.step E XLW).toBelow⟩
theorem ph4 (g1 : ua.good = true) (h0 : ¬ ua.k = 0) (h3 : ¬ ua.k = 3) (h4 : ¬ ua.k = 4) : Calls Try.prog 37 #[.agg #[.int .i64 ua.k, .bool ua.yes, .bool ua.neg, .slice A1 ua.xs.length c1, .int .u64 ((ua.bits : Nat) : Int), .string ua.s, .slice B1 ua.ni d1]] w fun e w' => e = .returned (.int .i64 (oc ua)) ∧ Below w.heap.size w w' := by
 have _ := hx; have _ := hl; have _ := ha;have hcl := PV.cx_len hl;refine yb Try.func37 rfl Try.ntmps37 rfl ?_;have HF : Per (No) w (fun _ => True) := Per.true_;have LW := erx (No) w;have XLW := grx (No) w;have E := erx (No) w;replace HF := HF.on E;replace LW := LW.step E XLW;replace E := erx (No) w;replace HF := HF.and (Per.nums0 hx);refine srx (za rfl (yt rfl ?_))
 intro gb1 w2 Bb1 Eb1 Gb1;have Gb1 : _ ≤ gb1 := Nat.le_trans E.size Gb1;have GLb1 := Nat.le_trans LW.size Gb1;replace E := E.trans Eb1.no;replace HF := HF.cons (yj Gb1);replace E := E.cons (some gb1);replace XLW := Mut.grow XLW (fun k e => Or.inr (Nat.le_trans LW.size ((yj Gb1) k e)));replace HF := HF.on E;replace LW := LW.step E XLW
 have SB : ∀ q9, No q9 → Mut [(some gb1)] q9 := (Mut.skip Mut.nil_);replace HF := HF.less SB;replace XLW := fun k h => XLW k (SB k h);clear SB;replace E := erx (No) w2;replace HF := HF.and (Per.blkN Bb1 NotIn.nil)
 refine anx rfl (zl (srx (za rfl (zz Try.underlying43 rfl vi rfl (HF.on E).here.2 rfl (za rfl (zi en18 rfl ((xa _ ua A1 B1 c1 d1 (HF.on E).here.1.2 hl true g1).mono ?_)))))));rintro e w3 ⟨rfl, hb⟩;refine ⟨_, rfl, ?_⟩;replace E := blx E hb
 refine za rfl (qa rfl (rnx (zw rfl (zt (zj (zl (srx (za rfl (zf Try.underlying43 rfl sz3 (by decide) rfl (za rfl (zk Try.underlying3 rfl rfl (HF.on E).here.2 rfl (rnx (yh (srx (za rfl (yl rfl rfl (anx rfl (yd 11 (.bool false) rfl ((by simp [h0] : (.bool (ua.k == 0) : Value) = _)) (zw rfl (srx (za rfl (yl rfl rfl (anx rfl (yd 13 (.bool false) rfl ((by simp [h3] : (.bool (ua.k == 3) : Value) = _)) (zw rfl (srx (za rfl (yl rfl rfl (anx rfl (yd 18 (.bool false) rfl ((by simp [h4] : (.bool (ua.k == 4) : Value) = _)) (zw rfl (zt (zx ?_)))))))))))))))))))))))))))))))))
 refine zj (srx (za rfl (zz Try.underlying43 rfl vi rfl (HF.on E).here.2 rfl (za rfl (zi en58 rfl ((zsv _ ua A1 B1 c1 d1).mono ?_))))));rintro e w4 ⟨A3, c3, rfl, hN, hb⟩;refine ⟨_, rfl, ?_⟩;replace E := blx E hb;have hN3 : Nums w4 A3 ua.cx := hN.elim (fun h => by rw [h.1, h.2]; exact (HF.on E).here.1.2) (fun h => h.nums)
 refine za rfl (zi en57 rfl ((hashbig_any ua.cn A3 c3 ua.cx _ hN3 hcl).mono ?_));rintro e w5 ⟨rfl, hb⟩;refine ⟨_, rfl, ?_⟩;replace E := blx E hb;refine anx rfl (zo (zn (rs := [.tmp 2]) (vs := [_]) rfl ⟨rfl, trivial⟩ ?_));exact ⟨by unfold oc; rw [g1, if_pos rfl, if_neg h0, if_neg h3, if_neg h4]; rfl, (LW.step E XLW).toBelow⟩
theorem ph3 (g1 : ua.good = true) (h0 : ¬ ua.k = 0) (h3 : ¬ ua.k = 3) (h4 : ua.k = 4) (hsl : ua.s.size ≤ 20000) : Calls Try.prog 37 #[.agg #[.int .i64 ua.k, .bool ua.yes, .bool ua.neg, .slice A1 ua.xs.length c1, .int .u64 ((ua.bits : Nat) : Int), .string ua.s, .slice B1 ua.ni d1]] w fun e w' => e = .returned (.int .i64 (oc ua)) ∧ Below w.heap.size w w' := by
 have _ := ha;have hsn : ua.s.data.toList.length = ua.s.size := by rw [Array.length_toList]; rfl
 have hbx : ∀ x : UInt8, x.toNat < 256 := fun x => x.toNat_lt;refine yb Try.func37 rfl Try.ntmps37 rfl (srx (za rfl (yt rfl ?_)));rintro gv wA BX E1 G1
 refine anx rfl (zl (srx (za rfl (vr (cs := #[.int .i64 ua.k, .bool ua.yes, .bool ua.neg, .slice A1 ua.xs.length c1, .int .u64 ((ua.bits : Nat) : Int), .string ua.s, .slice B1 ua.ni d1]) Try.underlying43 rfl vi rfl rfl (fun j v hj ↦ by have h := (BX.cell j).trans hj; rw [Nat.zero_add]; exact h) (za rfl (zi en18 rfl ((xa _ ua A1 B1 c1 d1 (Per.nums0 hx _ E1) hl true g1).mono ?_)))))))
 rintro e w1 ⟨rfl, hb⟩;refine ⟨_, rfl, ?_⟩;have E2 := E1.trans (Ext.of_below hb No);have BX2 := BX.ext (Ext.of_below hb No) (fun h => h.elim)
 refine za rfl (qa rfl (rnx (zw rfl (zt (zj (zl (srx (za rfl (zf Try.underlying43 rfl sz3 (by decide) rfl (za rfl (zk Try.underlying3 rfl rfl BX2 rfl (rnx (yh (srx (za rfl (yl rfl rfl (anx rfl (yd 11 (.bool false) rfl ((by simp [h0] : (.bool (ua.k == 0) : Value) = _)) (zw rfl (srx (za rfl (yl rfl rfl (anx rfl (yd 13 (.bool false) rfl ((by simp [h3] : (.bool (ua.k == 3) : Value) = _)) (zw rfl (srx (za rfl (yl rfl rfl (anx rfl (yd 18 (.bool true) rfl ((by simp [h4] : (.bool (ua.k == 4) : Value) = _)) (ye rfl (srx ?_))))))))))))))))))))))))))))))))
 refine za rfl (zf Try.underlying43 rfl sz9 (by decide) rfl (za rfl (zk Try.underlying9 rfl rfl BX2 rfl (za rfl (zyv Try.underlying9 rfl (anx rfl (zl (srx (za rfl (zf Try.underlying43 rfl sz9 (by decide) rfl (za rfl (zk Try.underlying9 rfl rfl BX2 rfl (za rfl (ow_strBytes Try.underlying9 Try.underlying103 Try.underlying5 rfl rfl rfl ?_))))))))))))))
 rintro gx cx wC RX E5 GX;have E6 := E2.trans E5
 refine za rfl (qe Try.underlying103 rfl (mvx rfl (rnx (yh (jd (ι := Nat) (fun i => [(3, .int .i64 (((ua.s.data.toList.take i).foldl ziq ua.s.size : Nat) : Int)), (25, .slice (some ⟨gx, 0, none⟩) ua.s.size cx), (26, .int .i64 ((ua.s.size : Nat) : Int)), (27, .int .i64 ((i : Nat) : Int))]) (fun i w' => i ≤ ua.s.size ∧ Ext No wC w') (fun i => ua.s.size - i) 0 ⟨rfl, rfl, rfl, rfl, trivial⟩ (⟨Nat.zero_le _, Ext.refl _ _⟩) ?_)))))
 rintro i w3 ⟨hin, XI⟩;refine srx (za rfl (qo rfl rfl (rnx (zl (yv rfl (fun hic => ?_) (fun hic => ?_))))))
 ·
  have hic := of_decide_eq_true hic;have hil : i < ua.s.size := by omega
  obtain ⟨x, hxl⟩ : ∃ x, ua.s.data.toList[i]? = some x := ⟨_, List.getElem?_eq_getElem (by omega)⟩;have hxb := hbx x;obtain ⟨m, hm⟩ : ∃ m, m = (ua.s.data.toList.take i).foldl ziq ua.s.size := ⟨_, rfl⟩;have hml : m < 2147483647 := by rw [hm]; exact fold_lt _ _ (by omega)
  have hcell : ∀ z, Ext No wC z → z.cell? ⟨gx, 0 + i, none⟩ = some (.int .u8 ((x.toNat : Nat) : Int)) := fun z hz => by
   rw [Nat.zero_add];exact Per.rowL RX z hz i (.int .u8 ((x.toNat : Nat) : Int)) (by rw [List.getElem?_map, hxl]; rfl)
  rw [← hm]
  refine yd 3 (.int .i64 ((m : Nat) : Int)) rfl (rfl) (zt (zj (zl (yh (srx (za rfl (yc (j := i) Try.underlying103 sz5 rfl rfl rfl hil (za rfl (qm Try.underlying5 rfl rfl (hcell _ XI) (anx rfl (yq (mvx rfl (za rfl (jf rfl rfl (zy (by omega)) (mvx rfl (za rfl (qc Try.underlying3 Try.underlying5 rfl (zy (by omega)) (za rfl (yp rfl rfl (zy (by omega)) (za rfl (yp rfl rfl (zy (by omega)) (za rfl (gh rfl rfl (by decide) (rem_at m x.toNat) (avx rfl (qz (zx (zj (yq (za rfl (yp rfl rfl (zy (by omega)) (mvx rfl (qz ?_))))))))))))))))))))))))))))))))
  exact ve (i + 1) (by show ua.s.size - (i + 1) < ua.s.size - i; omega) ⟨by rw [fold_step hxl, ← hm]; rfl, rfl, rfl, rfl, trivial⟩ (⟨by omega, XI⟩)
 ·
  have hic := of_decide_eq_false hic;obtain rfl : i = ua.s.size := by omega
  refine vo (yf (yf (yx (zj (srx (mvx rfl (anx rfl (zo (zr (zh (zn (rs := [.tmp 2]) (vs := [_]) rfl ⟨rfl, trivial⟩ ?_)))))))))));exact ⟨by unfold oc hashN; rw [g1, if_pos rfl, if_neg h0, if_neg h3, if_pos h4, hsn, List.take_of_length_le (by omega)]; rfl, (E6.trans XI).toBelow⟩
theorem pl_hash : Calls Try.prog 37 #[.agg #[.int .i64 ua.k, .bool ua.yes, .bool ua.neg, .slice A1 ua.xs.length c1, .int .u64 ((ua.bits : Nat) : Int), .string ua.s, .slice B1 ua.ni d1]] w fun e w' => e = .returned (.int .i64 (oc ua)) ∧ Below w.heap.size w w' := by
 cases g1 : ua.good
 · exact ph0 w ua A1 B1 c1 d1 hx hl ha g1
 by_cases h0 : ua.k = 0
 · exact ph1 w ua A1 B1 c1 d1 hx hl ha g1 h0
 by_cases h3 : ua.k = 3
 · exact ph2 w ua A1 B1 c1 d1 hx hl ha g1 h0 h3
 by_cases h4 : ua.k = 4
 · exact ph3 w ua A1 B1 c1 d1 hx hl ha g1 h0 h3 h4 (PV.s_max g1 h4)
 · exact ph4 w ua A1 B1 c1 d1 hx hl ha g1 h0 h3 h4
end
end Go.Proofs.Ytebjkmjfcijebaa
namespace Go.Proofs.Ytebjkmjfcijebaa
open Go.RowKit
set_option maxRecDepth 100000
theorem ordI_anti (x y : Int) : ordI x y = 0 - ordI y x := by unfold ordI; repeat' split
                                                              all_goals omega
theorem cmpI_anti (x y : Int) :  zdk x y = 0 -  zdk y x := by unfold  zdk; repeat' split
                                                              all_goals omega
theorem yiv (a b : Nat) : gn a b = gn b a := by unfold gn; exact Bool.and_comm _ _
theorem cmpF_anti (a b : Nat) : zwz a b = 0 - zwz b a := by
 unfold zwz;rw [yiv b a];split
 · exact ordI_anti _ _
 · rfl
theorem cmpO_anti (p : Bool) (x y : Int) : cmpO p x y = 0 - cmpO p y x := by
 unfold cmpO;split
 · exact cmpI_anti _ _
 · rfl
theorem bytes_self : ∀ (s : List UInt8), Lib.compareBytes s s = 0
 | [] => rfl
 | x :: s => by unfold Lib.compareBytes; rw [if_neg (UInt8.lt_irrefl x), if_neg (UInt8.lt_irrefl x)]; exact bytes_self s
theorem ordC_anti (a b : PV) : ordC a b = 0 - ordC b a := by
 unfold ordC;by_cases h1 : a.k = 3 <;> by_cases h2 : b.k = 3
 · rw [if_pos h1, if_pos h2, if_pos h2, if_pos h1]; exact cmpF_anti _ _
 · rw [if_pos h1, if_neg h2, if_neg h2, if_pos h1]; omega
 · rw [if_neg h1, if_pos h2, if_pos h2, if_neg h1]
 · rw [if_neg h1, if_neg h2, if_neg h2, if_neg h1, Bool.and_comm]; exact cmpO_anti _ _ _
theorem ordO_comm (a b : PV) : ordO a b = ordO b a := by
 unfold ordO;by_cases h1 : a.k = 3 <;> by_cases h2 : b.k = 3
 · rw [if_pos h1, if_pos h2, if_pos h2, if_pos h1]; exact yiv _ _
 · rw [if_pos h1, if_neg h2, if_neg h2, if_pos h1]
 · rw [if_neg h1, if_pos h2, if_pos h2, if_neg h1]
 · rw [if_neg h1, if_neg h2, if_neg h2, if_neg h1]
theorem eq0_neg {x y : Int} (h : x = 0 - y) : (x == 0) = (y == 0) := Bool.eq_iff_iff.2 (by rw [beq_iff_eq, beq_iff_eq]; omega)
theorem eqS_comm (a b : PV) : eqS a b = eqS b a := by
 unfold eqS;rw [Bool.beq_comm (a := a.k), Bool.beq_comm (a := a.s.toList)]
theorem eqV_comm (a b : PV) : eqV a b = eqV b a := by
 unfold eqV;rw [Bool.and_comm b.good, Bool.and_comm (zkz b.k), ordO_comm b a, eq0_neg (ordC_anti b a), eqS_comm b a]
theorem truth_f {b : Nat} (hb : b < 18446744073709551616) : (IntKind.u64.wrap (((b : Nat) : Int) * 2) != 0) = decide (rg b ≠ 0) := by
 have h : IntKind.u64.wrap (((b : Nat) : Int) * 2) = ((2 * rg b : Nat) : Int) := by
  unfold IntKind.wrap rg;simp only [IntKind.bits, IntKind.signed, Bool.false_and, Bool.false_eq_true, if_false]
  omega
 rw [h];refine Bool.eq_iff_iff.2 ?_;rw [bne_iff_ne, decide_eq_true_eq];omega
theorem div_none {v P : Nat} (hP : P ∣ v) (hw : v / P = 0) : v = 0 := by
 have h := Nat.div_mul_cancel hP;rw [hw, Nat.zero_mul] at h;exact h.symm
theorem none_div {v P : Nat} (h : v = 0) : v / P = 0 := by rw [h, Nat.zero_div]
theorem vl_nought {r : Nat} (h : vl r = 0) : r = 0 := by
 rcases Nat.eq_zero_or_pos r with h0 | h0
 · exact h0
 · have := yrx h0;omega
theorem truth_fb {a : Nat} {n : Bool} {xs : List Nat} (ho : ke a n xs = true) (hz : ow a n xs = 0) : (rg a ≠ 0) ↔ (num n xs ≠ 0) := by
 unfold ow at hz;rw [if_pos ho] at hz;by_cases hi : rg a = 9218868437227405312
 · rw [if_pos hi] at hz; exact absurd hz (infV_ne a)
 rw [if_neg hi] at hz;unfold cmpB at hz;by_cases h0 : zdk (km a) (num n xs) = 0
 · rw [if_neg (fun h => h h0)] at hz;have he := yqx h0;cases hl : yjq a with
   | true => rw [hl, if_pos rfl] at hz; split at hz <;> cases hz
   | false =>
    have hw : isWh (rg a) := by
     unfold yjq at hl;exact Classical.byContradiction fun h => @of_decide_eq_false _ (Classical.propDecidable _) hl h
    have h1 := wholeI_abs a;rw [he] at h1;have hz0 : vh a = 0 ↔ rg a = 0 := by
     constructor
     · intro h;exact vl_nought (div_none hw h)
     · intro h;exact none_div (show vl (rg a) = 0 by rw [h]; decide)
    rw [← h1] at hz0;rw [ne_eq, ne_eq, ← hz0];omega
 · rw [if_pos h0] at hz; exact absurd hz h0
theorem num_of {m : Bool} {i : Int} {xs : List Nat} (h1 : m = decide (i < 0)) (h2 : xs = limbs i) : num m (limbs i) = i := by
 rw [h1, kp]
theorem limbs_some (i : Int) : decide ((0 : Int) < (((limbs i).length : Nat) : Int)) = decide (i ≠ 0) := by
 refine decide_eq_decide.2 ⟨fun h e => ?_, fun h => ?_⟩
 · rw [e, jg] at h; simp at h
 · rcases Nat.eq_zero_or_pos (limbs i).length with h0 | h0
   · have h1 := List.eq_nil_of_length_eq_zero h0;have h2 := kp i;rw [h1] at h2;have h3 : num (decide (i < 0)) [] = 0 := by
      cases decide (i < 0) with
      | true => rw [zaq]; rfl
      | false => exact num_0
     rw [h3] at h2;exact absurd h2.symm h
   · omega
theorem PV.goodC {v : PV} (h : v.good = true) (hk : v.k = 1 ∨ v.k = 2) : qr v.cn v.cx = true := by
 have hc := PV.canon h hk;generalize num v.cn v.cx = i at hc
 rw [hc.1, hc.2.1];exact kj hc.2.2
theorem zxv {v : PV} (h : v.good = true) (hk : v.k = 1 ∨ v.k = 2) : yex v = decide (num v.cn v.cx ≠ 0) := by
 unfold yex;rw [h, if_pos rfl];by_cases h1 : v.k = 1
 · rw [if_pos h1];unfold PV.cn PV.cx;rw [if_pos h1, if_pos h1];cases v.yes with
   | true => rw [if_pos rfl, num_1]; rfl
   | false => rw [if_neg (by decide), num_0]; rfl
 · have h2 : v.k = 2 := by omega
   rw [if_neg h1, if_pos h2];have hc := PV.canon h hk;have e1 : v.cx = v.xs := by unfold PV.cx; rw [if_neg h1]
   rw [← e1, hc.2.1, num_of hc.1 hc.2.1];exact limbs_some _
theorem agree_eq {a b : PV} (ha : a.bits < 18446744073709551616) (hb : b.bits < 18446744073709551616) (h : eqV a b = true) : oc a = oc b ∧ yex a = yex b ∧ (ordV a b).1 = 0 := by
 unfold eqV at h;cases g1 : a.good
 · rw [g1] at h; cases h
 cases g2 : b.good
 · rw [g1, g2] at h; cases h
 rw [g1, g2, Bool.and_self, if_pos rfl] at h;cases hn : (zkz a.k && zkz b.k)
 · rw [hn, if_neg Bool.false_ne_true] at h;unfold eqS at h;cases hk : (a.k == b.k)
   · rw [hk] at h; cases h
   · rw [hk, if_pos rfl] at h;have hk := eq_of_beq hk;have hs := eq_of_beq h;rw [hk, Bool.and_self] at hn;have hd : a.s.data.toList = b.s.data.toList := by
      have h1 := congrArg List.toArray hs;rw [ByteArray.toList_eq, ByteArray.toList_eq] at hs;exact hs
     have k4 : b.k = 0 ∨ b.k = 4 := by
      by_cases h0 : b.k = 0
      · exact Or.inl h0
      · exact Or.inr (PV.str g2 hn h0)
     refine ⟨?_, ?_, ?_⟩
     · unfold oc;rw [g1, g2, if_pos rfl, if_pos rfl, hk, hd];rcases k4 with e | e
       · rw [if_pos e, if_pos e]
       · rw [if_neg (by omega), if_neg (by omega), if_pos e, if_neg (by omega), if_neg (by omega), if_pos e]
     · unfold yex;rw [g1, g2, if_pos rfl, if_pos rfl, hk, hs];rw [if_neg (by omega), if_neg (by omega), if_neg (by omega), if_neg (by omega), if_neg (by omega), if_neg (by omega)]
     · unfold ordV;rw [g1, g2, Bool.and_self, if_pos rfl, hk, hn, Bool.and_self, if_neg Bool.false_ne_true, hd];split
       · exact bytes_self _
       · rfl
 · rw [hn, if_pos rfl] at h;cases ho : ordO a b
   · rw [ho] at h; cases h
   rw [ho, if_pos rfl] at h;have hc := eq_of_beq h;simp only [Bool.and_eq_true] at hn
   have n1 := numK_at hn.1;have n2 := numK_at hn.2;have hov : (ordV a b).1 = 0 := by
    unfold ordV;rw [g1, g2, Bool.and_self, if_pos rfl, hn.1, hn.2, Bool.and_self, if_pos rfl];exact hc
   have hbig : ∀ {v : PV}, v.good = true → 1 ≤ v.k ∧ v.k ≤ 3 → ¬ v.k = 3 → oc v = ysx v.cn v.cx := fun g n h3 => by
    unfold oc;rw [g, if_pos rfl, if_neg (by omega), if_neg h3, if_neg (by omega)]
   have hflt : ∀ {v : PV}, v.good = true → v.k = 3 → oc v = od v.bits := fun g h3 => by
    unfold oc;rw [g, if_pos rfl, if_neg (by omega), if_pos h3]
   have tflt : ∀ {v : PV}, v.good = true → v.bits < 18446744073709551616 → v.k = 3 → yex v = decide (rg v.bits ≠ 0) := fun g hb h3 => by
    unfold yex;rw [g, if_pos rfl, if_neg (by omega), if_neg (by omega), if_pos h3];exact truth_f hb
   unfold ordC at hc;unfold ordO at ho;by_cases h1 : a.k = 3 <;> by_cases h2 : b.k = 3
   · rw [if_pos h1, if_pos h2] at hc ho;refine ⟨?_, ?_, hov⟩
     · rw [hflt g1 h1, hflt g2 h2]; exact agree_cmp ho hc
     · rw [tflt g1 ha h1, tflt g2 hb h2];unfold zwz at hc;rw [if_pos ho] at hc;have hp : pc a.bits = pc b.bits := by
        unfold ordI at hc;split at hc
        · cases hc
        · split at hc
          · cases hc
          · omega
       unfold pc at hp;have hr : rg a.bits = rg b.bits := by split at hp <;> split at hp <;> omega
       rw [hr]
   · rw [if_pos h1, if_neg h2] at hc ho;have hkb : b.k = 1 ∨ b.k = 2 := by omega
     refine ⟨?_, ?_, hov⟩
     · rw [hflt g1 h1, hbig g2 n2 h2]; exact agree_any ho hc
     · rw [tflt g1 ha h1, zxv g2 hkb]; exact decide_eq_decide.2 (truth_fb ho hc)
   · rw [if_neg h1, if_pos h2] at hc ho;have hka : a.k = 1 ∨ a.k = 2 := by omega
     refine ⟨?_, ?_, hov⟩
     · rw [hflt g2 h2, hbig g1 n1 h1]; exact (agree_any ho (by omega)).symm
     · rw [tflt g2 hb h2, zxv g1 hka]; exact (decide_eq_decide.2 (truth_fb ho (by omega))).symm
   · rw [if_neg h1, if_neg h2] at hc;have hka : a.k = 1 ∨ a.k = 2 := by omega
     have hkb : b.k = 1 ∨ b.k = 2 := by omega
     have q1 := PV.canon g1 hka;have q2 := PV.canon g2 hkb;have gb1 : qr a.cn a.cx = true := PV.goodC g1 hka;have gb2 : qr b.cn b.cx = true := PV.goodC g2 hkb;rw [gb1, gb2] at hc;have hc : zdk (num a.cn a.cx) (num b.cn b.cx) = 0 := by unfold cmpO at hc; exact hc
     have he := yqx hc;refine ⟨?_, ?_, hov⟩
     · rw [hbig g1 n1 h1, hbig g2 n2 h2];unfold ysx;rw [gb1, gb2, he]
     · rw [zxv g1 hka, zxv g2 hkb, he]
end Go.Proofs.Ytebjkmjfcijebaa
namespace Go.Proofs.Ytebjkmjfcijebaa
set_option maxRecDepth 100000
structure Obs where
 T : Nat → Option PV
 K : Nat → Nat
 I : Nat → Option (List Nat)
 TI : Nat → List Nat
 N : Nat → Int × Int
structure ObsOk (o : Obs) : Prop where
 bits : ∀ {x v}, o.T x = some v → v.bits < 18446744073709551616
 kind : ∀ {x v}, o.T x = some v → o.K x ≠ 5 ∧ o.K x ≠ 6
 tup : ∀ {x l}, o.K x = 6 → o.I x = some l → l = o.TI x
def eqL (f : Nat → Nat → Nat → (Bool × Int) × Nat) : List Nat → List Nat → Nat → (Bool × Int) × Nat
 | x :: l, y :: r, left => if (f x y left).1.1 = true ∧ (f x y left).1.2 = 0 then eqL f l r (f x y left).2 else ((false, (f x y left).1.2), (f x y left).2)
 | _, _, left => ((true, 0), left)
noncomputable def eqW (o : Obs) : Nat → Nat → Nat → Nat → (Bool × Int) × Nat
 | 0, _, _, left => if left = 0 then ((false, 12), 0) else ((false, 11), left - 1)
 | n + 1, a, b, left => if left = 0 then ((false, 12), 0) else
  match o.T a, o.T b with
  | some x, some y => ((eqV x y, 0), left - 1)
  | _, _ => if a = b then ((true, 0), left - 1) else if o.K a ≠ o.K b ∨ (o.K a ≠ 6 ∧ o.K a ≠ 5) then ((false, 0), left - 1) else
   match o.I a, o.I b with
   | some l, some r => if l.length ≠ r.length then ((false, 0), left - 1) else eqL (eqW o n) l r (left - 1)
   | _, _ => ((false, 0), left - 1)
def mixH (h x : Int) : Int := (31 * h + (x.tmod 2147483647 + 2147483647).tmod 2147483647 + 1).tmod 2147483647
def hsL (f : Nat → Nat → (Int × Int) × Nat) : List Nat → Int → Nat → (Int × Int) × Nat
 | [], h, left => ((h, 0), left)
 | x :: l, h, left => if (f x left).1.2 = 0 then hsL f l (mixH h (f x left).1.1) (f x left).2 else ((0, (f x left).1.2), (f x left).2)
noncomputable def hsW (o : Obs) : Nat → Nat → Nat → (Int × Int) × Nat
 | 0, _, left => if left = 0 then ((0, 12), 0) else ((0, 11), left - 1)
 | n + 1, w, left => if left = 0 then ((0, 12), 0) else
  match o.T w with
  | some v => ((oc v, 0), left - 1)
  | none => if o.K w = 6 then hsL (hsW o n) (o.TI w) ((o.TI w).length : Int) (left - 1)
   else if o.K w = 10 ∨ o.K w = 13 ∨ o.K w = 14 ∨ o.K w = 15 then (o.N w, left - 1) else ((0, 10), left - 1)
section
variable {o : Obs}
theorem eqL_comm {f : Nat → Nat → Nat → (Bool × Int) × Nat} (hf : ∀ a b k, f a b k = f b a k) : ∀ (l r : List Nat) (k : Nat), eqL f l r k = eqL f r l k
 | x :: l, y :: r, k => by
  unfold eqL;rw [hf x y k, eqL_comm hf l r]
 | [], [], _ => rfl
 | [], _ :: _, _ => rfl
 | _ :: _, [], _ => rfl
theorem eqW_comm : ∀ (n a b k : Nat), eqW o n a b k = eqW o n b a k
 | 0, _, _, _ => rfl
 | n + 1, a, b, k => by
  have ih := eqL_comm (fun x y z => eqW_comm n x y z);unfold eqW;by_cases hk : k = 0
  · rw [if_pos hk, if_pos hk]
  rw [if_neg hk, if_neg hk];have hrest : (if a = b then ((true, 0), k - 1) else if o.K a ≠ o.K b ∨ (o.K a ≠ 6 ∧ o.K a ≠ 5) then ((false, 0), k - 1) else
   match o.I a, o.I b with
   | some l, some r => if l.length ≠ r.length then ((false, 0), k - 1) else eqL (eqW o n) l r (k - 1)
   | _, _ => ((false, 0), k - 1) : (Bool × Int) × Nat) = (if b = a then ((true, 0), k - 1) else if o.K b ≠ o.K a ∨ (o.K b ≠ 6 ∧ o.K b ≠ 5) then ((false, 0), k - 1) else
   match o.I b, o.I a with
   | some l, some r => if l.length ≠ r.length then ((false, 0), k - 1) else eqL (eqW o n) l r (k - 1)
   | _, _ => ((false, 0), k - 1)) := by
   by_cases hab : a = b
   · rw [if_pos hab, if_pos hab.symm]
   rw [if_neg hab, if_neg (show ¬ b = a from fun h => hab h.symm)];by_cases hK : o.K a = o.K b
   · rw [hK];split
     · rfl
     · cases o.I a <;> cases o.I b <;> try rfl
       rename_i l r
       show (if l.length ≠ r.length then ((false, 0), k - 1) else eqL (eqW o n) l r (k - 1)) = (if r.length ≠ l.length then ((false, 0), k - 1) else eqL (eqW o n) r l (k - 1))
       by_cases hl : l.length = r.length
       · rw [if_neg (show ¬ l.length ≠ r.length from fun h => h hl), if_neg (show ¬ r.length ≠ l.length from fun h => h hl.symm)];exact ih _ _ _
       · rw [if_pos (show l.length ≠ r.length from hl), if_pos (show r.length ≠ l.length from fun h => hl h.symm)]
   · rw [if_pos (Or.inl hK), if_pos (Or.inl (fun h => hK h.symm))]
  cases ha : o.T a <;> cases hb : o.T b
  · exact hrest
  · exact hrest
  · exact hrest
  · show ((eqV _ _, 0), k - 1) = ((eqV _ _, 0), k - 1)
    rw [eqV_comm]
theorem hsL_same {f : Nat → Nat → (Int × Int) × Nat} (hf : ∀ x k1 k2, (f x k1).1.2 = 0 → (f x k2).1.2 = 0 → (f x k1).1.1 = (f x k2).1.1) : ∀ (l : List Nat) (h : Int) (k1 k2 : Nat), (hsL f l h k1).1.2 = 0 → (hsL f l h k2).1.2 = 0 → (hsL f l h k1).1.1 = (hsL f l h k2).1.1
 | [], _, _, _, _, _ => rfl
 | x :: l, h, k1, k2, h1, h2 => by
  unfold hsL at h1 h2 ⊢;by_cases e1 : (f x k1).1.2 = 0
  · by_cases e2 : (f x k2).1.2 = 0
    · rw [if_pos e1] at h1 ⊢;rw [if_pos e2] at h2 ⊢;rw [hf x k1 k2 e1 e2] at h1 ⊢;exact hsL_same hf l _ _ _ h1 h2
    · rw [if_neg e2] at h2; exact absurd h2 e2
  · rw [if_neg e1] at h1; exact absurd h1 e1
theorem hsW_same : ∀ (n w k1 k2 : Nat), (hsW o n w k1).1.2 = 0 → (hsW o n w k2).1.2 = 0 → (hsW o n w k1).1.1 = (hsW o n w k2).1.1
 | 0, w, k1, k2, h1, _ => by
  unfold hsW at h1;split at h1 <;> cases h1
 | n + 1, w, k1, k2, h1, h2 => by
  have ih := hsL_same (fun x j1 j2 => hsW_same n x j1 j2);unfold hsW at h1 h2 ⊢;by_cases e1 : k1 = 0
  · rw [if_pos e1] at h1; cases h1
  by_cases e2 : k2 = 0
  · rw [if_pos e2] at h2; cases h2
  rw [if_neg e1] at h1 ⊢;rw [if_neg e2] at h2 ⊢;cases ht : o.T w with
  | some v => rfl
  | none =>
   rw [ht] at h1 h2;by_cases h6 : o.K w = 6
   · simp only [h6, if_true] at h1 h2 ⊢
     exact ih _ _ _ _ h1 h2
   · simp only [h6, if_false]
     split <;> rfl
theorem hsL_twins {f : Nat → Nat → Nat → (Bool × Int) × Nat} {g : Nat → Nat → (Int × Int) × Nat} (hf : ∀ x y k k1 k2, (f x y k).1.1 = true → (g x k1).1.2 = 0 → (g y k2).1.2 = 0 → (g x k1).1.1 = (g y k2).1.1) :
 ∀ (l r : List Nat) (h : Int) (k k1 k2 : Nat), l.length = r.length → (eqL f l r k).1.1 = true → (hsL g l h k1).1.2 = 0 → (hsL g r h k2).1.2 = 0 → (hsL g l h k1).1.1 = (hsL g r h k2).1.1
 | [], [], _, _, _, _, _, _, _, _ => rfl
 | [], _ :: _, _, _, _, _, hl, _, _, _ => by cases hl
 | _ :: _, [], _, _, _, _, hl, _, _, _ => by cases hl
 | x :: l, y :: r, h, k, k1, k2, hl, he, h1, h2 => by
  unfold eqL at he;unfold hsL at h1 h2 ⊢;by_cases e0 : (f x y k).1.1 = true ∧ (f x y k).1.2 = 0
  · rw [if_pos e0] at he;by_cases e1 : (g x k1).1.2 = 0
    · by_cases e2 : (g y k2).1.2 = 0
      · rw [if_pos e1] at h1 ⊢;rw [if_pos e2] at h2 ⊢;rw [hf x y k k1 k2 e0.1 e1 e2] at h1 ⊢;exact hsL_twins hf l r _ _ _ _ (by simpa using hl) he h1 h2
      · rw [if_neg e2] at h2; exact absurd h2 e2
    · rw [if_neg e1] at h1; exact absurd h1 e1
  · rw [if_neg e0] at he; cases he
theorem twins (ok : ObsOk o) : ∀ (n a b k k1 k2 : Nat), (eqW o n a b k).1.1 = true → (hsW o n a k1).1.2 = 0 → (hsW o n b k2).1.2 = 0 → (hsW o n a k1).1.1 = (hsW o n b k2).1.1
 | 0, a, b, k, k1, k2, h, _, _ => by
  unfold eqW at h;split at h <;> cases h
 | n + 1, a, b, k, k1, k2, h, h1, h2 => by
  by_cases hab : a = b
  · subst hab;exact hsW_same _ _ _ _ h1 h2
  have ih := hsL_twins (fun x y j j1 j2 => twins ok n x y j j1 j2);unfold eqW at h;by_cases hk : k = 0
  · rw [if_pos hk] at h; cases h
  rw [if_neg hk] at h;have hrest : ((if a = b then ((true, 0), k - 1) else if o.K a ≠ o.K b ∨ (o.K a ≠ 6 ∧ o.K a ≠ 5) then ((false, 0), k - 1) else
   match o.I a, o.I b with
   | some l, some r => if l.length ≠ r.length then ((false, 0), k - 1) else eqL (eqW o n) l r (k - 1)
   | _, _ => ((false, 0), k - 1) : (Bool × Int) × Nat)).1.1 = true → o.K a = o.K b ∧ (o.K a = 6 ∨ o.K a = 5) ∧ ∃ l r, o.I a = some l ∧ o.I b = some r ∧ l.length = r.length ∧ (eqL (eqW o n) l r (k - 1)).1.1 = true := by
   intro h;rw [if_neg hab] at h;by_cases hK : o.K a ≠ o.K b ∨ (o.K a ≠ 6 ∧ o.K a ≠ 5)
   · rw [if_pos hK] at h; cases h
   · rw [if_neg hK] at h;refine ⟨by omega, by omega, ?_⟩;cases hia : o.I a <;> cases hib : o.I b <;> rw [hia, hib] at h <;> try cases h
     rename_i l r
     by_cases hl : l.length = r.length
     · simp only [hl, ne_eq, not_true_eq_false, if_false] at h
       exact ⟨l, r, rfl, rfl, hl, h⟩
     · simp only [ne_eq, hl, not_false_eq_true, if_true] at h
       cases h
  unfold hsW at h1 h2 ⊢;by_cases e1 : k1 = 0
  · rw [if_pos e1] at h1; cases h1
  by_cases e2 : k2 = 0
  · rw [if_pos e2] at h2; cases h2
  rw [if_neg e1] at h1 ⊢;rw [if_neg e2] at h2 ⊢;cases ha : o.T a <;> cases hb : o.T b <;> rw [ha, hb] at h <;> rw [ha] at h1 <;> rw [hb] at h2
  · obtain ⟨hK, h56, l, r, i1, i2, hl, he⟩ := hrest h;rcases h56 with h6 | h5
    · have t1 := ok.tup h6 i1;have t2 := ok.tup (hK ▸ h6) i2;have h6b : o.K b = 6 := hK ▸ h6;simp only [h6, if_true] at h1 ⊢
      simp only [h6b, if_true] at h2 ⊢
      rw [← t1] at h1 ⊢;rw [← t2] at h2 ⊢;rw [← hl] at h2 ⊢;exact ih _ _ _ _ _ _ hl he h1 h2
    · simp only [h5] at h1
      exact absurd h1 (by simp)
  · obtain ⟨hK, h56, _⟩ := hrest h;have := ok.kind hb;omega
  · obtain ⟨hK, h56, _⟩ := hrest h;have := ok.kind ha;omega
  · exact (agree_eq (ok.bits ha) (ok.bits hb) h).1
end
end Go.Proofs.Ytebjkmjfcijebaa
namespace Go.Proofs.Ytebjkmjfcijebaa
set_option maxRecDepth 100000
noncomputable def vw (W : List Nat) (top x i : Nat) : Int × Int := if nmE (jh W (x / 4) i) ≠ 0 ∨ lkT W top x ≤ i then (0, 10) else (nmI (jh W (x / 4) i), 0)
noncomputable def qq (W : List Nat) (top : Nat) : Obs :=
 ⟨jp W top, lkK W top, gz W top, fun x => vd W (x / 4) (lkT W top x), fun x => vw W top x (if lkK W top x = 10 then 0 else 1)⟩
theorem obs_ok {W : List Nat} {top : Nat} (hW : ∀ y ∈ W, U64 y) : ObsOk (qq W top) :=
 ⟨fun h => takeO_bits hW h, fun h => takeO_kind h, fun {x l} h6 h => by
  have h6 : lkK W top x = 6 := h6;have h : gz W top x = some l := h;have hB : lkB W top x = true := by
   cases hb : lkB W top x
   · unfold lkK at h6;rw [hb] at h6;simp at h6
   · rfl
  unfold gz at h;rw [if_pos hB, if_pos h6] at h;exact (Option.some.inj h).symm⟩
theorem eqL_le {f : Nat → Nat → Nat → (Bool × Int) × Nat} (hf : ∀ x y k, (f x y k).2 ≤ k) : ∀ (l r : List Nat) (k : Nat), (eqL f l r k).2 ≤ k
 | x :: l, y :: r, k => by
  unfold eqL;split
  · exact Nat.le_trans (eqL_le hf l r _) (hf x y k)
  · exact hf x y k
 | [], [], _ => Nat.le_refl _
 | [], _ :: _, _ => Nat.le_refl _
 | _ :: _, [], _ => Nat.le_refl _
theorem hsL_le {f : Nat → Nat → (Int × Int) × Nat} (hf : ∀ x k, (f x k).2 ≤ k) : ∀ (l : List Nat) (h : Int) (k : Nat), (hsL f l h k).2 ≤ k
 | x :: l, h, k => by
  unfold hsL;split
  · exact Nat.le_trans (hsL_le hf l _ _) (hf x k)
  · exact hf x k
 | [], _, _ => Nat.le_refl _
variable {o : Obs}
theorem eqW_le : ∀ (n a b k : Nat), (eqW o n a b k).2 ≤ k
 | 0, _, _, k => by
  unfold eqW;split
  · exact Nat.zero_le _
  · exact Nat.sub_le _ _
 | n + 1, a, b, k => by
  have h1 : k - 1 ≤ k := Nat.sub_le _ _;have ih := fun l r => Nat.le_trans (eqL_le (fun x y j => eqW_le n x y j) l r (k - 1)) h1;unfold eqW;split
  · exact Nat.zero_le _
  · split
    · exact h1
    · split
      · exact h1
      · split
        · exact h1
        · split
          · split
            · exact h1
            · exact ih _ _
          · exact h1
theorem hsW_le : ∀ (n x k : Nat), (hsW o n x k).2 ≤ k
 | 0, _, k => by
  unfold hsW;split
  · exact Nat.zero_le _
  · exact Nat.sub_le _ _
 | n + 1, x, k => by
  have h1 : k - 1 ≤ k := Nat.sub_le _ _;have ih := fun l h => Nat.le_trans (hsL_le (fun y j => hsW_le n y j) l h (k - 1)) h1;unfold hsW;split
  · exact Nat.zero_le _
  · split
    · exact h1
    · split
      · exact ih _ _
      · split <;> exact h1
theorem mixH_in {h x : Int} (h0 : 0 ≤ h) : 0 ≤ mixH h x ∧ mixH h x < 2147483647 := by
 unfold mixH;have e1 := Int.tmod_lt_of_pos x (show (0 : Int) < 2147483647 by decide);have e2 := Int.lt_tmod_of_pos x (show (0 : Int) < 2147483647 by decide);have e3 : 0 ≤ (x.tmod 2147483647 + 2147483647).tmod 2147483647 := Int.tmod_nonneg _ (by omega);exact ⟨Int.tmod_nonneg _ (by omega), Int.tmod_lt_of_pos _ (by decide)⟩
noncomputable def eqT (W : List Nat) (top a b : Nat) : Bool × Int := if gdW W top a && gdW W top b then (eqW (qq W top) 40 a b 20000).1 else (false, 1)
noncomputable def hsT (W : List Nat) (top a : Nat) : Int × Int := if gdW W top a then (hsW (qq W top) 40 a 20000).1 else (0, 1)
theorem eqT_comm (W : List Nat) (top a b : Nat) : eqT W top a b = eqT W top b a := by
 unfold eqT;rw [eqW_comm, Bool.and_comm]
theorem twinsT {W : List Nat} {top a b : Nat} (hW : ∀ y ∈ W, U64 y) (h : (eqT W top a b).1 = true) (h1 : (hsT W top a).2 = 0) (h2 : (hsT W top b).2 = 0) : (hsT W top a).1 = (hsT W top b).1 := by
 unfold eqT at h;unfold hsT at h1 h2 ⊢;split at h
 · split at h1
   · split at h2
     · rename_i _ ga gb
       rw [if_pos ga, if_pos gb];exact twins (obs_ok hW) 40 a b _ _ _ h h1 h2
     · cases h2
   · cases h1
 · cases h
end Go.Proofs.Ytebjkmjfcijebaa
namespace Go.Proofs.Ytebjkmjfcijebaa
open Go.RowKit
set_option maxRecDepth 100000
attribute [local irreducible] OW RS
theorem lkB_lt {W : List Nat} {top x : Nat} (h : lkB W top x = true) (hl : W.length ≤ 1048576) : lkT W top x ≤ 1048576 := by
 obtain ⟨hk, hS⟩ := zuk h;rw [lkT_yes hk hS];have := hS.room; have := hS.len; have := hS.fit;omega
theorem lkT_le {W : List Nat} {top x : Nat} (hl : W.length ≤ 1048576) : lkT W top x ≤ 1048576 := by
 cases h : lkB W top x
 · unfold lkT; rw [h]; exact Nat.zero_le _
 · exact lkB_lt h hl
theorem lsN_of {W : List Nat} {top x : Nat} (h : IsLs W top x) (hl : W.length ≤ 1048576) : 0 ≤ lsN W x ∧ (lsN W x).toNat ≤ 1048576 ∧ (((lsN W x).toNat : Nat) : Int) = lsN W x := by
 have h1 := h.pos;have h2 := h.fit;have h3 : lsSp W top x ≤ 1048576 := by
  unfold lsSp;split
  · exact Nat.zero_le _
  · exact lkT_le hl
 omega
section
variable (w : World) (A : Option Addr) (W : List Nat) (c n top x : Nat) (hM : MemA n w A W top) (hx : U64 x)
include hM hx
def RetLs (w : World) (W : List Nat) (top x : Nat) (e : Ending) (w' : World) : Prop := ∃ (v0 v1 v2 v3 : Int) (b : Bool), e = .returned (.tuple #[.int .i64 v0, .int .i64 v1, .int .i64 v2, .int .i64 v3, .bool b]) ∧ (b = true → IsLs W top x ∧ v1 = lsN W x ∧ v2 = ((lsBk W x : Nat) : Int)) ∧ (b = false → ¬ IsLs W top x) ∧ Below w.heap.size w w'
theorem ols_any : Calls Try.prog 28 #[xj A W c top, .int .u64 ((x : Nat) : Int)] w (RetLs w W top x) := by
 have hin := @nmI_in (jh W (x / 4) 0);refine yb Try.func28 rfl Try.ntmps28 rfl (srx (za rfl (yt rfl ?_)));rintro g1 wA B1 E1 G1;have hs1 := E1.size;have h1l := B1.lt;refine avx rfl (avx rfl (avx rfl (avx rfl (anx rfl (srx (za rfl (zz Try.underlying24 rfl qx rfl B1 rfl (mvx rfl (za rfl (zi ycx rfl ((kb _ A W c n top x (hM.no E1) hx).mono ?_)))))))))))
 rintro e w1 ⟨rfl, hb⟩;refine ⟨_, rfl, ?_⟩;have E2 := E1.trans (Ext.of_below hb No);have B12 := B1.ext (Ext.of_below hb No) (fun h => h.elim);have hs2 := (Ext.of_below hb No).size;refine mvx rfl (za rfl (zg rfl rfl (za rfl (zg rfl rfl (za rfl (zg rfl rfl (za rfl (ym xw ?_))))))));rintro g9 wB B9 E3 G9
 refine avx rfl (yn (yi xe rfl rfl B9 rfl rfl rfl ?_));rintro wC B9a E4;have hEC := ((E2.trans E3).noL w.heap.size).step E4 (fun q hq => Or.inl (show w.heap.size ≤ q by have := qd hq; omega));have B13 : Blk wC g1 24 #[.slice A W.length c, .int .i64 ((top : Nat) : Int)] := (B12.ext E3 (fun h => h.elim)).ext E4 (fun h => by have := qd h; omega)
 have B9c : Blk wC g9 67 #[.int .i64 ((lkK W top x : Nat) : Int), .int .i64 ((lkT W top x : Nat) : Int), .int .i64 ((lkR W top x : Nat) : Int)] := B9a;have hMC := hM.low ⟨hEC, fun q hq => Nat.le_trans hM.size hq⟩;obtain ⟨wu1, hwu1⟩ : ∃ wu1, wu1 = wC := ⟨_, rfl⟩;subst hwu1;refine anx rfl (zl (srx (mvx rfl (za rfl (qa rfl (mvx rfl ?_))))));by_cases hB : lkB W top x = true
 ·
  obtain ⟨hk0, hS⟩ := zuk hB
  refine zq 24 (.bool false) rfl ((by rw [hB]; rfl : (.bool (!(lkB W top x)) : Value) = _)) (zq 4 (.int .i64 ((x / 4 : Nat) : Int)) rfl ((by rw [yjv hk0] : (.int .i64 ((lkA x : Nat) : Int) : Value) = _)) (onx rfl (zz Try.underlying67 rfl xe rfl B9c rfl (onx rfl (qb (cs := #[.int .i64 5, .int .i64 2, .int .i64 0]) pl67 xw rfl rfl (onx rfl (ow_shapeN rfl rfl ?_)))))))
  by_cases hsh : lkK W top x = 5 ∧ lkT W top x = 2 ∧ lkR W top x = 0
  ·
   refine zq 27 (.bool false) rfl ((by rw [decide_eq_true (by omega)]; rfl : (.bool (!decide (((lkK W top x : Nat) : Int) = 5 ∧ ((lkT W top x : Nat) : Int) = 2 ∧ ((lkR W top x : Nat) : Int) = 0)) : Value) = _)) (za rfl (zm rfl rfl (rnx (zw rfl (zt (zj (srx (za rfl (zz Try.underlying24 rfl qx rfl B13 rfl (mvx rfl (za rfl (zi en29 rfl ((zhk _ A W c n top (x / 4) 0 hMC hS).mono ?_)))))))))))))
   rintro e w2 ⟨rfl, hb⟩;refine ⟨_, rfl, ?_⟩;have E5 := Ext.of_below hb No;refine za rfl (zi en48 rfl ((num_all _ A W n top (jh W (x / 4) 0) (hMC.no E5) (zvq hM.words.in_ _ _)).mono ?_));rintro e w3 ⟨rfl, hb⟩;refine ⟨_, rfl, ?_⟩;have E6 := E5.trans (Ext.of_below hb No);have B14 := B13.ext E6 (fun h => h.elim)
   refine mvx rfl (za rfl (zg rfl rfl (za rfl (zg rfl rfl (avx rfl (anx rfl (zl (srx (mvx rfl (za rfl (qh rfl rfl ?_)))))))))));by_cases hk1 : yu (jh W (x / 4) 0) = 1
   ·
    refine zq 37 (.bool false) rfl ((by rw [yvk hk1]; rfl : (.bool (nmE (jh W (x / 4) 0) != 0) : Value) = _)) (mvx rfl (onx rfl (zp rfl (onx rfl (qo rfl rfl ?_)))));by_cases hp : nmI (jh W (x / 4) 0) < 0
    ·
     refine zq 40 (.bool true) rfl ((by rw [decide_eq_true hp] : (.bool (decide (nmI (jh W (x / 4) 0) < 0)) : Value) = _)) (za rfl (zm rfl rfl (rnx (ye rfl (srx (avx rfl (avx rfl (avx rfl (avx rfl (anx rfl (zo (zh (zn (rs := [.tmp 4, .tmp 5, .tmp 6, .tmp 7, .tmp 8]) (vs := [_, _, _, _, _]) rfl ⟨rfl, rfl, rfl, rfl, rfl, trivial⟩ ?_)))))))))))))
     exact ⟨0, 0, 0, 0, false, rfl, fun h => (by cases h), fun _ h => absurd h.pos (by unfold lsN; omega), (hEC.step E6 (fun _ h => h.elim)).below (fun _ h => h)⟩
    ·
     refine zq 40 (.bool false) rfl ((by rw [decide_eq_false hp] : (.bool (decide (nmI (jh W (x / 4) 0) < 0)) : Value) = _)) (za rfl (zm rfl rfl (rnx (zw rfl (zt (zj (zl (srx (za rfl (zz Try.underlying24 rfl qx rfl B14 rfl (mvx rfl (za rfl (zi en29 rfl ((zhk _ A W c n top (x / 4) 1 (hMC.no E6) hS).mono ?_))))))))))))))
     rintro e w4 ⟨rfl, hb⟩;refine ⟨_, rfl, ?_⟩;have E7 := E6.trans (Ext.of_below hb No);have B15 := B13.ext E7 (fun h => h.elim);refine anx rfl (srx (mvx rfl (za rfl (qh rfl rfl (rnx ?_)))));by_cases hb2 : jh W (x / 4) 1 = 2
     ·
      refine yd 46 (.bool false) rfl ((by rw [hb2]; rfl : (.bool (((jh W (x / 4) 1 : Nat) : Int) != 2) : Value) = _)) ?_;have hsp : lsSp W top x = 0 := if_pos hb2;have hbk : lsBk W x = 0 := if_pos hb2
      refine zw rfl (zt (zj (srx (mvx rfl (mvx rfl (mvx rfl (mvx rfl (mvx rfl (mvx rfl (za rfl (kr rfl rfl (avx rfl (avx rfl (avx rfl (avx rfl (anx rfl (zo (zn (rs := [.tmp 4, .tmp 5, .tmp 6, .tmp 7, .tmp 8]) (vs := [_, _, _, _, _]) rfl ⟨rfl, rfl, rfl, rfl, rfl, trivial⟩ ?_))))))))))))))))))
      exact ⟨_, _, _, _, _, rfl, fun h => ⟨⟨hB, hsh.1, hsh.2.1, hsh.2.2, hk1, by unfold lsN; omega, fun h => absurd hb2 h, by rw [hsp]; unfold lsN; exact of_decide_eq_true h⟩, rfl, by rw [hbk]; rfl⟩, fun h hL => by have h2 := hL.fit; rw [hsp] at h2; unfold lsN at h2; exact absurd h2 (of_decide_eq_false h), (hEC.step E7 (fun _ h => h.elim)).below (fun _ h => h)⟩
     ·
      refine yd 46 (.bool true) rfl ((by congr 1; rw [bne_iff_ne]; omega : (.bool (((jh W (x / 4) 1 : Nat) : Int) != 2) : Value) = _)) ?_;have hsp : lsSp W top x = lkT W top (jh W (x / 4) 1) := if_neg hb2;have hbk : lsBk W x = jh W (x / 4) 1 / 4 := if_neg hb2
      refine ye rfl (srx (za rfl (zz Try.underlying24 rfl qx rfl B15 rfl (mvx rfl (za rfl (zi ycx rfl ((kb _ A W c n top (jh W (x / 4) 1) (hMC.no E7) (zvq hM.words.in_ _ _)).mono ?_)))))));rintro e w5 ⟨rfl, hb⟩;refine ⟨_, rfl, ?_⟩;have E8 := E7.trans (Ext.of_below hb No);have hs8 := E8.size;have hsc := hEC.size
      refine mvx rfl (za rfl (zg rfl rfl (za rfl (zg rfl rfl (za rfl (zg rfl rfl (za rfl (ym xw ?_))))))));rintro g13 wD Bd E9 Gd;refine avx rfl (yn (yi xe rfl rfl Bd rfl rfl rfl ?_));rintro wE Be E10;have hEE := (hEC.step (E8.trans E9) (fun _ h => h.elim)).step E10 (fun q hq => Or.inl (show w.heap.size ≤ q by have := qd hq; omega))
      have Bf : Blk wE g13 67 #[.int .i64 ((lkK W top (jh W (x / 4) 1) : Nat) : Int), .int .i64 ((lkT W top (jh W (x / 4) 1) : Nat) : Int), .int .i64 ((lkR W top (jh W (x / 4) 1) : Nat) : Int)] := Be;refine anx rfl (zl (srx (mvx rfl (za rfl (qa rfl (mvx rfl ?_))))));by_cases hB2 : lkB W top (jh W (x / 4) 1) = true
      ·
       obtain ⟨hk02, hS2⟩ := zuk hB2;refine zq 56 (.bool false) rfl ((by rw [hB2]; rfl : (.bool (!(lkB W top (jh W (x / 4) 1))) : Value) = _)) (onx rfl (zf Try.underlying67 rfl sz3 (by decide) rfl (onx rfl (zk Try.underlying3 rfl rfl Bf rfl (onx rfl (qh rfl rfl (za rfl (zm rfl rfl (rnx ?_)))))))));by_cases h11 : lkK W top (jh W (x / 4) 1) = 11
       ·
        refine yd 60 (.bool false) rfl ((by rw [h11]; rfl : (.bool (((lkK W top (jh W (x / 4) 1) : Nat) : Int) != 11) : Value) = _)) (zw rfl (zt (zj ?_)));refine qt (No) Mut.none_ [] [] (gg [Fx.of (.int .i64 ((lkA (jh W (x / 4) 1) : Nat) : Int)),
         Fx.of (.pointer (some ⟨g13, 1, none⟩)),
         Fx.of (.int .i64 ((lkT W top (jh W (x / 4) 1) : Nat) : Int)),
         Fx.of (.int .i64 ((lkA (jh W (x / 4) 1) : Nat) : Int)),
         Fx.of (.int .i64 ((lkT W top (jh W (x / 4) 1) : Nat) : Int))]) vu rfl trivial (fun _ h => by cases h) ?_ ?_
        · refine ⟨?_, ?_, ?_, ?_, ?_, trivial⟩
          · intro vs X wq K;exact zp rfl ⟨Below.refl _ _, Left.of rfl⟩
          · intro vs X wq K;exact zf Try.underlying67 rfl sz3 (by decide) rfl ⟨Below.refl _ _, Left.of rfl⟩
          · intro vs X wq K;have LE := K.1;obtain ⟨_, e1, k1⟩ := K.dep 1 rfl rfl rfl;refine zc 62 (.pointer (some ⟨g13, 1, none⟩)) rfl e1 ?_;exact zk Try.underlying3 rfl rfl (qj LE Bf) rfl ⟨Below.refl _ _, Left.of rfl⟩
          · intro vs X wq K;obtain ⟨_, e0, k0⟩ := K.dep 0 rfl rfl rfl;refine zc 61 (.int .i64 ((lkA (jh W (x / 4) 1) : Nat) : Int)) rfl e0 ?_;exact yw rfl ⟨Below.refl _ _, Left.of rfl⟩
          · intro vs X wq K;obtain ⟨_, e2, k2⟩ := K.dep 2 rfl rfl rfl;refine zc 63 (.int .i64 ((lkT W top (jh W (x / 4) 1) : Nat) : Int)) rfl e2 ?_;exact yw rfl ⟨Below.refl _ _, Left.of rfl⟩
        intro vs w6 LE AO AL AF AA;have hbd : Below (wE).heap.size (wE) w6 := (((Ext.refl No (wE)).drew).trans LE).toBelow;obtain ⟨_, e3, k3⟩ := AL.2.2.2.1;obtain ⟨_, e4, k4⟩ := AL.2.2.2.2.1
        refine qy (τ := [(4, _), (5, _), (6, .int .i64 ((lkA (jh W (x / 4) 1) : Nat) : Int)), (7, .int .i64 ((lkT W top (jh W (x / 4) 1) : Nat) : Int)), (8, _)]) ⟨rfl, rfl, congrArg some e3, congrArg some e4, rfl, trivial⟩ ?_;clear AL AF AA AO
        refine zj (srx (mvx rfl (mvx rfl (mvx rfl (mvx rfl (mvx rfl (mvx rfl (za rfl (kr rfl rfl (avx rfl (avx rfl (avx rfl (avx rfl (anx rfl (zo (zn (rs := [.tmp 4, .tmp 5, .tmp 6, .tmp 7, .tmp 8]) (vs := [_, _, _, _, _]) rfl ⟨rfl, rfl, rfl, rfl, rfl, trivial⟩ ?_))))))))))))))))
        exact ⟨_, _, _, _, _, rfl, fun h => ⟨⟨hB, hsh.1, hsh.2.1, hsh.2.2, hk1, by unfold lsN; omega, fun _ => ⟨hB2, h11⟩, by rw [hsp]; unfold lsN; exact of_decide_eq_true h⟩, rfl, by rw [hbk, yjv hk02]⟩, fun h hL => by have h2 := hL.fit; rw [hsp] at h2; unfold lsN at h2; exact absurd h2 (of_decide_eq_false h), (hEE.step (Ext.of_below hbd No) (fun _ h => h.elim)).below (fun _ h => h)⟩
       ·
        refine yd 60 (.bool true) rfl ((by congr 1; rw [bne_iff_ne]; omega : (.bool (((lkK W top (jh W (x / 4) 1) : Nat) : Int) != 11) : Value) = _)) (ye rfl (srx (avx rfl (avx rfl (avx rfl (avx rfl (anx rfl (zo (zh (zh (zn (rs := [.tmp 4, .tmp 5, .tmp 6, .tmp 7, .tmp 8]) (vs := [_, _, _, _, _]) rfl ⟨rfl, rfl, rfl, rfl, rfl, trivial⟩ ?_)))))))))))
        exact ⟨0, 0, 0, 0, false, rfl, fun h => (by cases h), fun _ h => absurd (h.blk hb2).2 h11, hEE.below (fun _ h => h)⟩
      ·
       refine zq 56 (.bool true) rfl ((by rw [Bool.eq_false_iff.2 hB2]; rfl : (.bool (!(lkB W top (jh W (x / 4) 1))) : Value) = _)) (za rfl (zd rfl (za rfl (zd rfl (za rfl (zd rfl (za rfl (ya rfl rfl (rnx (ye rfl (srx (avx rfl (avx rfl (avx rfl (avx rfl (anx rfl (zo (zh (zh (zn (rs := [.tmp 4, .tmp 5, .tmp 6, .tmp 7, .tmp 8]) (vs := [_, _, _, _, _]) rfl ⟨rfl, rfl, rfl, rfl, rfl, trivial⟩ ?_))))))))))))))))))))
       exact ⟨0, 0, 0, 0, false, rfl, fun h => (by cases h), fun _ h => absurd (h.blk hb2).1 hB2, hEE.below (fun _ h => h)⟩
   ·
    refine zq 37 (.bool true) rfl ((by rw [nmE_no hk1]; rfl : (.bool (nmE (jh W (x / 4) 0) != 0) : Value) = _)) (mvx rfl (za rfl (zd rfl (za rfl (zd rfl (za rfl (ya rfl rfl (rnx (ye rfl (srx (avx rfl (avx rfl (avx rfl (avx rfl (anx rfl (zo (zh (zn (rs := [.tmp 4, .tmp 5, .tmp 6, .tmp 7, .tmp 8]) (vs := [_, _, _, _, _]) rfl ⟨rfl, rfl, rfl, rfl, rfl, trivial⟩ ?_))))))))))))))))))
    exact ⟨0, 0, 0, 0, false, rfl, fun h => (by cases h), fun _ h => absurd h.num hk1, (hEC.step E6 (fun _ h => h.elim)).below (fun _ h => h)⟩
  ·
   refine zq 27 (.bool true) rfl ((by rw [decide_eq_false (by omega)]; rfl : (.bool (!decide (((lkK W top x : Nat) : Int) = 5 ∧ ((lkT W top x : Nat) : Int) = 2 ∧ ((lkR W top x : Nat) : Int) = 0)) : Value) = _)) (za rfl (zm rfl rfl (rnx (ye rfl (srx (avx rfl (avx rfl (avx rfl (avx rfl (anx rfl (zo (zh (zn (rs := [.tmp 4, .tmp 5, .tmp 6, .tmp 7, .tmp 8]) (vs := [_, _, _, _, _]) rfl ⟨rfl, rfl, rfl, rfl, rfl, trivial⟩ ?_)))))))))))))
   exact ⟨0, 0, 0, 0, false, rfl, fun h => (by cases h), fun _ h => hsh ⟨h.kind, h.tag, h.raw⟩, hEC.below (fun _ h => h)⟩
 ·
  refine zq 24 (.bool true) rfl ((by rw [Bool.eq_false_iff.2 hB]; rfl : (.bool (!(lkB W top x)) : Value) = _)) (za rfl (zd rfl (za rfl (zd rfl (za rfl (zd rfl (za rfl (ya rfl rfl (rnx (ye rfl (srx (avx rfl (avx rfl (avx rfl (avx rfl (anx rfl (zo (zh (zn (rs := [.tmp 4, .tmp 5, .tmp 6, .tmp 7, .tmp 8]) (vs := [_, _, _, _, _]) rfl ⟨rfl, rfl, rfl, rfl, rfl, trivial⟩ ?_)))))))))))))))))))
  exact ⟨0, 0, 0, 0, false, rfl, fun h => (by cases h), fun _ h => absurd h.look hB, hEC.below (fun _ h => h)⟩
def RetIts (w : World) (o : Option (List Nat)) (e : Ending) (w' : World) : Prop := ((∃ l g, o = some l ∧ e = .returned (.tuple #[.slice (some ⟨g, 0, none⟩) l.length l.length, .int .i64 0]) ∧ Blk w' g 25 (qu l).toArray ∧ w.heap.size ≤ g) ∨ (o = none ∧ e = .returned (.tuple #[.slice none 0 0, .int .i64 1]))) ∧ Below w.heap.size w w'
set_option maxHeartbeats 1000000 in
theorem oits_any : Calls Try.prog 12 #[xj A W c top, .int .u64 ((x : Nat) : Int)] w (RetIts w (gz W top x)) := by
 have hWl := hM.most;refine yb Try.func12 rfl Try.ntmps12 rfl (srx (za rfl (yt rfl ?_)));rintro g1 wA B1 E1 G1;have hs1 := E1.size;have h1l := B1.lt;refine avx rfl (anx rfl (srx (za rfl (zz Try.underlying24 rfl qx rfl B1 rfl (mvx rfl (za rfl (zi ycx rfl ((kb _ A W c n top x (hM.no E1) hx).mono ?_))))))));rintro e w1 ⟨rfl, hb⟩;refine ⟨_, rfl, ?_⟩
 have E2 := E1.trans (Ext.of_below hb No);have B12 := B1.ext (Ext.of_below hb No) (fun h => h.elim);have hs2 := (Ext.of_below hb No).size;refine mvx rfl (za rfl (zg rfl rfl (za rfl (zg rfl rfl (za rfl (zg rfl rfl (za rfl (ym xw ?_))))))));rintro g9 wB B9 E3 G9;refine avx rfl (yn (yi xe rfl rfl B9 rfl rfl rfl ?_));rintro wC B9a E4
 have hEC := ((E2.trans E3).noL w.heap.size).step E4 (fun q hq => Or.inl (show w.heap.size ≤ q by have := qd hq; omega));have B13 : Blk wC g1 24 #[.slice A W.length c, .int .i64 ((top : Nat) : Int)] := (B12.ext E3 (fun h => h.elim)).ext E4 (fun h => by have := qd h; omega)
 have B9c : Blk wC g9 67 #[.int .i64 ((lkK W top x : Nat) : Int), .int .i64 ((lkT W top x : Nat) : Int), .int .i64 ((lkR W top x : Nat) : Int)] := B9a;obtain ⟨wu1, hwu1⟩ : ∃ wu1, wu1 = wC := ⟨_, rfl⟩;subst hwu1;refine anx rfl (zl (srx (mvx rfl (za rfl (qa rfl (rnx ?_))))));by_cases hB : lkB W top x = true
 ·
  obtain ⟨hk0, hS⟩ := zuk hB
  refine yd 21 (.bool false) rfl ((by rw [hB]; rfl : (.bool (!(lkB W top x)) : Value) = _)) (zw rfl (zt (zj (srx (za rfl (zf Try.underlying67 rfl sz3 (by decide) rfl (za rfl (zk Try.underlying3 rfl rfl B9c rfl (mvx rfl (avx rfl (anx rfl (zl (srx (za rfl (zf Try.underlying67 rfl sz3 (by decide) rfl (za rfl (zk Try.underlying3 rfl rfl B9c rfl (za rfl (qh rfl rfl (rnx ?_))))))))))))))))))))
  by_cases h6 : lkK W top x = 6
  ·
   refine yd 27 (.bool false) rfl ((by rw [h6]; rfl : (.bool (((lkK W top x : Nat) : Int) != 6) : Value) = _)) ?_;have hIt : gz W top x = some (vd W (x / 4) (lkT W top x)) := by
    unfold gz;rw [if_pos hB, if_pos h6]
   obtain ⟨N, hN⟩ : ∃ N, N = lkT W top x := ⟨_, rfl⟩;obtain ⟨fr, hfr⟩ : ∃ fr, fr = x / 4 := ⟨_, rfl⟩;rw [← hN, ← hfr] at hIt;have hfr : ((fr : Nat) : Int) = ((lkA x : Nat) : Int) := by rw [hfr, yjv hk0]
   have hfS : 0 < N → Seen W top fr := fun _ => by
    have e : fr = x / 4 := by rw [yjv hk0] at hfr; omega
    rw [e]; exact hS
   have hNl : N ≤ 1048576 := by rw [hN]; exact lkT_le hWl
   have hEZ := hEC;have B1z := B13
   refine zw rfl (zt (zj (srx (mvx rfl (zq 9 (.int .i64 ((N : Nat) : Int)) rfl ((by rw [hN] : (.int .i64 ((lkT W top x : Nat) : Int) : Value) = _)) (zq 10 (.int .i64 ((fr : Nat) : Int)) rfl ((by rw [hfr] : (.int .i64 ((lkA x : Nat) : Int) : Value) = _)) (zq 39 (.int .i64 ((N : Nat) : Int)) rfl ((by rw [hN] : (.int .i64 ((lkT W top x : Nat) : Int) : Value) = _)) (za rfl (zjq (n := N) Try.underlying22 inf25 rfl rfl rfl rfl rfl (by omega) (by omega) ?_)))))))))
   rintro gt wS Bt0 ES Gt;have hsz := hEZ.size;have hTl : (vd W fr N).length = N := zaz _ _ _;have Bt : Blk wS gt 25 (qu (qw (vd W fr N) 0 0)).toArray := by
    rw [yev, zgz, hTl];exact Bt0
   have B1s := B1z.ext ES (fun h => h.elim);have hES := hEZ.step ES (fun _ h => h.elim);have hgt : w.heap.size ≤ gt := by omega
   have h1s : g1 < gt := by have := B1z.lt; omega
   refine anx rfl (zl (srx (mvx rfl (za rfl (qe Try.underlying22 rfl (mvx rfl (rnx (yh (jd (ι := Nat) (fun i => [(2, .pointer (some ⟨g1, 0, none⟩)), (10, .int .i64 ((fr : Nat) : Int)), (11, .slice (some ⟨gt, 0, none⟩) N N), (42, .int .i64 ((N : Nat) : Int)), (43, .int .i64 ((i : Nat) : Int))]) (fun i w' => i ≤ N ∧ Blk w' gt 25 (qu (qw (vd W fr N) 0 i)).toArray ∧ Ext (fun q => gt ≤ q) wS w') (fun i => N - i) 0 ⟨rfl, rfl, rfl, rfl, rfl, trivial⟩ (⟨Nat.zero_le _, Bt, Ext.refl _ _⟩) ?_)))))))))
   rintro i w3 ⟨hi0, Bi, hEi⟩;have hEiw := hES.step hEi (fun q hq => Or.inl (show w.heap.size ≤ q by have hq : gt ≤ q := hq; omega));refine srx (za rfl (qo rfl rfl (rnx (zl (yv rfl (fun hc => ?_) (fun hc => ?_))))))
   ·
    have hc := of_decide_eq_true hc;have hlt : i < N := by omega
    have B1i := B1s.ext hEi (fun h => by have h : gt ≤ g1 := h; omega);have hMi := hM.low ⟨hEiw, fun q hq => Nat.le_trans hM.size hq⟩
    refine zt (zj (zl (yh (srx (mvx rfl (anx rfl (yq (mvx rfl (mvx rfl (za rfl (zz Try.underlying24 rfl qx rfl B1i rfl (mvx rfl (mvx rfl (za rfl (zi en29 rfl ((zhk _ A W c n top fr i hMi (hfS (by omega))).mono ?_))))))))))))))));rintro e w4 ⟨rfl, hb⟩;refine ⟨_, rfl, ?_⟩;have E9 := Ext.of_below hb No;have Bj := Bi.ext E9 (fun h => h.elim)
    refine za rfl (yc (j := i) Try.underlying22 vc rfl rfl rfl hlt (yn (ko (cs' := (qu (qw (vd W fr N) 0 (i + 1))).toArray) vc rfl rfl Bj rfl rfl (by rw [List.size_toArray, zax, oo (by omega)]; omega) (by rw [Nat.zero_add, List.setIfInBounds_toArray, kg, zhx (ymv hlt)]) ?_)));rintro wT BT ET
    refine qz (zx (zj (yq (za rfl (yp rfl rfl (zy (by omega)) (mvx rfl (qz ?_)))))));exact ve (i + 1) (by show N - (i + 1) < N - i; omega) ⟨rfl, rfl, rfl, rfl, rfl, trivial⟩ (⟨hlt, BT, (hEi.step E9 (fun _ h => h.elim)).step ET (fun q hq => Or.inl (show gt ≤ q by have := qd hq; omega))⟩)
   ·
    have hc := of_decide_eq_false hc;have hie : i = (vd W fr N).length := by omega
    rw [hie, zhz] at Bi;refine vo (yf (yf (yx (zj (srx (mvx rfl (avx rfl (anx rfl (zo (zn (rs := [.tmp 4, .tmp 5]) (vs := [_, _]) rfl ⟨rfl, rfl, trivial⟩ ?_))))))))));exact ⟨Or.inl ⟨vd W fr N, gt, hIt, by rw [hTl]; rfl, Bi, hgt⟩, hEiw.below (fun _ h => h)⟩
  ·
   refine yd 27 (.bool true) rfl ((by congr 1; rw [bne_iff_ne]; omega : (.bool (((lkK W top x : Nat) : Int) != 6) : Value) = _)) (ye rfl (srx (za rfl (zz Try.underlying24 rfl qx rfl B13 rfl (mvx rfl (za rfl (zi en28 rfl ((ols_any _ A W c n top x (hM.low ⟨hEC, fun q hq => Nat.le_trans hM.size hq⟩) hx).mono ?_))))))))
   rintro e w5 ⟨v0, v1, v2, v3, b, rfl, hyes, hno, hb⟩;refine ⟨_, rfl, ?_⟩;have E5 := Ext.of_below hb No;have hEZ := hEC.step E5 (fun _ h => h.elim);have B1z := B13.ext E5 (fun h => h.elim)
   refine mvx rfl (za rfl (zg rfl rfl (za rfl (zg rfl rfl (za rfl (zg rfl rfl (za rfl (zg rfl rfl (za rfl (zg rfl rfl (avx rfl (avx rfl (anx rfl (srx (mvx rfl (za rfl (qa rfl (rnx ?_))))))))))))))))));by_cases hbt : b = true
   ·
    refine yd 38 (.bool false) rfl ((by rw [hbt]; rfl : (.bool (!b) : Value) = _)) ?_;obtain ⟨hL, hv1, hv2⟩ := hyes hbt;obtain ⟨hp0, hpl, hpn⟩ := lsN_of hL hWl;have hIt : gz W top x = some (vd W (lsBk W x) (lsN W x).toNat) := by
     unfold gz;rw [if_pos hB, if_neg h6, if_pos hL]
    obtain ⟨N, hN'⟩ : ∃ N, N = (lsN W x).toNat := ⟨_, rfl⟩;obtain ⟨fr, hfr'⟩ : ∃ fr, fr = lsBk W x := ⟨_, rfl⟩;rw [← hN', ← hfr'] at hIt;have hN : ((N : Nat) : Int) = v1 := by rw [hN', hpn, hv1]
    have hfr : ((fr : Nat) : Int) = v2 := by rw [hfr', hv2]
    have hfS : 0 < N → Seen W top fr := fun h0 => by
     have h2 := hL.fit;by_cases hb2 : jh W (x / 4) 1 = 2
     · rw [show lsSp W top x = 0 from if_pos hb2] at h2; omega
     · rw [hfr', show lsBk W x = jh W (x / 4) 1 / 4 from if_neg hb2];exact (zuk (hL.blk hb2).1).2
    have hNl : N ≤ 1048576 := by omega
    refine zw rfl (zt (zj (srx (mvx rfl (zq 9 (.int .i64 ((N : Nat) : Int)) rfl ((by rw [hN] : (.int .i64 v1 : Value) = _)) (zq 10 (.int .i64 ((fr : Nat) : Int)) rfl ((by rw [hfr] : (.int .i64 v2 : Value) = _)) (zq 39 (.int .i64 ((N : Nat) : Int)) rfl ((by rw [hN] : (.int .i64 v1 : Value) = _)) (za rfl (zjq (n := N) Try.underlying22 inf25 rfl rfl rfl rfl rfl (by omega) (by omega) ?_)))))))))
    rintro gt wS Bt0 ES Gt;have hsz := hEZ.size;have hTl : (vd W fr N).length = N := zaz _ _ _;have Bt : Blk wS gt 25 (qu (qw (vd W fr N) 0 0)).toArray := by
     rw [yev, zgz, hTl];exact Bt0
    have B1s := B1z.ext ES (fun h => h.elim);have hES := hEZ.step ES (fun _ h => h.elim);have hgt : w.heap.size ≤ gt := by omega
    have h1s : g1 < gt := by have := B1z.lt; omega
    refine anx rfl (zl (srx (mvx rfl (za rfl (qe Try.underlying22 rfl (mvx rfl (rnx (yh (jd (ι := Nat) (fun i => [(2, .pointer (some ⟨g1, 0, none⟩)), (10, .int .i64 ((fr : Nat) : Int)), (11, .slice (some ⟨gt, 0, none⟩) N N), (42, .int .i64 ((N : Nat) : Int)), (43, .int .i64 ((i : Nat) : Int))]) (fun i w' => i ≤ N ∧ Blk w' gt 25 (qu (qw (vd W fr N) 0 i)).toArray ∧ Ext (fun q => gt ≤ q) wS w') (fun i => N - i) 0 ⟨rfl, rfl, rfl, rfl, rfl, trivial⟩ (⟨Nat.zero_le _, Bt, Ext.refl _ _⟩) ?_)))))))))
    rintro i w7 ⟨hi0, Bi, hEi⟩;have hEiw := hES.step hEi (fun q hq => Or.inl (show w.heap.size ≤ q by have hq : gt ≤ q := hq; omega));refine srx (za rfl (qo rfl rfl (rnx (zl (yv rfl (fun hc => ?_) (fun hc => ?_))))))
    ·
     have hc := of_decide_eq_true hc;have hlt : i < N := by omega
     have B1i := B1s.ext hEi (fun h => by have h : gt ≤ g1 := h; omega);have hMi := hM.low ⟨hEiw, fun q hq => Nat.le_trans hM.size hq⟩
     refine zt (zj (zl (yh (srx (mvx rfl (anx rfl (yq (mvx rfl (mvx rfl (za rfl (zz Try.underlying24 rfl qx rfl B1i rfl (mvx rfl (mvx rfl (za rfl (zi en29 rfl ((zhk _ A W c n top fr i hMi (hfS (by omega))).mono ?_))))))))))))))));rintro e w8 ⟨rfl, hb⟩;refine ⟨_, rfl, ?_⟩;have E9 := Ext.of_below hb No;have Bj := Bi.ext E9 (fun h => h.elim)
     refine za rfl (yc (j := i) Try.underlying22 vc rfl rfl rfl hlt (yn (ko (cs' := (qu (qw (vd W fr N) 0 (i + 1))).toArray) vc rfl rfl Bj rfl rfl (by rw [List.size_toArray, zax, oo (by omega)]; omega) (by rw [Nat.zero_add, List.setIfInBounds_toArray, kg, zhx (ymv hlt)]) ?_)));rintro wT BT ET
     refine qz (zx (zj (yq (za rfl (yp rfl rfl (zy (by omega)) (mvx rfl (qz ?_)))))));exact ve (i + 1) (by show N - (i + 1) < N - i; omega) ⟨rfl, rfl, rfl, rfl, rfl, trivial⟩ (⟨hlt, BT, (hEi.step E9 (fun _ h => h.elim)).step ET (fun q hq => Or.inl (show gt ≤ q by have := qd hq; omega))⟩)
    ·
     have hc := of_decide_eq_false hc;have hie : i = (vd W fr N).length := by omega
     rw [hie, zhz] at Bi;refine vo (yf (yf (yx (zj (srx (mvx rfl (avx rfl (anx rfl (zo (zn (rs := [.tmp 4, .tmp 5]) (vs := [_, _]) rfl ⟨rfl, rfl, trivial⟩ ?_))))))))));exact ⟨Or.inl ⟨vd W fr N, gt, hIt, by rw [hTl]; rfl, Bi, hgt⟩, hEiw.below (fun _ h => h)⟩
   ·
    have hbf : b = false := Bool.eq_false_iff.2 hbt;refine yd 38 (.bool true) rfl ((by rw [hbf]; rfl : (.bool (!b) : Value) = _)) ?_;have hIt : gz W top x = none := by
     unfold gz;rw [if_pos hB, if_neg h6, if_neg (hno hbf)]
    refine ye rfl (srx (avx rfl (anx rfl (zo (zh (zn (rs := [.tmp 4, .tmp 5]) (vs := [_, _]) rfl ⟨rfl, rfl, trivial⟩ ?_))))));exact ⟨Or.inr ⟨hIt, rfl⟩, hEZ.below (fun _ h => h)⟩
 ·
  refine yd 21 (.bool true) rfl ((by rw [Bool.eq_false_iff.2 hB]; rfl : (.bool (!(lkB W top x)) : Value) = _)) ?_;have hIt : gz W top x = none := by
   unfold gz;rw [if_neg hB]
  refine ye rfl (srx (avx rfl (anx rfl (zo (zh (zn (rs := [.tmp 4, .tmp 5]) (vs := [_, _]) rfl ⟨rfl, rfl, trivial⟩ ?_))))));exact ⟨Or.inr ⟨hIt, rfl⟩, hEC.below (fun _ h => h)⟩
theorem yjz (i : Nat) (hB : lkB W top x = true) (hi : i < 2) : Calls Try.prog 38 #[xj A W c top, .int .i64 ((lkA x : Nat) : Int), .agg #[.int .i64 ((lkK W top x : Nat) : Int), .int .i64 ((lkT W top x : Nat) : Int), .int .i64 ((lkR W top x : Nat) : Int)], .int .i64 ((i : Nat) : Int)] w fun e w' => e = .returned (.tuple #[.int .i64 (vw W top x i).1, .int .i64 (vw W top x i).2]) ∧ Below w.heap.size w w' := by
 obtain ⟨hk0, hS⟩ := zuk hB;rw [yjv hk0];have _ := hx;refine yb Try.func38 rfl Try.ntmps38 rfl (srx (za rfl (yt rfl ?_)));rintro g1 wA B1 E1 G1;refine za rfl (yt rfl ?_);rintro g2 wB B2 E2 G2;have B12 := B1.ext E2 (fun h => h.elim);have hE2 := E1.trans E2
 refine avx rfl (anx rfl (srx (za rfl (zz Try.underlying24 rfl qx rfl B12 rfl (mvx rfl (mvx rfl (za rfl (zi en29 rfl ((zhk _ A W c n top (x / 4) i (hM.no hE2) hS).mono ?_)))))))));rintro e w1 ⟨rfl, hb⟩;refine ⟨_, rfl, ?_⟩;have E3 := Ext.of_below hb No;have hE3 := hE2.trans E3
 refine za rfl (zi en48 rfl ((num_all _ A W n top (jh W (x / 4) i) (hM.no hE3) (zvq hM.words.in_ _ _)).mono ?_));rintro e w2 ⟨rfl, hb⟩;refine ⟨_, rfl, ?_⟩;have E4 := Ext.of_below hb No;have hE4 := hE3.trans E4;have B24 := (B2.ext E3 (fun h => h.elim)).ext E4 (fun h => h.elim)
 refine mvx rfl (za rfl (zg rfl rfl (za rfl (zg rfl rfl (avx rfl (anx rfl (zl (srx (mvx rfl (za rfl (qh rfl rfl ?_)))))))))));by_cases hk1 : yu (jh W (x / 4) i) = 1
 ·
  refine zq 21 (.bool false) rfl ((by rw [yvk hk1]; rfl : (.bool (nmE (jh W (x / 4) i) != 0) : Value) = _)) (mvx rfl (onx rfl (zp rfl (onx rfl (zf Try.underlying67 rfl sz3 (by decide) rfl (onx rfl (zk Try.underlying3 rfl rfl B24 rfl (onx rfl (jr rfl rfl (za rfl (zm rfl rfl (rnx ?_))))))))))));by_cases hti : lkT W top x ≤ i
  ·
   refine yd 27 (.bool true) rfl ((by rw [decide_eq_true]; omega : (.bool (decide (((lkT W top x : Nat) : Int) ≤ ((i : Nat) : Int))) : Value) = _)) (ye rfl (srx (avx rfl (anx rfl (zo (zh (zn (rs := [.tmp 8, .tmp 9]) (vs := [_, _]) rfl ⟨rfl, rfl, trivial⟩ ?_)))))));exact ⟨by unfold vw; rw [if_pos (Or.inr hti)]; rfl, hE4.toBelow⟩
  ·
   refine yd 27 (.bool false) rfl ((by rw [decide_eq_false]; omega : (.bool (decide (((lkT W top x : Nat) : Int) ≤ ((i : Nat) : Int))) : Value) = _)) (zw rfl (zt (zj (srx (mvx rfl (avx rfl (anx rfl (zo (zn (rs := [.tmp 8, .tmp 9]) (vs := [_, _]) rfl ⟨rfl, rfl, trivial⟩ ?_)))))))));exact ⟨by unfold vw; rw [if_neg (by rw [yvk hk1]; omega)]; rfl, hE4.toBelow⟩
 ·
  refine zq 21 (.bool true) rfl ((by rw [nmE_no hk1]; rfl : (.bool (nmE (jh W (x / 4) i) != 0) : Value) = _)) (mvx rfl (za rfl (zd rfl (za rfl (zd rfl (za rfl (zd rfl (za rfl (zd rfl (za rfl (ya rfl rfl (rnx (ye rfl (srx (avx rfl (anx rfl (zo (zh (zn (rs := [.tmp 8, .tmp 9]) (vs := [_, _]) rfl ⟨rfl, rfl, trivial⟩ ?_)))))))))))))))))))
  exact ⟨by unfold vw; rw [if_pos (Or.inl (by rw [nmE_no hk1]; decide))]; rfl, hE4.toBelow⟩
end
end Go.Proofs.Ytebjkmjfcijebaa
namespace Go.Proofs.Ytebjkmjfcijebaa
open Go.RowKit
set_option maxRecDepth 100000
theorem goodB_len {n : Bool} {xs : List Nat} (h : qr n xs = true) : xs.length ≤ 30 := by
 unfold qr at h;split at h
 · omega
 · split at h
   · cases h
   · omega
theorem limbs_few {i : Int} (h : -999999999999999999 ≤ i ∧ i ≤ 999999999999999999) : (limbs i).length ≤ 30 := by
 by_cases h0 : i = 0
 · rw [h0, jg]; decide
 · rw [limbs_one h0 (by omega)]; exact Nat.le_trans (Nat.le_refl 1) (by decide)
theorem zyz (W : List Nat) (top x : Nat) : ((jp W top x).getD vNil).ni = 0 ∧ ((jp W top x).getD vNil).xs.length ≤ 30 := by
 have h0 : ∀ v : PV, v.ni = 0 → v.xs.length ≤ 30 → ((some v).getD vNil).ni = 0 ∧ ((some v).getD vNil).xs.length ≤ 30 := fun v h1 h2 => ⟨h1, h2⟩;have hn : ((none : Option PV).getD vNil).ni = 0 ∧ ((none : Option PV).getD vNil).xs.length ≤ 30 := ⟨rfl, Nat.zero_le _⟩;unfold jp;split
 · rename_i h1
   have := @nmI_in x;rw [nmI_yes h1] at this;exact h0 _ rfl (limbs_few this)
 · split
   · exact h0 _ rfl (Nat.zero_le _)
   · split
     · exact h0 _ rfl (Nat.zero_le _)
     · split
       · exact h0 _ rfl (Nat.zero_le _)
       · split
         · unfold zik;split
           · split
             · rename_i hg
               exact h0 _ rfl (goodB_len hg)
             · exact hn
           · split
             · exact h0 _ rfl (Nat.zero_le _)
             · split
               · unfold textO;split
                 · exact h0 _ rfl (Nat.zero_le _)
                 · exact hn
               · exact hn
         · exact hn
theorem ynq {W : List Nat} {top x : Nat} (hW : ∀ y ∈ W, U64 y) : ((jp W top x).getD vNil).bits < 18446744073709551616 := by
 cases h : jp W top x with
 | none => exact (by decide : (0 : Nat) < 18446744073709551616)
 | some v => exact takeO_bits hW h
section
variable (w : World) (A : Option Addr) (W : List Nat) (c n top x : Nat) (hM : MemA n w A W top) (hx : U64 x)
include hM hx
theorem otk_v (v : PV) (hv : v = (jp W top x).getD vNil) (er : Int) (he : er = if (jp W top x).isSome then 0 else 9) : Calls Try.prog 35 #[xj A W c top, .int .u64 ((x : Nat) : Int)] w fun e w' => (∃ B d, e = .returned (.tuple #[.agg #[.int .i64 v.k, .bool v.yes, .bool v.neg, .slice B v.xs.length d, .int .u64 ((v.bits : Nat) : Int), .string v.s, .slice none v.ni 0], .int .i64 er]) ∧ Nums w' B v.xs) ∧ Below w.heap.size w w' :=
 (otk_any w A W c n top x hM hx).mono fun e w' ⟨B, d, h1, h2, h3⟩ => ⟨⟨B, d, by rw [h1]; unfold optV; rw [← hv, ← he, show v.ni = 0 by rw [hv]; exact (zyz W top x).1], by rw [hv]; exact h2⟩, h3⟩
theorem    ztk (l : List Nat) (hl : l = (    gz W top x).getD []) (er : Int) (he : er = if (    gz W top x).isSome then 0 else 1) : Calls Try.prog 12 #[  xj A W c top, .int .u64 ((x : Nat) : Int)] w fun e w' => (∃ B d, e = .returned (.tuple #[.slice B l.length d, .int .i64 er]) ∧ (er = 0 → ∃ g, B = some ⟨g, 0, none⟩ ∧ Blk w' g 25 (    qu l).toArray ∧ w.heap.size ≤ g)) ∧ Below w.heap.size w w' :=
 (oits_any w A W c n top x hM hx).mono fun e w' ⟨h, hb⟩ => ⟨by
  rcases h with ⟨l', g, h1, h2, h3, h4⟩ | ⟨h1, h2⟩
  · rw [h1] at hl he;obtain rfl : l = l' := hl;obtain rfl : er = 0 := he;exact ⟨_, _, h2, fun _ => ⟨g, rfl, h3, h4⟩⟩
  · rw [h1] at hl he;obtain rfl : l = [] := hl;obtain rfl : er = 1 := he;exact ⟨_, _, h2, fun h => absurd h (by decide)⟩, hb⟩
end
/-! ### the steps -/
section
variable {o : Obs} {n p q k : Nat}
theorem eqW_0 : eqW o n p q 0 = ((false, 12), 0) := by cases n <;> rfl
theorem eqW_d (hk : k ≠ 0) : eqW o 0 p q k = ((false, 11), k - 1) := by unfold eqW; rw [if_neg hk]
theorem eqW_v {u v : PV} (hk : k ≠ 0) (h1 : o.T p = some u) (h2 : o.T q = some v) : eqW o (n + 1) p q k = ((eqV u v, 0), k - 1) := by unfold eqW; rw [if_neg hk, h1, h2]
theorem ykz (hk : k ≠ 0) (h : ¬ ((o.T p).isSome = true ∧ (o.T q).isSome = true)) : eqW o (n + 1) p q k = if p = q then ((true, 0), k - 1) else if o.K p ≠ o.K q ∨ (o.K p ≠ 6 ∧ o.K p ≠ 5) then ((false, 0), k - 1) else
 match o.I p, o.I q with
 | some l, some r => if l.length ≠ r.length then ((false, 0), k - 1) else eqL (eqW o n) l r (k - 1)
 | _, _ => ((false, 0), k - 1) := by
 rw [eqW.eq_def];simp only []
 rw [if_neg hk];cases h1 : o.T p <;> cases h2 : o.T q <;> first | rfl | (rw [h1, h2] at h; exact absurd ⟨rfl, rfl⟩ h)
theorem eqW_i {l r : List Nat} {e f : Int} (hk : k ≠ 0) (h : ¬ ((o.T p).isSome = true ∧ (o.T q).isSome = true)) (hpq : p ≠ q) (hK : ¬ (o.K p ≠ o.K q ∨ (o.K p ≠ 6 ∧ o.K p ≠ 5))) (hl : l = (o.I p).getD []) (hr : r = (o.I q).getD []) (he : e = if (o.I p).isSome then 0 else 1) (hf : f = if (o.I q).isSome then 0 else 1) :
 eqW o (n + 1) p q k = if e ≠ 0 ∨ f ≠ 0 ∨ l.length ≠ r.length then ((false, 0), k - 1) else eqL (eqW o n) l r (k - 1) := by
 rw [ykz hk h, if_neg hpq, if_neg hK];cases h1 : o.I p with
 | none =>
  rw [h1] at he;rw [if_pos (Or.inl (by rw [he]; decide))]
 | some l' =>
  cases h2 : o.I q with
  | none =>
   rw [h2] at hf;rw [if_pos (Or.inr (Or.inl (by rw [hf]; decide)))]
  | some r' =>
   rw [h1] at he hl;rw [h2] at hf hr;obtain rfl : l = l' := hl;obtain rfl : r = r' := hr;obtain rfl : e = 0 := he;obtain rfl : f = 0 := hf;simp
theorem ykq {f : Nat → Nat → Nat → (Bool × Int) × Nat} {l r : List Nat} {i x y : Nat} (hl : l[i]? = some x) (hr : r[i]? = some y) : eqL f (l.drop i) (r.drop i) k = if (f x y k).1.1 = true ∧ (f x y k).1.2 = 0 then eqL f (l.drop (i + 1)) (r.drop (i + 1)) (f x y k).2 else ((false, (f x y k).1.2), (f x y k).2) := by
 obtain ⟨h1, e1⟩ := List.getElem?_eq_some_iff.1 hl;obtain ⟨h2, e2⟩ := List.getElem?_eq_some_iff.1 hr;rw [List.drop_eq_getElem_cons h1, List.drop_eq_getElem_cons h2, e1, e2];rfl
theorem zjk {f : Nat → Nat → Nat → (Bool × Int) × Nat} {l r : List Nat} {i : Nat} (h : l.length ≤ i) : eqL f (l.drop i) (r.drop i) k = ((true, 0), k) := by
 rw [List.drop_eq_nil_of_le h]; unfold eqL; rfl
theorem hsW_0 : hsW o n p 0 = ((0, 12), 0) := by cases n <;> rfl
theorem hsW_d (hk : k ≠ 0) : hsW o 0 p k = ((0, 11), k - 1) := by unfold hsW; rw [if_neg hk]
theorem hsW_v {u : PV} (hk : k ≠ 0) (h1 : o.T p = some u) : hsW o (n + 1) p k = ((oc u, 0), k - 1) := by unfold hsW; rw [if_neg hk, h1]
theorem hsW_r (hk : k ≠ 0) (h : o.T p = none) : hsW o (n + 1) p k = if o.K p = 6 then hsL (hsW o n) (o.TI p) ((o.TI p).length : Int) (k - 1)
 else if o.K p = 10 ∨ o.K p = 13 ∨ o.K p = 14 ∨ o.K p = 15 then (o.N p, k - 1) else ((0, 10), k - 1) := by
 rw [hsW.eq_def];simp only []
 rw [if_neg hk, h]
theorem hsL_step {f : Nat → Nat → (Int × Int) × Nat} {l : List Nat} {i x : Nat} {m : Int} (hl : l[i]? = some x) : hsL f (l.drop i) m k = if (f x k).1.2 = 0 then hsL f (l.drop (i + 1)) (mixH m (f x k).1.1) (f x k).2 else ((0, (f x k).1.2), (f x k).2) := by
 obtain ⟨h1, e1⟩ := List.getElem?_eq_some_iff.1 hl;rw [List.drop_eq_getElem_cons h1, e1];rfl
theorem hsL_end {f : Nat → Nat → (Int × Int) × Nat} {l : List Nat} {i : Nat} {m : Int} (h : l.length ≤ i) : hsL f (l.drop i) m k = ((m, 0), k) := by
 rw [List.drop_eq_nil_of_le h]; rfl
end
end Go.Proofs.Ytebjkmjfcijebaa

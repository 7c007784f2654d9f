/- Texts of this claim. -/
import Derived.Test.YtppdgjlmeahimaaDoorD10
namespace Go.Proofs.YtppdgjlmeahimaaDoor
open Go.RowKit
set_option maxRecDepth 100000
attribute [local irreducible] OW RS
theorem Per.cellN {w : World} {p : Addr} {v : Value} (h : w.cell? p = some v) : Per No w (fun z => z.cell? p = some v) := fun _ hb =>
 (hb.cell (World.block_lt_of_cell? w _ h) (fun hx => hx.elim)).trans h
theorem right1_any (w : World) (cap c n1 : Nat) (A : Option Addr) (m : List Int) (hb4 : Blk w cap 28 #[.slice A m.length c]) (hm : IntsA n1 w A m) (r o : Nat) (x y : Int) (hr : m[r]? = some x) (ho : m[o]? = some y) : Calls Tryd.prog 21 #[.int .i64 ((r : Nat) : Int), .int .i64 ((o : Nat) : Int), .pointer (some ⟨cap, 0, none⟩)] w fun e w' => e = .returned (.bool (x != y)) ∧ Below w.heap.size w w' := by
 have hl := hm.len;have hrl := (List.getElem?_eq_some_iff.1 hr).1;have hol := (List.getElem?_eq_some_iff.1 ho).1;refine qw Tryd.func21 rfl Tryd.ntmps21 rfl ?_;have HF : Per (No) w (fun _ => True) := Per.true_;have LW := erx (No) w;have XLW := grx (No) w;have E := erx (No) w;replace HF := HF.on E;replace LW := LW.step E XLW;replace E := erx (No) w
 replace HF := HF.and (Per.blkN hb4 NotIn.nil);obtain ⟨g1, o1, hA1, hg1, hc1⟩ := hm.cell hr;obtain ⟨g2, o2, hA2, hg2, hc2⟩ := hm.cell ho;replace HF := HF.on E;replace LW := LW.step E XLW;replace E := erx (No) w;replace HF := HF.and (Per.cellN hc1);replace HF := HF.on E;replace LW := LW.step E XLW;replace E := erx (No) w;replace HF := HF.and (Per.cellN hc2);refine srx (anx rfl (zm ?_))
 have OY : ∀ q9, (Mut (outM [])) q9 → q9 < (World.drew w).heap.size → (No) q9 := fun k h _ => (Mut.none_) k h;refine xn (No) Mut.none_ [] [] (xx [Fx.of (.slice A m.length c),
  Fx.of (.int .i64 ((r : Nat) : Int)),
  Fx.of (.pointer (some ⟨g1, o1 + r, none⟩)),
  Fx.of (.int .i64 x),
  Fx.of (.slice A m.length c),
  Fx.of (.int .i64 ((o : Nat) : Int)),
  Fx.of (.pointer (some ⟨g2, o2 + o, none⟩)),
  Fx.of (.int .i64 y),
  Fx.of (.bool (x != y)),
  Fx.of (.bool (x != y))]) gn rfl trivial (fun _ h => by cases h) ?_ ?_
 · refine ⟨?_, ?_, ?_, ?_, ?_, ?_, ?_, ?_, ?_, ?_, trivial⟩
   · intro vs X wq K;have LE := K.1;exact zt Tryd.underlying28 rfl rfl ((((HF.on (E.drew.trans (LE.mono OY))).here.1.1.2).cell 0).trans rfl) ⟨Below.refl _ _, Left.of rfl⟩
   · intro vs X wq K;exact zl rfl ⟨Below.refl _ _, Left.of rfl⟩
   · intro vs X wq K;obtain ⟨_, e0, k0⟩ := K.dep 0 rfl rfl rfl;refine zf 6 (.slice A m.length c) rfl e0 ?_;obtain ⟨_, e1, k1⟩ := K.dep 1 rfl rfl rfl;refine zf 7 (.int .i64 ((r : Nat) : Int)) rfl e1 ?_;exact zj (j := r) Tryd.underlying28 sz3 (congrArg (fun z ↦ some (Value.slice z m.length c)) hA1) rfl rfl hrl ⟨Below.refl _ _, Left.of rfl⟩
   · intro vs X wq K;have LE := K.1;obtain ⟨_, e2, k2⟩ := K.dep 2 rfl rfl rfl;refine zf 8 (.pointer (some ⟨g1, o1 + r, none⟩)) rfl e2 ?_;exact zt Tryd.underlying3 rfl rfl ((HF.on (E.drew.trans (LE.mono OY))).here.1.2) ⟨Below.refl _ _, Left.of rfl⟩
   · intro vs X wq K;have LE := K.1;exact zt Tryd.underlying28 rfl rfl ((((HF.on (E.drew.trans (LE.mono OY))).here.1.1.2).cell 0).trans rfl) ⟨Below.refl _ _, Left.of rfl⟩
   · intro vs X wq K;exact zl rfl ⟨Below.refl _ _, Left.of rfl⟩
   · intro vs X wq K;obtain ⟨_, e4, k4⟩ := K.dep 4 rfl rfl rfl;refine zf 10 (.slice A m.length c) rfl e4 ?_;obtain ⟨_, e5, k5⟩ := K.dep 5 rfl rfl rfl;refine zf 11 (.int .i64 ((o : Nat) : Int)) rfl e5 ?_;exact zj (j := o) Tryd.underlying28 sz3 (congrArg (fun z ↦ some (Value.slice z m.length c)) hA2) rfl rfl hol ⟨Below.refl _ _, Left.of rfl⟩
   · intro vs X wq K;have LE := K.1;obtain ⟨_, e6, k6⟩ := K.dep 6 rfl rfl rfl;refine zf 12 (.pointer (some ⟨g2, o2 + o, none⟩)) rfl e6 ?_;exact zt Tryd.underlying3 rfl rfl ((HF.on (E.drew.trans (LE.mono OY))).here.2) ⟨Below.refl _ _, Left.of rfl⟩
   · intro vs X wq K;obtain ⟨_, e3, k3⟩ := K.dep 3 rfl rfl rfl;refine zf 9 (.int .i64 x) rfl e3 ?_;obtain ⟨_, e7, k7⟩ := K.dep 7 rfl rfl rfl;refine zf 13 (.int .i64 y) rfl e7 ?_;exact qs rfl rfl ⟨Below.refl _ _, Left.of rfl⟩
   · intro vs X wq K;obtain ⟨_, e8, k8⟩ := K.dep 8 rfl rfl rfl;refine zf 14 (.bool (x != y)) rfl e8 ?_;exact yw rfl ⟨Below.refl _ _, Left.of rfl⟩
 intro vs w1 LE AO AL AF AA;replace E := E.drew.trans (LE.mono OY);obtain ⟨_, e9, k9⟩ := AL.2.2.2.2.2.2.2.2.2.1;refine vz (τ := [(5, .bool (x != y))]) ⟨congrArg some e9, trivial⟩ ?_;clear AL AF AA LE AO OY e9 k9;refine zh (yc (yb (rs := [.tmp 5]) (vs := [_]) rfl ⟨rfl, trivial⟩ ?_));exact ⟨rfl, (LW.step E XLW).toBelow⟩
def RJ (cap c n1 : Nat) (A : Option Addr) (m : List Int) (D : Nat → Nat → Prop) (w : World) : Prop := Blk w cap 28 #[.slice A m.length c] ∧ IntsA n1 w A m ∧ ∀ (r o : Nat) (x y : Int), D r o → m[r]? = some x → m[o]? = some y → x ≠ y
theorem RJ.step {cap c n1 : Nat} {A : Option Addr} {m : List Int} {D D' : Nat → Nat → Prop} {w w' : World} {Y : Nat → Prop} (h : RJ cap c n1 A m D w) (e : Ext Y w w') (h1 : ¬ Y cap) (h2 : ∀ k, Y k → n1 ≤ k) (hd : ∀ (r o : Nat) (x y : Int), D' r o → m[r]? = some x → m[o]? = some y → x ≠ y) : RJ cap c n1 A m D' w' := ⟨h.1.ext e h1, h.2.1.low (X := Y) ⟨e, h2⟩, hd⟩
theorem right_each {cap c n1 R : Nat} {A : Option Addr} {m : List Int} {w0 : World} (hc : cap < w0.heap.size) (hn : n1 ≤ w0.heap.size) (hl : R = m.length) : EachOk 21 #[.pointer (some ⟨cap, 0, none⟩)] R No (RJ cap c n1 A m) (fun r o => ∃ x y, m[r]? = some x ∧ m[o]? = some y ∧ x = y) w0 where
 keep := fun D w w' Y h e hY => h.step e (fun h => by have := hY _ h; omega) (fun k h => Nat.le_trans hn (hY k h)) h.2.2
 call := fun D w r o h _ hr ho => by
  subst hl;obtain ⟨x, hx⟩ : ∃ x, m[r]? = some x := ⟨_, List.getElem?_eq_getElem hr⟩;obtain ⟨y, hy⟩ : ∃ y, m[o]? = some y := ⟨_, List.getElem?_eq_getElem ho⟩;rw [show (#[.int .i64 ((r : Nat) : Int), .int .i64 ((o : Nat) : Int)] ++ #[.pointer (some ⟨cap, 0, none⟩)] : Array Value) = #[.int .i64 ((r : Nat) : Int), .int .i64 ((o : Nat) : Int), .pointer (some ⟨cap, 0, none⟩)] from rfl]
  refine (right1_any w cap c n1 A m h.1 h.2.1 r o x y hx hy).mono fun e w' h2 => ⟨x != y, h2.1, Ext.of_below h2.2 No, fun hb => h.step (Ext.of_below h2.2 No) (fun h => h.elim) (fun _ h => h.elim) fun r' o' x' y' hd hx' hy' => ?_, fun hb => ⟨x, y, hx, hy, by simpa using hb⟩⟩;rcases hd with hd | ⟨rfl, rfl⟩
  · exact h.2.2 r' o' x' y' hd hx' hy'
  · rw [hx] at hx';rw [hy] at hy';obtain rfl := Option.some.inj hx';obtain rfl := Option.some.inj hy';simpa using hb
theorem meets_right {w : World} {p : Pl} {f : LFn} {n0 b0 cl cap c n1 : Nat} {AL A : Option Addr} {W : List (List Nat)} {m : List Int} (hF : FnA n0 w p f) (hs :     qp f = true) (hD : DbT w) (hW : Rows64 W f.ins.length (    jz f)) (hL : ∀ a r,   vb W a r = true ↔ Liv f a r) (hA : RowsW b0 w AL W) (hb0 : n0 ≤ b0) (hdb : 0 < b0)
 (h4 : Blk w cap 28 #[.slice A m.length c]) (hm : IntsA n1 w A m) (hn : n1 ≤ w.heap.size) (hl : (m.length : Int) = f.regs) : Calls Tryd.prog 20 #[fnV p f, .slice AL f.ins.length cl, .func (.func 21) #[] #[.pointer (some ⟨cap, 0, none⟩)]] w fun e w' => ∃ b, e = .returned (.bool b) ∧ (b = true ↔ ∀ (r o : Nat) (x y : Int), Met f r o → m[r]? = some x → m[o]? = some y → x ≠ y) ∧ Below w.heap.size w w' :=
 (meets_any w p f n0 b0 cl AL W hF hs hD hW hL hA hb0 hdb _ _ No (RJ cap c n1 A m) _ (fun _ h => h.elim) (right_each h4.lt hn (by omega)) en21 ⟨h4, hm, fun _ _ _ _ h => h.elim⟩).mono fun e w' h => by
  obtain ⟨hE, h⟩ := h;rcases h with ⟨he, D, hD, hJ⟩ | ⟨he, r, o, hM, x, y, hx, hy, hxy⟩
  · exact ⟨true, he, ⟨fun _ r o x y hM => hJ.2.2 r o x y ((hD r o).2 hM), fun _ => rfl⟩, hE.toBelow⟩
  · exact ⟨false, he, ⟨fun h => (by cases h), fun h => absurd hxy (h r o x y hM hx hy)⟩, hE.toBelow⟩
theorem live_no {w : World} {p : Pl} {f : LFn} {n0 : Nat} (hF : FnA n0 w p f) (hs : qp f = false) : Calls Tryd.prog 19 #[fnV p f] w fun e w' => e = .returned (.tuple #[.slice none 0 0, .int .i64 3]) ∧ Below w.heap.size w w' :=
 (live_any w p f n0 hF).mono fun _ _ h => ⟨h.2.1 hs, h.1⟩
theorem live_yes {w : World} {p : Pl} {f : LFn} {n0 : Nat} (hF : FnA n0 w p f) (hs :     qp f = true) : Calls Tryd.prog 19 #[fnV p f] w fun e w' => ∃ A c W, e = .returned (.tuple #[.slice A f.ins.length c, .int .i64 0]) ∧ Rows64 W f.ins.length (    jz f) ∧ (∀ a r,   vb W a r = true ↔ Liv f a r) ∧ RowsW w'.heap.size w' A W ∧ Below w.heap.size w w' :=
 (live_any w p f n0 hF).mono fun _ _ h => by
  obtain ⟨A, c, W, h1, h2, h3, h4⟩ := h.2.2 hs;exact ⟨A, c, W, h1, h2, h3, h4, h.1⟩
def oc (f : LFn) (n : Int) (r : Nat) (x : Int) : Prop := 0 ≤ x ∧ x < n ∧ ((r : Int) < f.params → x = (r : Int)) ∧ (f.params ≤ (r : Int) → x < f.params → ¬ Liv f 0 r)
theorem zbz {f : LFn} {n : Int} {m : List Int} {i : Nat} {y : Int} (hy : m[i]? = some y) (hok : ∀ (r : Nat) (x : Int), r < i → m[r]? = some x → oc f n r x) (h : oc f n i y) : ∀ (r : Nat) (x : Int), r < i + 1 → m[r]? = some x → oc f n r x := fun r x hr hx => by
 rcases Nat.lt_or_ge r i with h1 | h1
 · exact hok r x h1 hx
 · obtain rfl : r = i := by omega
   rw [hy] at hx;obtain rfl := Option.some.inj hx;exact h
theorem right_any (w : World) (p : Pl) (f : LFn) (n0 : Nat) (hF : FnA n0 w p f) (A : Option Addr) (c n1 : Nat) (m : List Int) (hm : IntsA n1 w A m) (n : Int) (hn : I64 n) (hn1 : n1 ≤ w.heap.size) (hD : DbT w) : Calls Tryd.prog 9 #[fnV p f, .slice A m.length c, .int .i64 n] w fun e w' => ∃ b, e = .returned (.bool b) ∧ (b = true ↔ jg f m n) ∧ Below w.heap.size w w' := by
 have hml := hm.len;have hn00 := hF.size;have hdb0 : 0 < w.heap.size := World.block_lt_of_cell? w _ (hD 0 0 rfl);refine qw Tryd.func9 rfl Tryd.ntmps9 rfl ?_;have HF : Per (No) w (fun _ => True) := Per.true_;have LW := erx (No) w;have XLW := grx (No) w;have E := erx (No) w;replace HF := HF.on E;replace LW := LW.step E XLW;replace E := erx (No) w
 replace HF := HF.and (Per.fnA hF (fun _ h => h.elim));replace HF := HF.on E;replace LW := LW.step E XLW;replace E := erx (No) w;replace HF := HF.and (Per.ints hm (fun _ h => h.elim));replace HF := HF.on E;replace LW := LW.step E XLW;replace E := erx (No) w;replace HF := HF.and (Per.dbT hD (fun _ h => h.elim));by_cases hs : qp f = true
 ·
  obtain ⟨hr0, hr1, hp0, hp1, hne⟩ := ji hs;refine srx (za rfl (vd rfl ?_));intro gb1 w2 Bb1 Eb1 Gb1;have Gb1 : _ ≤ gb1 := Nat.le_trans E.size Gb1;have GLb1 := Nat.le_trans LW.size Gb1;replace E := E.trans Eb1.no;replace HF := HF.cons (yk Gb1);replace E := E.cons (some gb1);replace XLW := Mut.grow XLW (fun k e => Or.inr (Nat.le_trans LW.size ((yk Gb1) k e)))
  replace HF := HF.on E;replace LW := LW.step E XLW;have SB : ∀ q9, No q9 → Mut [(some gb1)] q9 := (Mut.skip Mut.nil_);replace HF := HF.less SB;replace XLW := fun k h => XLW k (SB k h);clear SB;replace E := erx (No) w2;replace HF := HF.and (Per.blkN Bb1 NotIn.nil);refine za rfl (vd rfl ?_);intro gb3 w4 Bb3 Eb3 Gb3;have Gb3 : _ ≤ gb3 := Nat.le_trans E.size Gb3
  have GLb3 := Nat.le_trans LW.size Gb3;replace E := E.trans Eb3.no;replace HF := HF.cons (yk Gb3);replace E := E.cons (some gb3);replace XLW := Mut.grow XLW (fun k e => Or.inr (Nat.le_trans LW.size ((yk Gb3) k e)))
  refine anx rfl (srx (za rfl (yf Tryd.underlying27 rfl vq rfl (HF.on E).here.2 rfl (za rfl (ya en19 rfl ((live_yes (HF.on E).here.1.1.1.2 hs).mono ?_))))));rintro e w5 ⟨AL, cL, W, rfl, hW, hL, hA, hb⟩;refine ⟨_, rfl, ?_⟩;have Ec := Ext.of_below hb No;replace Bb3 := Bb3.extN Ec NotIn.nil;replace E := E.trans Ec.no;replace HF := HF.on E;replace LW := LW.step E XLW
  have SB : ∀ q9, No q9 → Mut [(some gb3)] q9 := (Mut.skip Mut.nil_);replace HF := HF.less SB;replace XLW := fun k h => XLW k (SB k h);clear SB;replace E := erx (No) w5;replace HF := HF.and (Per.blkN Bb3 NotIn.nil);obtain ⟨bz, hbz⟩ : ∃ bz, bz = w5.heap.size := ⟨_, rfl⟩;have hnz : w.heap.size ≤ bz := by rw [hbz]; exact ((LW.step E XLW).toBelow).size
  have hnb : n0 ≤ bz := Nat.le_trans hn00 hnz;rw [← hbz] at hA;replace HF := HF.on E;replace LW := LW.step E XLW;replace E := erx (No) w5;replace HF := HF.and (Per.rowsW hA (fun _ h => h.elim))
  refine mvx rfl (za rfl (qj rfl rfl (za rfl (qj rfl rfl (avx rfl (anx rfl (zm (srx (mvx rfl (za rfl (qs rfl rfl (mvx rfl (onx rfl (ze Tryd.underlying28 rfl rfl (HF.on E).here.1.2 rfl (onx rfl (yp Tryd.underlying28 rfl (onx rfl (zb Tryd.underlying27 rfl sz3 (by decide) rfl (onx rfl (ze Tryd.underlying3 rfl rfl (HF.on E).here.1.1.2 rfl (onx rfl (qs rfl rfl (za rfl (zz rfl rfl (mvx rfl (yv 25 rfl (fun h1 => ?_) (fun h1 => ?_)))))))))))))))))))))))))))
  ·
   have h1 : (m.length : Int) ≠ f.regs := by simpa using h1
   refine za rfl (zc rfl (za rfl (zc rfl (za rfl (zc rfl (za rfl (zc rfl (za rfl (zr rfl rfl (mvx rfl (za rfl (zc rfl (za rfl (zc rfl (za rfl (zc rfl (za rfl (zc rfl (za rfl (zr rfl rfl (rnx (qq rfl (srx (anx rfl (yc (zd (yb (rs := [.tmp 6]) (vs := [_]) rfl ⟨rfl, trivial⟩ ?_)))))))))))))))))))))))))))
   exact ⟨false, rfl, ⟨fun h => (by cases h), fun h => absurd h.2.1 h1⟩, (LW.step E XLW).toBelow⟩
  ·
   have h1 : (m.length : Int) = f.regs := by simpa using h1
   refine onx rfl (zl rfl (onx rfl (zb Tryd.underlying27 rfl sz3 (by decide) rfl (onx rfl (ze Tryd.underlying3 rfl rfl (HF.on E).here.1.1.2 rfl (onx rfl (yy rfl rfl (za rfl (zz rfl rfl (mvx rfl (yv 31 rfl (fun h2 => ?_) (fun h2 => ?_))))))))))))
   ·
    have h2 := of_decide_eq_true h2;refine za rfl (zc rfl (za rfl (zc rfl (za rfl (zc rfl (za rfl (zc rfl (za rfl (zr rfl rfl (rnx (qq rfl (srx (anx rfl (yc (zd (yb (rs := [.tmp 6]) (vs := [_]) rfl ⟨rfl, trivial⟩ ?_))))))))))))))));exact ⟨false, rfl, ⟨fun h => (by cases h), fun h => absurd h.2.2.1 (by omega)⟩, (LW.step E XLW).toBelow⟩
   ·
    have h2 := of_decide_eq_false h2;refine onx rfl (zl rfl (onx rfl (zb Tryd.underlying27 rfl sz3 (by decide) rfl (onx rfl (ze Tryd.underlying3 rfl rfl (HF.on E).here.1.1.2 rfl (onx rfl (xc rfl rfl (za rfl (zz rfl rfl (rnx (zw rfl (fun h3 => ?_) (fun h3 => ?_))))))))))))
    ·
     have h3 := of_decide_eq_true h3;refine srx (anx rfl (yc (zd (yb (rs := [.tmp 6]) (vs := [_]) rfl ⟨rfl, trivial⟩ ?_))));exact ⟨false, rfl, ⟨fun h => (by cases h), fun h => absurd h.2.2.2.1 (by omega)⟩, (LW.step E XLW).toBelow⟩
    ·
     have h3 := of_decide_eq_false h3;refine zq (zh (zm (srx (za rfl (ze Tryd.underlying28 rfl rfl (HF.on E).here.1.2 rfl (za rfl (yp Tryd.underlying28 rfl (mvx rfl (rnx (zv ?_))))))))));replace HF := HF.on E;replace LW := LW.step E XLW;replace E := erx (No) w5
     refine qu (ι := Nat) (fun i => [(2, .int .i64 n), (3, .pointer (some ⟨gb1, 0, none⟩)), (4, .pointer (some ⟨gb3, 0, none⟩)), (7, .slice AL f.ins.length cL), (37, .slice A m.length c), (38, .int .i64 ((m.length : Nat) : Int)), (39, .int .i64 ((i : Nat) : Int))]) (fun i w' => Ext (No) w5 w' ∧ (i ≤ m.length ∧ ∀ (r : Nat) (x : Int), r < i → m[r]? = some x → oc f n r x)) (fun i => m.length - i) 0 ⟨rfl, rfl, rfl, rfl, rfl, rfl, rfl, trivial⟩ ⟨Ext.refl _ _, ⟨Nat.zero_le _, fun r x h => absurd h (Nat.not_lt_zero _)⟩⟩ ?_
     rintro i w7 ⟨M6, ⟨him, hok⟩⟩;have XM6 := grx (No) w5;replace E := E.trans M6;replace HF := HF.on E;replace LW := LW.step E XLW;replace E := erx (No) w7;refine srx (za rfl (yy rfl rfl (rnx (zm (zw rfl (fun hi => ?_) (fun hi => ?_))))))
     ·
      have hi := of_decide_eq_true hi;have him2 : i < m.length := by omega
      obtain ⟨y, hy⟩ : ∃ y, m[i]? = some y := ⟨_, List.getElem?_eq_getElem him2⟩;obtain ⟨gm, om, hAm, hgm, hcm⟩ := ((HF.on E).here.1.1.1.1.2).cell hy;refine zq (zh (zm (zv (srx (mvx rfl (za rfl (zj (j := i) Tryd.underlying28 sz3 (congrArg (fun z ↦ some (Value.slice z m.length c)) hAm) rfl rfl him2 (za rfl (zt Tryd.underlying3 rfl rfl hcm ?_)))))))))
      have hno : ¬ oc f n i y → ¬ jg f m n := fun h h2 => h (h2.2.2.2.2.1 i y hy);refine avx rfl (anx rfl (srx (mvx rfl (za rfl (yy rfl rfl (mvx rfl (yv 46 rfl (fun q1 => ?_) (fun q1 => ?_))))))))
      ·
       have q1 := of_decide_eq_true q1
       refine za rfl (zc rfl (za rfl (zc rfl (za rfl (zc rfl (za rfl (zr rfl rfl (mvx rfl (za rfl (zc rfl (za rfl (zc rfl (za rfl (zc rfl (za rfl (zc rfl (za rfl (zc rfl (za rfl (ye rfl rfl (za rfl (ye rfl rfl (za rfl (ye rfl rfl (za rfl (zc rfl (za rfl (zr rfl rfl (mvx rfl (za rfl (zc rfl (za rfl (zc rfl (za rfl (zc rfl (za rfl (zc rfl (za rfl (zc rfl (za rfl (ye rfl rfl (za rfl (ye rfl rfl (za rfl (ye rfl rfl (za rfl (ye rfl rfl (za rfl (zc rfl (za rfl (zc rfl (za rfl (ye rfl rfl (za rfl (ye rfl rfl (za rfl (ye rfl rfl (za rfl (ye rfl rfl (za rfl (ye rfl rfl (za rfl (ye rfl rfl (za rfl (ye rfl rfl (za rfl (ye rfl rfl (za rfl (ye rfl rfl (za rfl (ye rfl rfl (za rfl (ye rfl rfl (za rfl (ye rfl rfl (za rfl (zc rfl ?_)))))))))))))))))))))))))))))))))))))))))))))))))))))))))))))))))))))))))))))
       refine za rfl (zr rfl rfl (rnx (qq rfl (srx (anx rfl (yc (zg (zd (zd (zg (zd (yb (rs := [.tmp 6]) (vs := [_]) rfl ⟨rfl, trivial⟩ ?_))))))))))));exact ⟨false, rfl, ⟨fun h => (by cases h), fun h => absurd h (hno fun h => by exact absurd h.1 (by omega))⟩, (LW.step E XLW).toBelow⟩
      ·
       have q1 := of_decide_eq_false q1;refine onx rfl (zl rfl (onx rfl (zl rfl (onx rfl (xd rfl rfl (za rfl (zz rfl rfl (mvx rfl (yv 51 rfl (fun q2 => ?_) (fun q2 => ?_))))))))))
       ·
        have q2 := of_decide_eq_true q2
        refine za rfl (zc rfl (za rfl (zc rfl (za rfl (zc rfl (za rfl (zc rfl (za rfl (zc rfl (za rfl (ye rfl rfl (za rfl (ye rfl rfl (za rfl (ye rfl rfl (za rfl (zc rfl (za rfl (zr rfl rfl (mvx rfl (za rfl (zc rfl (za rfl (zc rfl (za rfl (zc rfl (za rfl (zc rfl (za rfl (zc rfl (za rfl (ye rfl rfl (za rfl (ye rfl rfl (za rfl (ye rfl rfl (za rfl (ye rfl rfl (za rfl (zc rfl (za rfl (zc rfl (za rfl (ye rfl rfl (za rfl (ye rfl rfl (za rfl (ye rfl rfl (za rfl (ye rfl rfl (za rfl (ye rfl rfl (za rfl (ye rfl rfl (za rfl (ye rfl rfl (za rfl (ye rfl rfl (za rfl (ye rfl rfl (za rfl (ye rfl rfl (za rfl (ye rfl rfl (za rfl (ye rfl rfl (za rfl (zc rfl (za rfl (zr rfl rfl (rnx (qq rfl (zm ?_)))))))))))))))))))))))))))))))))))))))))))))))))))))))))))))))))))))))))
        refine zp (anx rfl (yc (zg (zd (zd (zg (zd (yb (rs := [.tmp 6]) (vs := [_]) rfl ⟨rfl, trivial⟩ ?_))))))));exact ⟨false, rfl, ⟨fun h => (by cases h), fun h => absurd h (hno fun h => by exact absurd h.2.1 (by omega))⟩, (LW.step E XLW).toBelow⟩
       ·
        have q2 := of_decide_eq_false q2;refine onx rfl (zl rfl (onx rfl (zb Tryd.underlying27 rfl sz3 (by decide) rfl (onx rfl (ze Tryd.underlying3 rfl rfl (HF.on E).here.1.1.2 rfl (onx rfl (yy rfl rfl (onx rfl (zl rfl (yv 56 rfl (fun q3 => ?_) (fun q3 => ?_)))))))))))
        ·
         have q3 := of_decide_eq_true q3;refine onx rfl (zl rfl (onx rfl (zl rfl (onx rfl (qs rfl rfl (onx rfl (zr rfl rfl (za rfl (zz rfl rfl (mvx rfl (yv 62 rfl (fun q4 => ?_) (fun q4 => ?_))))))))))))
         ·
          have q4 : y ≠ (i : Int) := by simpa using q4
          refine za rfl (zc rfl (za rfl (zc rfl (za rfl (zc rfl (za rfl (zc rfl (za rfl (zc rfl (za rfl (ye rfl rfl (za rfl (ye rfl rfl (za rfl (ye rfl rfl (za rfl (ye rfl rfl (za rfl (zc rfl (za rfl (zc rfl (za rfl (ye rfl rfl (za rfl (ye rfl rfl (za rfl (ye rfl rfl (za rfl (ye rfl rfl (za rfl (ye rfl rfl (za rfl (ye rfl rfl (za rfl (ye rfl rfl (za rfl (ye rfl rfl (za rfl (ye rfl rfl (za rfl (ye rfl rfl (za rfl (ye rfl rfl (za rfl (ye rfl rfl (za rfl (zc rfl (za rfl (zr rfl rfl (rnx (qq rfl (srx (anx rfl (yc (zg (zd (zd (zg (zd (yb (rs := [.tmp 6]) (vs := [_]) rfl ⟨rfl, trivial⟩ ?_))))))))))))))))))))))))))))))))))))))))))))))))))))))))))))
          exact ⟨false, rfl, ⟨fun h => (by cases h), fun h => absurd h (hno fun h => by exact q4 (h.2.2.1 q3))⟩, (LW.step E XLW).toBelow⟩
         ·
          have q4 : y = (i : Int) := by simpa using q4
          refine onx rfl (zl rfl (onx rfl (zb Tryd.underlying27 rfl sz3 (by decide) rfl (onx rfl (ze Tryd.underlying3 rfl rfl (HF.on E).here.1.1.2 rfl (onx rfl (xd rfl rfl (onx rfl (zl rfl (yv 67 rfl (fun q5 => ?_) (fun q5 => ?_)))))))))))
          ·
           exact absurd (of_decide_eq_true q5) (by omega)
          ·
           have hpo : oc f n i y := ⟨by omega, by omega, fun _ => q4, fun h => absurd h (by omega)⟩
           refine za rfl (zc rfl (za rfl (zc rfl (za rfl (zc rfl (za rfl (zc rfl (onx rfl (zz rfl rfl (onx rfl (zl rfl (za rfl (zc rfl (za rfl (zc rfl (za rfl (zc rfl (za rfl (zc rfl (za rfl (zc rfl (za rfl (zc rfl (za rfl (zc rfl (za rfl (zc rfl (za rfl (zc rfl (za rfl (zc rfl (za rfl (zc rfl (za rfl (zc rfl (onx rfl (zz rfl rfl (za rfl (zz rfl rfl (rnx (qz rfl (zq (zk (zh (zp (za rfl (qe rfl rfl (zy (by omega)) (mvx rfl (yj ?_)))))))))))))))))))))))))))))))))))))))))))))))))
           exact yo (i + 1) (by show m.length - (i + 1) < m.length - i; omega) ⟨rfl, rfl, rfl, rfl, rfl, rfl, rfl, trivial⟩ ⟨M6.step E XM6, ⟨him2, zbz hy hok hpo⟩⟩
        ·
         have q3 := of_decide_eq_false q3
         refine za rfl (zc rfl (za rfl (zc rfl (za rfl (zc rfl (onx rfl (zz rfl rfl (za rfl (zz rfl rfl (mvx rfl (onx rfl (zl rfl (onx rfl (zb Tryd.underlying27 rfl sz3 (by decide) rfl (onx rfl (ze Tryd.underlying3 rfl rfl (HF.on E).here.1.1.2 rfl (onx rfl (xd rfl rfl (onx rfl (zl rfl (yv 67 rfl (fun q5 => ?_) (fun q5 => ?_))))))))))))))))))))))
         ·
          refine onx rfl (zl rfl (onx rfl (zb Tryd.underlying27 rfl sz3 (by decide) rfl (onx rfl (ze Tryd.underlying3 rfl rfl (HF.on E).here.1.1.2 rfl (onx rfl (yy rfl rfl (onx rfl (zr rfl rfl (onx rfl (zl rfl (yv 73 rfl (fun q6 => ?_) (fun q6 => ?_)))))))))))))
          ·
           have q6 := of_decide_eq_true q6;have hN0 : 0 < f.ins.length := List.length_pos_iff.2 hne;obtain ⟨row, hrow⟩ : ∃ row, W[0]? = some row := ⟨_, List.getElem?_eq_getElem (by rw [hW.1]; exact hN0)⟩;have hr64 := hW.2 row (List.mem_of_getElem? hrow);have hil : i / 64 < row.length := by rw [hr64.1]; unfold jz; omega
           obtain ⟨x0, hx0⟩ : ∃ x0, row[i / 64]? = some x0 := ⟨_, List.getElem?_eq_getElem hil⟩;have hx064 := hr64.2 x0 (List.mem_of_getElem? hx0);obtain ⟨gL, oL, hAL, hgL, BL, cB, hU, hcL⟩ := RowS.at ((HF.on E).here.2) hrow;obtain ⟨gU, oU, hAU, hgU, hcU⟩ := hU.cell hx0;have hbit : vb W 0 i = x0.testBit (i % 64) := by
            unfold vb gk;rw [List.getD_eq_getElem?_getD (i := 0), hrow, Option.getD_some, List.getD_eq_getElem?_getD, hx0]; rfl
           refine onx rfl (zl rfl (onx rfl (zj (j := 0) Tryd.underlying52 sz55 (congrArg (fun z ↦ some (Value.slice z f.ins.length cL)) hAL) rfl rfl hN0 (onx rfl (zt Tryd.underlying55 rfl rfl hcL (onx rfl (zl rfl (onx rfl (zbq rfl rfl (by decide) (show IntKind.i64.wrap (((i : Nat) : Int).tdiv 64) = ((i / 64 : Nat) : Int) from by rw [Int.tdiv_eq_ediv_of_nonneg (by omega)]; exact zy (by omega)) (onx rfl (zj (j := i / 64) Tryd.underlying55 xv (congrArg (fun z ↦ some (Value.slice z row.length cB)) hAU) rfl rfl hil (onx rfl (zt Tryd.underlying35 rfl rfl hcU (onx rfl (zl rfl (onx rfl (zkq rfl rfl (by decide) (show (((i : Nat) : Int).tmod 64) = ((i % 64 : Nat) : Int) from by rw [Int.tmod_eq_emod_of_nonneg (by omega)]; rfl) (onx rfl (ow_shr rfl rfl (by omega) (zuk (by omega)) (onx rfl (jr rfl rfl (xg (y := 1) (by rw [Nat.shiftRight_eq_div_pow]; exact Nat.lt_of_le_of_lt (Nat.div_le_self _ _) hx064) (by decide)) (onx rfl (qx rfl rfl (onx rfl (zr rfl rfl (za rfl (zz rfl rfl (rnx (zw rfl (fun q7 => ?_) (fun q7 => ?_))))))))))))))))))))))))))))))
           ·
            rw [zaz, ← hbit] at q7;have q7 := (hL 0 i).1 q7;refine srx (anx rfl (yc (zg (zd (zd (zg (zd (yb (rs := [.tmp 6]) (vs := [_]) rfl ⟨rfl, trivial⟩ ?_))))))));exact ⟨false, rfl, ⟨fun h => (by cases h), fun h => absurd h (hno fun h => by exact h.2.2.2 (by omega) q6 q7)⟩, (LW.step E XLW).toBelow⟩
           ·
            rw [zaz, ← hbit] at q7;have q7 : ¬ Liv f 0 i := fun h => by rw [(hL 0 i).2 h] at q7; cases q7
            have hpo : oc f n i y := ⟨by omega, by omega, fun h => absurd h q3, fun _ _ => q7⟩;refine zq (zk (zh (zp (za rfl (qe rfl rfl (zy (by omega)) (mvx rfl (yj ?_)))))))
            exact yo (i + 1) (by show m.length - (i + 1) < m.length - i; omega) ⟨rfl, rfl, rfl, rfl, rfl, rfl, rfl, trivial⟩ ⟨M6.step E XM6, ⟨him2, zbz hy hok hpo⟩⟩
          ·
           have q6 := of_decide_eq_false q6;have hpo : oc f n i y := ⟨by omega, by omega, fun h => absurd h q3, fun _ h => absurd h q6⟩
           refine za rfl (zc rfl (za rfl (zc rfl (za rfl (zc rfl (za rfl (zc rfl (za rfl (zc rfl (za rfl (zc rfl (za rfl (zc rfl (za rfl (zc rfl (za rfl (zc rfl (za rfl (zc rfl (za rfl (zc rfl (za rfl (zc rfl (onx rfl (zz rfl rfl (za rfl (zz rfl rfl (rnx (qz rfl (zq (zk (zh (zp (za rfl (qe rfl rfl (zy (by omega)) (mvx rfl (yj ?_)))))))))))))))))))))))))))))))))))))
           exact yo (i + 1) (by show m.length - (i + 1) < m.length - i; omega) ⟨rfl, rfl, rfl, rfl, rfl, rfl, rfl, trivial⟩ ⟨M6.step E XM6, ⟨him2, zbz hy hok hpo⟩⟩
         ·
          exact absurd (of_decide_eq_false q5) (by omega)
     ·
      have hi := of_decide_eq_false hi;have hie : i = m.length := by omega
      refine qn (zi (zi (zx (zh (srx (za rfl (yf Tryd.underlying27 rfl vq rfl (HF.on E).here.1.1.2 rfl (mvx rfl (za rfl (zez (xs := [.tmp 4]) rfl (za rfl (ya en20 rfl ((meets_right (HF.on E).here.1.1.1.1.1.2 hs (HF.on E).here.1.1.1.2 hW hL (HF.on E).here.2 hnb (Nat.lt_of_lt_of_le hdb0 hnz) (HF.on E).here.1.2 (HF.on E).here.1.1.1.1.2 (Nat.le_trans hn1 ((LW.step E XLW).toBelow).size) h1).mono ?_)))))))))))))
      rintro e w8 ⟨b, rfl, hbm, hb⟩;refine ⟨_, rfl, ?_⟩;replace E := blx E hb;refine anx rfl (yc (yb (rs := [.tmp 6]) (vs := [_]) rfl ⟨rfl, trivial⟩ ?_));exact ⟨b, rfl, hbm.trans ⟨fun h => ⟨hs, h1, by omega, by omega, fun r x hx => hok r x (by rw [hie]; exact (List.getElem?_eq_some_iff.1 hx).1) hx, h⟩, fun h => h.2.2.2.2.2⟩, (LW.step E XLW).toBelow⟩
 ·
  have hs : qp f = false := by simpa using hs
  refine srx (za rfl (vd rfl ?_));intro gb9 w10 Bb9 Eb9 Gb9;have Gb9 : _ ≤ gb9 := Nat.le_trans E.size Gb9;have GLb9 := Nat.le_trans LW.size Gb9;replace E := E.trans Eb9.no;replace HF := HF.cons (yk Gb9);replace E := E.cons (some gb9);replace XLW := Mut.grow XLW (fun k e => Or.inr (Nat.le_trans LW.size ((yk Gb9) k e)));replace HF := HF.on E;replace LW := LW.step E XLW
  have SB : ∀ q9, No q9 → Mut [(some gb9)] q9 := (Mut.skip Mut.nil_);replace HF := HF.less SB;replace XLW := fun k h => XLW k (SB k h);clear SB;replace E := erx (No) w10;replace HF := HF.and (Per.blkN Bb9 NotIn.nil);refine za rfl (vd rfl ?_);intro gb11 w12 Bb11 Eb11 Gb11;have Gb11 : _ ≤ gb11 := Nat.le_trans E.size Gb11;have GLb11 := Nat.le_trans LW.size Gb11;replace E := E.trans Eb11.no
  replace HF := HF.cons (yk Gb11);replace E := E.cons (some gb11);replace XLW := Mut.grow XLW (fun k e => Or.inr (Nat.le_trans LW.size ((yk Gb11) k e)));refine anx rfl (srx (za rfl (yf Tryd.underlying27 rfl vq rfl (HF.on E).here.2 rfl (za rfl (ya en19 rfl ((live_no (HF.on E).here.1.1.1.2 hs).mono ?_))))));rintro e w13 ⟨rfl, hb⟩;refine ⟨_, rfl, ?_⟩
  have Ec := Ext.of_below hb No;replace Bb11 := Bb11.extN Ec NotIn.nil;replace E := E.trans Ec.no
  refine mvx rfl (za rfl (qj rfl rfl (za rfl (qj rfl rfl (avx rfl (anx rfl (zm (srx (mvx rfl (za rfl (qs rfl rfl (mvx rfl (za rfl (zc rfl (za rfl (zc rfl (za rfl (zc rfl (za rfl (zc rfl (za rfl (zc rfl (za rfl (zr rfl rfl (mvx rfl (za rfl (zc rfl (za rfl (zc rfl (za rfl (zc rfl (za rfl (zc rfl (za rfl (zr rfl rfl (mvx rfl (za rfl (zc rfl (za rfl (zc rfl (za rfl (zc rfl (za rfl (zc rfl (za rfl (zr rfl rfl (rnx (qq rfl (srx (anx rfl (yc ?_)))))))))))))))))))))))))))))))))))))))))))))))))))
  refine zd (yb (rs := [.tmp 6]) (vs := [_]) rfl ⟨rfl, trivial⟩ ?_);exact ⟨false, rfl, ⟨fun h => (by cases h), fun h => by rw [h.1] at hs; cases hs⟩, (LW.step E XLW).toBelow⟩
end Go.Proofs.YtppdgjlmeahimaaDoor
namespace Go.Proofs.YtppdgjlmeahimaaDoor
open Go.RowKit
set_option maxRecDepth 100000
attribute [local irreducible] OW RS
def Held (row : List Nat) (m : List Int) (p : Int) : Prop := ∃ o : Nat, m[o]? = some p ∧ gk row o = true
def FreeP (row : List Nat) (m : List Int) (least p : Int) : Prop := least ≤ p ∧ ¬ Held row m p ∧ ∀ q, least ≤ q → q < p → Held row m q
theorem many_in : ∀ (n : Nat) (c : Int) (m : List Int), (∀ i : Nat, i < n → c + (i : Int) ∈ m) → n ≤ m.length
 | 0, _, _, _ => Nat.zero_le _
 | n + 1, c, m, h => by
  have h1 := h n (Nat.lt_succ_self n);have h2 := many_in n c (m.erase (c + (n : Int))) fun i hi => (List.mem_erase_of_ne (by omega)).2 (h i (by omega));rw [List.length_erase_of_mem h1] at h2;have := List.length_pos_of_mem h1;omega
theorem held_le {row : List Nat} {m : List Int} {least p : Int} (h0 : least ≤ p) (h : ∀ q, least ≤ q → q < p → Held row m q) : p ≤ least + (m.length : Int) := by
 have := many_in (p - least).toNat least m fun i hi => by
  obtain ⟨o, h1, _⟩ := h (least + (i : Int)) (by omega) (by omega);exact List.mem_of_getElem? h1
 omega
section
variable (w : World) (A B : Option Addr) (ca cb n1 : Nat) (row : List Nat) (m : List Int) (hr : U64A n1 w A row) (hm : IntsA n1 w B m) (least : Int) (hl0 : 0 ≤ least) (hl : least ≤ 65536) (hml : m.length ≤ 64 * row.length)
include hr hm hl0 hl hml
theorem free_any : Calls Tryd.prog 26 #[.slice A row.length ca, .slice B m.length cb, .int .i64 least] w fun e w' => ∃ p, e = .returned (.int .i64 p) ∧ FreeP row m least p ∧ Below w.heap.size w w' := by
 have hrl := hr.len;have hmll := hm.len;refine qw Tryd.func26 rfl Tryd.ntmps26 rfl ?_;have HF : Per (No) w (fun _ => True) := Per.true_;have LW := erx (No) w;have XLW := grx (No) w;have E := erx (No) w;replace HF := HF.on E;replace LW := LW.step E XLW;replace E := erx (No) w;replace HF := HF.and (Per.u64A hr (fun _ h => h.elim));replace HF := HF.on E;replace LW := LW.step E XLW
 replace E := erx (No) w;replace HF := HF.and (Per.ints hm (fun _ h => h.elim));refine srx (anx rfl (cw_scope 4 (srx (mvx rfl (anx rfl (zm (cw_label (zh (zv ?_)))))))));replace HF := HF.on E;replace LW := LW.step E XLW;replace E := erx (No) w
 refine qu (ι := Int) (fun p => [(0, .slice A row.length ca), (1, .slice B m.length cb), (7, .int .i64 p)]) (fun p w' => Ext (No) w w' ∧ (least ≤ p ∧ ∀ q, least ≤ q → q < p → Held row m q)) (fun p => (least + (m.length : Int) + 1 - p).toNat) least ⟨rfl, rfl, rfl, trivial⟩ ⟨Ext.refl _ _, ⟨Int.le_refl _, fun q h1 h2 => absurd h1 (by omega)⟩⟩ ?_;rintro p w2 ⟨M1, ⟨hp0, hpl⟩⟩
 have XM1 := grx (No) w;replace E := E.trans M1;replace HF := HF.on E;replace LW := LW.step E XLW;replace E := erx (No) w2;have hple := held_le hp0 hpl;refine zv (zm (srx (mvx rfl (za rfl (yp Tryd.underlying28 rfl (mvx rfl (rnx (zv ?_))))))));replace HF := HF.on E;replace LW := LW.step E XLW;replace M1 := M1.step E XM1;replace E := erx (No) w2
 refine qu (ι := Nat) (fun i => [(0, .slice A row.length ca), (1, .slice B m.length cb), (7, .int .i64 p), (11, .slice B m.length cb), (12, .int .i64 ((m.length : Nat) : Int)), (13, .int .i64 ((i : Nat) : Int))]) (fun i w' => Ext (No) w2 w' ∧ (i ≤ m.length ∧ ∀ o : Nat, o < i → ¬ (m[o]? = some p ∧ gk row o = true))) (fun i => m.length - i) 0 ⟨rfl, rfl, rfl, rfl, rfl, rfl, trivial⟩ ⟨Ext.refl _ _, ⟨Nat.zero_le _, fun o h => absurd h (Nat.not_lt_zero _)⟩⟩ ?_
 rintro i w4 ⟨M3, ⟨him, hnone⟩⟩;have XM3 := grx (No) w2;replace E := E.trans M3;replace HF := HF.on E;replace LW := LW.step E XLW;replace M1 := M1.step E XM1;replace E := erx (No) w4;refine srx (za rfl (yy rfl rfl (rnx (zm (zw rfl (fun hi => ?_) (fun hi => ?_))))))
 ·
  have hi := of_decide_eq_true hi;have him2 : i < m.length := by omega
  obtain ⟨y, hy⟩ : ∃ y, m[i]? = some y := ⟨_, List.getElem?_eq_getElem him2⟩;obtain ⟨gm, om, hBm, hgm, hcm⟩ := ((HF.on E).here.2).cell hy;have hil : i / 64 < row.length := by omega
  obtain ⟨x0, hx0⟩ : ∃ x0, row[i / 64]? = some x0 := ⟨_, List.getElem?_eq_getElem hil⟩;have hx064 := hr.in_ x0 (List.mem_of_getElem? hx0);obtain ⟨gU, oU, hAU, hgU, hcU⟩ := ((HF.on E).here.1.2).cell hx0;have hbit : gk row i = x0.testBit (i % 64) := by
   unfold gk;rw [List.getD_eq_getElem?_getD, hx0]; rfl
  refine zq (zh (zm (zv (srx (mvx rfl (za rfl (zj (j := i) Tryd.underlying28 sz3 (congrArg (fun z ↦ some (Value.slice z m.length cb)) hBm) rfl rfl him2 (za rfl (zt Tryd.underlying3 rfl rfl hcm (avx rfl (anx rfl (srx (mvx rfl (mvx rfl (za rfl (qx rfl rfl (mvx rfl (yv 21 rfl (fun q1 => ?_) (fun q1 => ?_)))))))))))))))))))
  ·
   have q1 : y = p := by simpa using q1
   refine onx rfl (zl rfl (onx rfl (zl rfl (onx rfl (zbq rfl rfl (by decide) (show IntKind.i64.wrap (((i : Nat) : Int).tdiv 64) = ((i / 64 : Nat) : Int) from by rw [Int.tdiv_eq_ediv_of_nonneg (by omega)]; exact zy (by omega)) (onx rfl (zj (j := i / 64) Tryd.underlying55 xv (congrArg (fun z ↦ some (Value.slice z row.length ca)) hAU) rfl rfl hil (onx rfl (zt Tryd.underlying35 rfl rfl hcU (onx rfl (zl rfl (onx rfl (zkq rfl rfl (by decide) (show (((i : Nat) : Int).tmod 64) = ((i % 64 : Nat) : Int) from by rw [Int.tmod_eq_emod_of_nonneg (by omega)]; rfl) (onx rfl (ow_shr rfl rfl (by omega) (zuk (by omega)) (onx rfl (jr rfl rfl (xg (y := 1) (by rw [Nat.shiftRight_eq_div_pow]; exact Nat.lt_of_le_of_lt (Nat.div_le_self _ _) hx064) (by decide)) (onx rfl (qx rfl rfl (za rfl (zr rfl rfl (rnx (zw rfl (fun q2 => ?_) (fun q2 => ?_))))))))))))))))))))))))
   ·
    rw [zaz, ← hbit] at q2;have hheld : Held row m p := ⟨i, by rw [hy, q1], q2⟩;have hpl2 : ∀ q, least ≤ q → q < p + 1 → Held row m q := fun q h1 h2 => by
     rcases Int.lt_or_le q p with h3 | h3
     · exact hpl q h1 h3
     · obtain rfl : q = p := by omega
       exact hheld
    refine srx (mvx rfl (za rfl (qe rfl rfl (zy (by omega)) (anx rfl (qn (ziv rfl (zi (zi (ziv rfl (zi (zx ?_)))))))))));exact yo (p + 1) (by show (least + (m.length : Int) + 1 - (p + 1)).toNat < (least + (m.length : Int) + 1 - p).toNat; omega) ⟨rfl, rfl, rfl, trivial⟩ ⟨M1.step E XM1, ⟨by omega, hpl2⟩⟩
   ·
    rw [zaz, ← hbit] at q2;have hno : ∀ o : Nat, o < i + 1 → ¬ (m[o]? = some p ∧ gk row o = true) := fun o ho h => by
     rcases Nat.lt_or_ge o i with h9 | h9
     · exact hnone o h9 h
     · obtain rfl : o = i := by omega
       rw [hy] at h;rw [q2] at h; cases h.2
    refine zq (zk (zh (zp (za rfl (qe rfl rfl (zy (by omega)) (mvx rfl (yj ?_)))))));exact yo (i + 1) (by show m.length - (i + 1) < m.length - i; omega) ⟨rfl, rfl, rfl, rfl, rfl, rfl, trivial⟩ ⟨M3.step E XM3, ⟨him2, hno⟩⟩
  ·
   have q1 : y ≠ p := by simpa using q1
   have hno : ∀ o : Nat, o < i + 1 → ¬ (m[o]? = some p ∧ gk row o = true) := fun o ho h => by
    rcases Nat.lt_or_ge o i with h9 | h9
    · exact hnone o h9 h
    · obtain rfl : o = i := by omega
      rw [hy] at h;exact q1 (Option.some.inj h.1)
   refine za rfl (zc rfl (za rfl (zc rfl (za rfl (zc rfl (za rfl (zc rfl (za rfl (zc rfl (za rfl (zc rfl (za rfl (zc rfl (za rfl (zc rfl (za rfl (zc rfl (za rfl (zc rfl (za rfl (zz rfl rfl (rnx (qz rfl (zq (zk (zh (zp (za rfl (qe rfl rfl (zy (by omega)) (mvx rfl (yj ?_)))))))))))))))))))))))))))))))
   exact yo (i + 1) (by show m.length - (i + 1) < m.length - i; omega) ⟨rfl, rfl, rfl, rfl, rfl, rfl, trivial⟩ ⟨M3.step E XM3, ⟨him2, hno⟩⟩
 ·
  have hi := of_decide_eq_false hi;refine qn (zi (zi (zx (zh (srx (mvx rfl (anx rfl (yc (zg (zd (zg (ew_scope_ret (yb (rs := [.tmp 6]) (vs := [_]) rfl ⟨rfl, trivial⟩ ?_)))))))))))))
  exact ⟨p, rfl, ⟨hp0, fun ⟨o, h1, h2⟩ => hnone o (by have := (List.getElem?_eq_some_iff.1 h1).1; omega) ⟨h1, h2⟩, hpl⟩, (LW.step E XLW).toBelow⟩
end
end Go.Proofs.YtppdgjlmeahimaaDoor
namespace Go.Proofs.YtppdgjlmeahimaaDoor
open Go.RowKit
set_option maxRecDepth 100000
attribute [local irreducible] OW RS
def zav (W : List (List Nat)) (r o : Nat) : List (List Nat) := W.set r (setR (W.getD r []) o)
theorem setW_len (W : List (List Nat)) (r o : Nat) : (zav W r o).length = W.length := by unfold zav; rw [List.length_set]
theorem setW_rows {W : List (List Nat)} {N n r o : Nat} (h : Rows64 W N n) (hr : r < N) : Rows64 (zav W r o) N n := h.set (zmz (h.get hr))
theorem zsk {W : List (List Nat)} {N n r o : Nat} (h : Rows64 W N n) (hr : r < N) (ho : o < 64 * n) (a b : Nat) : vb (zav W r o) a b = (vb W a b || decide (a = r ∧ b = o)) := by
 unfold zav;rw [zrv _ _ _ _ (by rw [h.1]; exact hr)];by_cases h1 : a = r
 · subst h1;rw [if_pos rfl, bitR_setR (h.get hr) ho];unfold vb;simp
 · rw [if_neg h1];simp [h1]
section
variable (w : World) (cap go R n base : Nat) (gs : List Nat) (W : List (List Nat)) (hb : Blk w cap 52 #[.slice (some ⟨go, 0, none⟩) R R]) (hR : RowsB 55 35 base w go R n gs W) (hWl : W.length = R) (hRn : R ≤ 64 * n) (hn : n ≤ 1024) (hcap : cap ∉ gs)
include hb hR hWl hRn hn hcap
theorem assign1_any (r o : Nat) (hr : r < R) (ho : o < R) : Calls Tryd.prog 25 #[.int .i64 ((r : Nat) : Int), .int .i64 ((o : Nat) : Int), .pointer (some ⟨cap, 0, none⟩)] w fun e w' => e = .returned (.bool true) ∧ Ext (fun k => k ∈ gs) w w' ∧ RowsB 55 35 base w' go R n gs (zav (zav W r o) o r) := by
 refine qw Tryd.func25 rfl Tryd.ntmps25 rfl ?_;obtain ⟨gw, hgw, hrow, hbw, h64, hcw⟩ := hR.get (i := r) (by omega);have hw : (W.getD r [])[o / 64]? = some ((W.getD r []).getD (o / 64) 0) := by
  rw [List.getD_eq_getElem?_getD (i := o / 64), List.getElem?_eq_getElem (by rw [h64.1]; omega)]; rfl
 have hw64 : (W.getD r []).getD (o / 64) 0 < 2 ^ 64 := h64.get;have hpw : 2 ^ (o % 64) < 2 ^ 64 := Nat.pow_lt_pow_right (by decide) (Nat.mod_lt _ (by decide));refine srx (anx rfl (zm (zcz gn (zdx 13 rfl ?_))));refine vx (No) Mut.none_ [] [] (xx [Fx.of (.slice (some ⟨go, 0, none⟩) R R),
  Fx.of (.int .i64 ((r : Nat) : Int)),
  Fx.of (.pointer (some ⟨go, 0 + r, none⟩)),
  Fx.of (.slice (some ⟨gw, 0, none⟩) n n),
  Fx.of (.int .i64 ((o : Nat) : Int)),
  Fx.of (.int .i64 ((o / 64 : Nat) : Int)),
  Fx.of (.pointer (some ⟨gw, 0 + o / 64, none⟩)),
  Fx.of (.int .u64 (((W.getD r []).getD (o / 64) 0 : Nat) : Int)),
  Fx.of (.int .i64 ((o : Nat) : Int)),
  Fx.of (.int .i64 ((o % 64 : Nat) : Int)),
  Fx.of (.int .u64 ((2 ^ (o % 64) : Nat) : Int)),
  Fx.of (.int .u64 (((W.getD r []).getD (o / 64) 0 ||| 2 ^ (o % 64) : Nat) : Int)),
  Fx.of (.pointer (some ⟨gw, 0 + o / 64, none⟩))]) rfl trivial (fun _ h => by cases h) ?_ ?_
 · refine ⟨?_, ?_, ?_, ?_, ?_, ?_, ?_, ?_, ?_, ?_, ?_, ?_, ?_, trivial⟩
   · intro vs X wq K;have LE := K.1;exact zt Tryd.underlying52 rfl rfl (((ve LE hb).cell 0).trans rfl) ⟨Below.refl _ _, Left.of rfl⟩
   · intro vs X wq K;exact zl rfl ⟨Below.refl _ _, Left.of rfl⟩
   · intro vs X wq K;obtain ⟨_, e0, k0⟩ := K.dep 0 rfl rfl rfl;refine zf 6 (.slice (some ⟨go, 0, none⟩) R R) rfl e0 ?_;obtain ⟨_, e1, k1⟩ := K.dep 1 rfl rfl rfl;refine zf 7 (.int .i64 ((r : Nat) : Int)) rfl e1 ?_;exact zj (j := r) Tryd.underlying52 sz55 rfl rfl rfl (by omega) ⟨Below.refl _ _, Left.of rfl⟩
   · intro vs X wq K;have LE := K.1;obtain ⟨_, e2, k2⟩ := K.dep 2 rfl rfl rfl;refine zf 8 (.pointer (some ⟨go, 0 + r, none⟩)) rfl e2 ?_;exact zt Tryd.underlying55 rfl rfl (by rw [Nat.zero_add]; exact zpx LE hcw) ⟨Below.refl _ _, Left.of rfl⟩
   · intro vs X wq K;exact zl rfl ⟨Below.refl _ _, Left.of rfl⟩
   · intro vs X wq K;obtain ⟨_, e4, k4⟩ := K.dep 4 rfl rfl rfl;refine zf 10 (.int .i64 ((o : Nat) : Int)) rfl e4 ?_;exact zbq rfl rfl (by decide) (show IntKind.i64.wrap (((o : Nat) : Int).tdiv 64) = ((o / 64 : Nat) : Int) from by rw [Int.tdiv_eq_ediv_of_nonneg (by omega)]; exact zy (by omega)) ⟨Below.refl _ _, Left.of rfl⟩
   · intro vs X wq K;obtain ⟨_, e3, k3⟩ := K.dep 3 rfl rfl rfl;refine zf 9 (.slice (some ⟨gw, 0, none⟩) n n) rfl e3 ?_;obtain ⟨_, e5, k5⟩ := K.dep 5 rfl rfl rfl;refine zf 11 (.int .i64 ((o / 64 : Nat) : Int)) rfl e5 ?_;exact zj (j := o / 64) Tryd.underlying55 xv rfl rfl rfl (by omega) ⟨Below.refl _ _, Left.of rfl⟩
   · intro vs X wq K;have LE := K.1;obtain ⟨_, e6, k6⟩ := K.dep 6 rfl rfl rfl;refine zf 12 (.pointer (some ⟨gw, 0 + o / 64, none⟩)) rfl e6 ?_;exact ze Tryd.underlying35 rfl rfl (ve LE hbw) (gu hw) ⟨Below.refl _ _, Left.of rfl⟩
   · intro vs X wq K;exact zl rfl ⟨Below.refl _ _, Left.of rfl⟩
   · intro vs X wq K;obtain ⟨_, e8, k8⟩ := K.dep 8 rfl rfl rfl;refine zf 14 (.int .i64 ((o : Nat) : Int)) rfl e8 ?_;exact zkq rfl rfl (by decide) (show (((o : Nat) : Int).tmod 64) = ((o % 64 : Nat) : Int) from by rw [Int.tmod_eq_emod_of_nonneg (by omega)]; rfl) ⟨Below.refl _ _, Left.of rfl⟩
   · intro vs X wq K;obtain ⟨_, e9, k9⟩ := K.dep 9 rfl rfl rfl;refine zf 15 (.int .i64 ((o % 64 : Nat) : Int)) rfl e9 ?_;exact ow_shl rfl rfl (by omega) (zuv (Nat.mod_lt _ (by decide))) ⟨Below.refl _ _, Left.of rfl⟩
   · intro vs X wq K;obtain ⟨_, e7, k7⟩ := K.dep 7 rfl rfl rfl;refine zf 13 (.int .u64 (((W.getD r []).getD (o / 64) 0 : Nat) : Int)) rfl e7 ?_;obtain ⟨_, e10, k10⟩ := K.dep 10 rfl rfl rfl;refine zf 16 (.int .u64 ((2 ^ (o % 64) : Nat) : Int)) rfl e10 ?_;exact ow_or rfl rfl (or_u64 hw64 hpw) ⟨Below.refl _ _, Left.of rfl⟩
   · intro vs X wq K;obtain ⟨_, e3, k3⟩ := K.dep 3 rfl rfl rfl;refine zf 9 (.slice (some ⟨gw, 0, none⟩) n n) rfl e3 ?_;obtain ⟨_, e5, k5⟩ := K.dep 5 rfl rfl rfl;refine zf 11 (.int .i64 ((o / 64 : Nat) : Int)) rfl e5 ?_;exact zj (j := o / 64) Tryd.underlying55 xv rfl rfl rfl (by omega) ⟨Below.refl _ _, Left.of rfl⟩
 intro vs w1 LE AO AL AF AA;have hbd : Below (w).heap.size (w) w1 := (((Ext.refl No (w)).drew).trans LE).toBelow;obtain ⟨_, e11, k11⟩ := AL.2.2.2.2.2.2.2.2.2.2.2.1;obtain ⟨_, e12, k12⟩ := AL.2.2.2.2.2.2.2.2.2.2.2.2.1
 refine vz (τ := [(0, _), (1, _), (2, _), (5, _), (17, .int .u64 (((W.getD r []).getD (o / 64) 0 ||| 2 ^ (o % 64) : Nat) : Int)), (18, .pointer (some ⟨gw, 0 + o / 64, none⟩))]) ⟨rfl, rfl, rfl, rfl, congrArg some e11, congrArg some e12, trivial⟩ ?_;clear AL AF AA AO;refine zoq (kp (by kernel_rfl) (fun _ _ d_ _ _ h => by cases d_ <;> exact h) ?_);have hbn := Ext.of_below hbd No
 have hbw2 := hbw.ext hbn (fun h => h.elim);refine yx (yr xv rfl rfl hbw2 rfl rfl (by rw [List.size_toArray, jh, h64.1]; omega) (show _ = (qt (setR (W.getD r []) o)).toArray from by unfold setR; rw [xh, Nat.zero_add, List.setIfInBounds_toArray]) ?_);rintro wA Bs Es;have hgm := List.mem_of_getElem? hgw
 have R2 := (hR.ext hbn (fun h => h.elim) (fun _ _ h => h.elim)).put hgw Bs (zmz h64) Es;have C2 := (hb.ext hbn (fun h => h.elim)).ext Es (fun h => by have h := qb h; exact hcap (h ▸ hgm));have X2 := (hbn.mono (Y := fun k => k ∈ gs) (fun _ h _ => h.elim)).step Es (fun k hk => Or.inl (by have h := qb hk; exact h ▸ hgm));have R3 : RowsB 55 35 base wA go R n gs (zav W r o) := R2
 have C3 := C2;have X3 := X2;have hWl2 : (zav W r o).length = R := by rw [setW_len]; exact hWl
 obtain ⟨gw, hgw, hrow, hbw, h64, hcw⟩ := R3.get (i := o) (by omega);have hw : ((zav W r o).getD o [])[r / 64]? = some (((zav W r o).getD o []).getD (r / 64) 0) := by
  rw [List.getD_eq_getElem?_getD (i := r / 64), List.getElem?_eq_getElem (by rw [h64.1]; omega)]; rfl
 have hw64 : ((zav W r o).getD o []).getD (r / 64) 0 < 2 ^ 64 := h64.get;have hpw : 2 ^ (r % 64) < 2 ^ 64 := Nat.pow_lt_pow_right (by decide) (Nat.mod_lt _ (by decide));refine rnx (zm (zcz gn (zdx 13 rfl ?_)));refine vx (No) Mut.none_ [] [] (xx [Fx.of (.slice (some ⟨go, 0, none⟩) R R),
  Fx.of (.int .i64 ((o : Nat) : Int)),
  Fx.of (.pointer (some ⟨go, 0 + o, none⟩)),
  Fx.of (.slice (some ⟨gw, 0, none⟩) n n),
  Fx.of (.int .i64 ((r : Nat) : Int)),
  Fx.of (.int .i64 ((r / 64 : Nat) : Int)),
  Fx.of (.pointer (some ⟨gw, 0 + r / 64, none⟩)),
  Fx.of (.int .u64 ((((zav W r o).getD o []).getD (r / 64) 0 : Nat) : Int)),
  Fx.of (.int .i64 ((r : Nat) : Int)),
  Fx.of (.int .i64 ((r % 64 : Nat) : Int)),
  Fx.of (.int .u64 ((2 ^ (r % 64) : Nat) : Int)),
  Fx.of (.int .u64 ((((zav W r o).getD o []).getD (r / 64) 0 ||| 2 ^ (r % 64) : Nat) : Int)),
  Fx.of (.pointer (some ⟨gw, 0 + r / 64, none⟩))]) rfl trivial (fun _ h => by cases h) ?_ ?_
 · refine ⟨?_, ?_, ?_, ?_, ?_, ?_, ?_, ?_, ?_, ?_, ?_, ?_, ?_, trivial⟩
   · intro vs X wq K;have LE := K.1;exact zt Tryd.underlying52 rfl rfl (((ve LE C3).cell 0).trans rfl) ⟨Below.refl _ _, Left.of rfl⟩
   · intro vs X wq K;exact zl rfl ⟨Below.refl _ _, Left.of rfl⟩
   · intro vs X wq K;obtain ⟨_, e0, k0⟩ := K.dep 0 rfl rfl rfl;refine zf 19 (.slice (some ⟨go, 0, none⟩) R R) rfl e0 ?_;obtain ⟨_, e1, k1⟩ := K.dep 1 rfl rfl rfl;refine zf 20 (.int .i64 ((o : Nat) : Int)) rfl e1 ?_;exact zj (j := o) Tryd.underlying52 sz55 rfl rfl rfl (by omega) ⟨Below.refl _ _, Left.of rfl⟩
   · intro vs X wq K;have LE := K.1;obtain ⟨_, e2, k2⟩ := K.dep 2 rfl rfl rfl;refine zf 21 (.pointer (some ⟨go, 0 + o, none⟩)) rfl e2 ?_;exact zt Tryd.underlying55 rfl rfl (by rw [Nat.zero_add]; exact zpx LE hcw) ⟨Below.refl _ _, Left.of rfl⟩
   · intro vs X wq K;exact zl rfl ⟨Below.refl _ _, Left.of rfl⟩
   · intro vs X wq K;obtain ⟨_, e4, k4⟩ := K.dep 4 rfl rfl rfl;refine zf 23 (.int .i64 ((r : Nat) : Int)) rfl e4 ?_;exact zbq rfl rfl (by decide) (show IntKind.i64.wrap (((r : Nat) : Int).tdiv 64) = ((r / 64 : Nat) : Int) from by rw [Int.tdiv_eq_ediv_of_nonneg (by omega)]; exact zy (by omega)) ⟨Below.refl _ _, Left.of rfl⟩
   · intro vs X wq K;obtain ⟨_, e3, k3⟩ := K.dep 3 rfl rfl rfl;refine zf 22 (.slice (some ⟨gw, 0, none⟩) n n) rfl e3 ?_;obtain ⟨_, e5, k5⟩ := K.dep 5 rfl rfl rfl;refine zf 24 (.int .i64 ((r / 64 : Nat) : Int)) rfl e5 ?_;exact zj (j := r / 64) Tryd.underlying55 xv rfl rfl rfl (by omega) ⟨Below.refl _ _, Left.of rfl⟩
   · intro vs X wq K;have LE := K.1;obtain ⟨_, e6, k6⟩ := K.dep 6 rfl rfl rfl;refine zf 25 (.pointer (some ⟨gw, 0 + r / 64, none⟩)) rfl e6 ?_;exact ze Tryd.underlying35 rfl rfl (ve LE hbw) (gu hw) ⟨Below.refl _ _, Left.of rfl⟩
   · intro vs X wq K;exact zl rfl ⟨Below.refl _ _, Left.of rfl⟩
   · intro vs X wq K;obtain ⟨_, e8, k8⟩ := K.dep 8 rfl rfl rfl;refine zf 27 (.int .i64 ((r : Nat) : Int)) rfl e8 ?_;exact zkq rfl rfl (by decide) (show (((r : Nat) : Int).tmod 64) = ((r % 64 : Nat) : Int) from by rw [Int.tmod_eq_emod_of_nonneg (by omega)]; rfl) ⟨Below.refl _ _, Left.of rfl⟩
   · intro vs X wq K;obtain ⟨_, e9, k9⟩ := K.dep 9 rfl rfl rfl;refine zf 28 (.int .i64 ((r % 64 : Nat) : Int)) rfl e9 ?_;exact ow_shl rfl rfl (by omega) (zuv (Nat.mod_lt _ (by decide))) ⟨Below.refl _ _, Left.of rfl⟩
   · intro vs X wq K;obtain ⟨_, e7, k7⟩ := K.dep 7 rfl rfl rfl;refine zf 26 (.int .u64 ((((zav W r o).getD o []).getD (r / 64) 0 : Nat) : Int)) rfl e7 ?_;obtain ⟨_, e10, k10⟩ := K.dep 10 rfl rfl rfl;refine zf 29 (.int .u64 ((2 ^ (r % 64) : Nat) : Int)) rfl e10 ?_;exact ow_or rfl rfl (or_u64 hw64 hpw) ⟨Below.refl _ _, Left.of rfl⟩
   · intro vs X wq K;obtain ⟨_, e3, k3⟩ := K.dep 3 rfl rfl rfl;refine zf 22 (.slice (some ⟨gw, 0, none⟩) n n) rfl e3 ?_;obtain ⟨_, e5, k5⟩ := K.dep 5 rfl rfl rfl;refine zf 24 (.int .i64 ((r / 64 : Nat) : Int)) rfl e5 ?_;exact zj (j := r / 64) Tryd.underlying55 xv rfl rfl rfl (by omega) ⟨Below.refl _ _, Left.of rfl⟩
 intro vs w2 LE AO AL AF AA;have hbd : Below (wA).heap.size (wA) w2 := (((Ext.refl No (wA)).drew).trans LE).toBelow;obtain ⟨_, e11, k11⟩ := AL.2.2.2.2.2.2.2.2.2.2.2.1;obtain ⟨_, e12, k12⟩ := AL.2.2.2.2.2.2.2.2.2.2.2.2.1
 refine vz (τ := [(5, _), (30, .int .u64 ((((zav W r o).getD o []).getD (r / 64) 0 ||| 2 ^ (r % 64) : Nat) : Int)), (31, .pointer (some ⟨gw, 0 + r / 64, none⟩))]) ⟨rfl, congrArg some e11, congrArg some e12, trivial⟩ ?_;clear AL AF AA AO;refine zoq (kp (by kernel_rfl) (fun _ _ d_ _ _ h => by cases d_ <;> exact h) ?_);have hbn := Ext.of_below hbd No
 have hbw2 := hbw.ext hbn (fun h => h.elim);refine yx (yr xv rfl rfl hbw2 rfl rfl (by rw [List.size_toArray, jh, h64.1]; omega) (show _ = (qt (setR ((zav W r o).getD o []) r)).toArray from by unfold setR; rw [xh, Nat.zero_add, List.setIfInBounds_toArray]) ?_);rintro wB Bs Es;have hgm := List.mem_of_getElem? hgw
 have R2 := (R3.ext hbn (fun h => h.elim) (fun _ _ h => h.elim)).put hgw Bs (zmz h64) Es;have C2 := (C3.ext hbn (fun h => h.elim)).ext Es (fun h => by have h := qb h; exact hcap (h ▸ hgm));have X2 := (hbn.mono (Y := fun k => k ∈ gs) (fun _ h _ => h.elim)).step Es (fun k hk => Or.inl (by have h := qb hk; exact h ▸ hgm))
 refine rnx (srx (anx rfl (yc (yb (rs := [.tmp 5]) (vs := [_]) rfl ⟨rfl, trivial⟩ ?_))));exact ⟨rfl, X3.step X2 (fun _ h => Or.inl h), R2⟩
end
end Go.Proofs.YtppdgjlmeahimaaDoor
namespace Go.Proofs.YtppdgjlmeahimaaDoor
open Go.RowKit
set_option maxRecDepth 100000
section
variable {w w' : World} {X : Nat → Prop} {base base' n n' s s' : Nat} {e e' : TypeId} {v v' : Value} {xs xs' : List Value}
theorem xf {a : Option Nat} {k : Nat} (h : Mut [a] k) : a = some k := by
 rcases h with h | h
 · exact h.symm
 · exact h.elim
theorem oo {g : Nat} (h : w.ownsRow base e s v n xs) (hg : v.ownBlock = some g) : ∃ cur, Blk w g e cur := by
 rcases h.2 with ⟨rfl, _⟩ | ⟨g', cap, cur, rfl, _, hh, _⟩
 · cases hg
 · obtain rfl : g' = g := by injection hg
   exact ⟨cur, hh⟩
theorem yt (h : w.ownsRow base e s v n xs) (k : Ext X w w') (hn : ∀ g, v.ownBlock = some g → ¬ X g) : w'.ownsRow base e s v n xs := by
 rcases h.2 with h0 | ⟨g, cap, cur, rfl, hb, hh, r⟩
 · exact ⟨h.1, Or.inl h0⟩
 · exact ⟨h.1, Or.inr ⟨g, cap, cur, rfl, hb, Blk.ext (show Blk w g e cur from hh) k (hn g rfl), r⟩⟩
theorem xo {g : Nat} {t t' : TypeId} {cs cs' : Array Value} (h : Blk w g t cs) (h' : Blk w g t' cs') : t = t' := by
 unfold Blk at h h';rw [h] at h';injection h' with h'
 injection h' with h1 h2 h3
theorem vj (h : w.ownsRow base e s v n xs) (h' : w.ownsRow base' e' s' v' n' xs') (hne : e ≠ e') (k : Ext (Mut [v'.ownBlock]) w w') : w'.ownsRow base e s v n xs :=
 yt h k fun g hg hx => by
  obtain ⟨c1, h1⟩ := oo h hg;obtain ⟨c2, h2⟩ := oo h' (xf hx);exact hne (xo h1 h2)
theorem vk {g : Nat} {t : TypeId} {cs : Array Value} (h : Blk w g t cs) (h' : w.ownsRow base' e' s' v' n' xs') (hne : t ≠ e') (k : Ext (Mut [v'.ownBlock]) w w') : Blk w' g t cs :=
 h.ext k fun hx => by
  obtain ⟨c2, h2⟩ := oo h' (xf hx);exact hne (xo h h2)
theorem zo {g : Nat} {t : TypeId} {cs : Array Value} (h : w.ownsRow base e s v n xs) (h' : Blk w g t cs) (hne : e ≠ t) (k : Ext (Mut [some g]) w w') : w'.ownsRow base e s v n xs :=
 yt h k fun g' hg hx => by
  obtain ⟨c1, h1⟩ := oo h hg;obtain rfl : g' = g := qb hx;exact hne (xo h1 h')
end
section
variable {P : Program} {N : Nat} {ops : Array Oper} {Q : Exit → Act → World → Prop} {σ : Env} {w : World} {ty : TypeId} {pos : String} {af : Array Edge} {dst : Option Nat} {Post : Value → World → Prop}
theorem kr {T e : TypeId} {x y : Operand} {z : Value} {size bytes base n n' B m c : Nat} {v : Value} {xs news xs' : List Value} {A : Option Addr} (hd : P.underlying T = some (.slice e)) (hi : kv P e z size bytes) (hzs : z.cells.size = size) (hsz : 0 < size)
 (hx : ev σ x = some v) (hown : w.ownsRow base e size v n xs) (hy : ev σ y = some (.slice A m c)) (hr : Reads w B size A m news) (h1 : ∀ u ∈ news, u.oneCell' = true) (hn : n + m = n') (hxs : xs ++ news = xs') (h63 : n' ≤ maxLen) (hbytes : n' * bytes ≤ 140737488355328) (hbase : base ≤ w.heap.size)
 (k : ∀ A' c' w', w'.ownsRow base e size (.slice A' n' c') n' xs' → Ext (Mut [v.ownBlock]) w w' → (∀ k, (Value.slice A' n' c').ownBlock = some k → v.ownBlock = some k ∨ w.heap.size ≤ k) → Post (.slice A' n' c') w') : OW P N ops Q ⟨dst, .call ⟨.builtin .append, #[x, y], #[T, T]⟩, ty, pos, af, none⟩ σ w Post := by
 subst hn hxs;refine jf hd hi hzs hsz hx hown hy hr h1 h63 hbytes hbase fun v' w' g1 g2 g3 => ?_;obtain ⟨A', c', rfl⟩ := vm g1;exact k A' c' w' g1 g2 g3
end
theorem blk_blk {w w' : World} {g g' : Nat} {t t' : TypeId} {cs cs' : Array Value} (h : Blk w g t cs) (h' : Blk w g' t' cs') (hne : t ≠ t') (k : Ext (Mut [some g']) w w') : Blk w' g t cs :=
 h.ext k fun hx => by
  obtain rfl : g = g' := qb hx;exact hne (xo h h')
theorem own_ge {w : World} {b n s : Nat} {e : TypeId} {v : Value} {xs : List Value} (h : w.ownsRow b e s v n xs) : ∀ q, Mut [v.ownBlock] q → b ≤ q := fun q hq => jv h q (xf hq)
/-! ### a function that grows -/
def fcs (R : Int) (gc : Nat) (A : Option Addr) (c cap : Nat) : Array Value := #[.string ⟨#[]⟩, .int .i64 0, .int .i64 R, .int .i64 0, .bool false, .int .i64 0, .slice none 0 0, .slice (some ⟨gc, 0, none⟩) 1 1, .slice A c cap, .slice none 0 0]
abbrev isOwn (w : World) (b : Nat) (x : LIns × Option Addr × Nat) : Prop := w.ownsRow b 3 1 (.slice x.2.1 x.1.l.length x.2.2) x.1.l.length (yq x.1.l)
structure ApM (b b2 gf gc : Nat) (R : Int) (is : List (LIns × Option Addr × Nat)) (A : Option Addr) (cap : Nat) (w : World) : Prop where
 f : Blk w gf 27 (fcs R gc A is.length cap)
 c : Blk w gc 37 #[.int .i64 1, .string ⟨#[49]⟩]
 i : w.ownsRow b 41 7 (.slice A is.length cap) is.length (kg is)
 l : ∀ x ∈ is, isOwn w b x
 lt : ∀ x ∈ is, ∀ g, (Value.slice x.2.1 x.1.l.length x.2.2).ownBlock = some g → g < b2
section
variable {b b2 gf gc : Nat} {R : Int} {is : List (LIns × Option Addr × Nat)} {A : Option Addr} {cap : Nat} {w w' : World} {X : Nat → Prop}
theorem ApM.ext (h : ApM b b2 gf gc R is A cap w) (k : Ext X w w') (hX : ∀ q, X q → q < b2 → False) (hf : ¬ X gf) (hc : ¬ X gc) (hi : ∀ q, (Value.slice A is.length cap).ownBlock = some q → ¬ X q) : ApM b b2 gf gc R is A cap w' :=
 ⟨h.f.ext k hf, h.c.ext k hc, yt h.i k hi, fun x hx => yt (h.l x hx) k fun g hg hq => hX g hq (h.lt x hx g hg), h.lt⟩
theorem ApM.no (h : ApM b b2 gf gc R is A cap w) (k : Ext No w w') : ApM b b2 gf gc R is A cap w' := h.ext k (fun _ h => h.elim) (fun h => h.elim) (fun h => h.elim) fun _ _ h => h.elim
theorem ApM.up {b3 : Nat} (h : ApM b b2 gf gc R is A cap w) (hb : b2 ≤ b3) : ApM b b3 gf gc R is A cap w := ⟨h.f, h.c, h.i, h.l, fun x hx g hg => Nat.lt_of_lt_of_le (h.lt x hx g hg) hb⟩
theorem ApM.ints {n s : Nat} {v : Value} {xs : List Value} (h : ApM b b2 gf gc R is A cap w) (h' : w.ownsRow b2 3 s v n xs) (k : Ext (Mut [v.ownBlock]) w w') : ApM b b2 gf gc R is A cap w' :=
 ⟨vk h.f h' (by decide) k, vk h.c h' (by decide) k, vj h.i h' (by decide) k, fun x hx => yt (h.l x hx) k fun g hg hq => by
  have h1 := h.lt x hx g hg;have h2 := jv h' g (xf hq);omega, h.lt⟩
theorem ApM.put {x : LIns × Option Addr × Nat} {A' : Option Addr} {c' : Nat} {w1 w2 : World} (h : ApM b b2 gf gc R is A cap w) (hx : isOwn w b x) (hlt : ∀ g, (Value.slice x.2.1 x.1.l.length x.2.2).ownBlock = some g → g < b2)
 (h1 : w1.ownsRow b 41 7 (.slice A' (is.length + 1) c') (is.length + 1) (kg is ++ gh x.1 x.2.1 x.2.2)) (k1 : Ext (Mut [(Value.slice A is.length cap).ownBlock]) w w1) (h2 : Blk w2 gf 27 (fcs R gc A' (is.length + 1) c')) (k2 : Ext (Mut [some gf]) w1 w2) : ApM b b2 gf gc R (is ++ [x]) A' c' w2 := by
 have hlen : (is ++ [x]).length = is.length + 1 := by rw [List.length_append]; rfl
 have hf1 := vk h.f h.i (by decide) k1;have hc1 := vk h.c h.i (by decide) k1;refine ⟨by rw [hlen]; exact h2, hc1.ext k2 fun hq => ?_, ?_, fun y hy => ?_, fun y hy => ?_⟩
 · have := qb hq; subst this;exact absurd (xo hc1 hf1) (by decide)
 · rw [hlen];have e : kg (is ++ [x]) = kg is ++ gh x.1 x.2.1 x.2.2 := by unfold kg; rw [List.flatMap_append]; simp
   rw [e];exact zo h1 hf1 (by decide) k2
 · rcases List.mem_append.1 hy with hy | hy
   · exact zo (vj (h.l y hy) h.i (by decide) k1) hf1 (by decide) k2
   · rw [List.mem_singleton.1 hy];exact zo (vj hx h.i (by decide) k1) hf1 (by decide) k2
 · rcases List.mem_append.1 hy with hy | hy
   · exact h.lt y hy
   · rw [List.mem_singleton.1 hy]; exact hlt
end
theorem ApM.fn {b b2 gf gc : Nat} {R : Int} {is : List (LIns × Option Addr × Nat)} {A : Option Addr} {cap : Nat} {w : World} {f : LFn} (h : ApM b b2 gf gc R is A cap w) (hf : f = ⟨⟨#[]⟩, 0, R, 0, false, 0, [], [(1, ⟨#[49]⟩)], is.map (·.1), []⟩) (hR : I64 R) (hl : 72 * is.length ≤ 140737488351232) (h0 : 0 < is.length) (hi : ∀ x ∈ is, InsI x.1 ∧ 8 * x.1.l.length ≤ 140737488351232 ∧ ∀ y ∈ x.1.l, I64 y) : FnA w.heap.size w ⟨none, 0, some ⟨gc, 0, none⟩, 1, A, cap, none, 0⟩ f := by
 subst hf;obtain ⟨g, rfl, hb, hg, hc⟩ := xz h.i h0;have h00 : I64 0 := by decide
 refine ⟨h00, hR, h00, h00, show (⟨#[]⟩ : ByteArray).size ≤ maxLen by decide, StrsA.nil _ _ _, cons_one h.c.lt h.c (by decide) (by decide), ?_, RegsA.nil _ _ _, Nat.le_refl _⟩;exact insA_of hg hc hl fun x hx => ⟨(hi x hx).1, (hi x hx).2.1, OwnsI.ints (h.l x hx) (by have := (hi x hx).2.1; omega) (hi x hx).2.2⟩
abbrev GR (α : Type) := Option Addr × Nat × List α
def grV {α : Type} (r : GR α) : Value := .slice r.1 r.2.2.length r.2.1
structure GrowB {α : Type} (en : α → List Value) (te e : TypeId) (s base g : Nat) (rows : List (GR α)) (w : World) : Prop where
 out : Blk w g te (rows.map grV).toArray
 own : ∀ r ∈ rows, w.ownsRow base e s (grV r) r.2.2.length (r.2.2.flatMap en)
 apart : ∀ (i j : Nat) ri rj, rows[i]? = some ri → rows[j]? = some rj → i ≠ j → ∀ k, (grV ri).ownBlock = some k → (grV rj).ownBlock ≠ some k
section
variable {α : Type} {en : α → List Value} {te e : TypeId} {s base g : Nat} {rows : List (GR α)} {w w' : World} {X : Nat → Prop}
theorem GrowB.nil (R : Nat) (h : Blk w g te (List.replicate R (.slice none 0 0)).toArray) : GrowB en te e s base g (List.replicate R (none, 0, [])) w := by
 refine ⟨by rw [List.map_replicate]; exact h, fun r hr => ?_, fun i j ri rj hi _ _ k hk => ?_⟩
 · rw [List.eq_of_mem_replicate hr]; exact vg
 · have := List.eq_of_mem_replicate (List.mem_of_getElem? hi);subst this;cases hk
theorem GrowB.ext (h : GrowB en te e s base g rows w) (k : Ext X w w') (hg : ¬ X g) (hr : ∀ r ∈ rows, ∀ q, (grV r).ownBlock = some q → ¬ X q) : GrowB en te e s base g rows w' :=
 ⟨h.out.ext k hg, fun r hr' => yt (h.own r hr') k (hr r hr'), h.apart⟩
theorem GrowB.no (h : GrowB en te e s base g rows w) (k : Ext No w w') : GrowB en te e s base g rows w' := h.ext k (fun h => h.elim) fun _ _ _ _ h => h.elim
theorem GrowB.other {base' n' s' : Nat} {e' : TypeId} {v' : Value} {xs' : List Value} (h : GrowB en te e s base g rows w) (h' : w.ownsRow base' e' s' v' n' xs') (h1 : te ≠ e') (h2 : e ≠ e') (k : Ext (Mut [v'.ownBlock]) w w') : GrowB en te e s base g rows w' :=
 ⟨vk h.out h' h1 k, fun r hr => vj (h.own r hr) h' h2 k, h.apart⟩
theorem GrowB.blk {g' : Nat} {t : TypeId} {cs : Array Value} (h : GrowB en te e s base g rows w) (h' : Blk w g' t cs) (h1 : te ≠ t) (h2 : e ≠ t) (k : Ext (Mut [some g']) w w') : GrowB en te e s base g rows w' :=
 ⟨blk_blk h.out h' h1 k, fun r hr => zo (h.own r hr) h' h2 k, h.apart⟩
theorem GrowB.cell (h : GrowB en te e s base g rows w) {i : Nat} {r : GR α} (hi : rows[i]? = some r) : w.cell? ⟨g, i, none⟩ = some (grV r) := by
 rw [h.out.cell, List.getElem?_toArray, List.getElem?_map, hi]; rfl
theorem GrowB.lt (h : GrowB en te e s base g rows w) {r : GR α} (hr : r ∈ rows) {k : Nat} (hk : (grV r).ownBlock = some k) : k < w.heap.size := jj (h.own r hr) k hk
theorem GrowB.put {i : Nat} {r r' : GR α} {w1 w2 : World} (h : GrowB en te e s base g rows w) (hi : rows[i]? = some r) (hne : te ≠ e)
 (h1 : w1.ownsRow base e s (grV r') r'.2.2.length (r'.2.2.flatMap en)) (k1 : Ext (Mut [(grV r).ownBlock]) w w1) (hnew : ∀ k, (grV r').ownBlock = some k → (grV r).ownBlock = some k ∨ w.heap.size ≤ k)
 (h2 : Blk w2 g te ((rows.set i r').map grV).toArray) (k2 : Ext (Mut [some g]) w1 w2) : GrowB en te e s base g (rows.set i r') w2 := by
 have hil := (List.getElem?_eq_some_iff.1 hi).1;have hrm := List.mem_of_getElem? hi;have hb1 := vk h.out (h.own r hrm) hne k1;have hsub : ∀ (j : Nat) (rj : GR α), (rows.set i r')[j]? = some rj → (j = i ∧ rj = r') ∨ (j ≠ i ∧ rows[j]? = some rj) := fun j rj hj => by
  rw [List.getElem?_set] at hj;by_cases hij : i = j
  · subst hij;rw [if_pos rfl, if_pos hil] at hj;exact Or.inl ⟨rfl, (Option.some.inj hj).symm⟩
  · rw [if_neg hij] at hj;exact Or.inr ⟨fun e => hij e.symm, hj⟩
 refine ⟨h2, fun x hx => ?_, fun a b ra rb ha hb hab k hk hk2 => ?_⟩
 · obtain ⟨j, hj⟩ := List.mem_iff_getElem?.1 hx;rcases hsub j x hj with ⟨_, rfl⟩ | ⟨hji, hj⟩
   · exact zo h1 hb1 (Ne.symm hne) k2
   · refine zo (yt (h.own x (List.mem_of_getElem? hj)) k1 fun q hq hm => ?_) hb1 (Ne.symm hne) k2;exact h.apart j i x r hj hi hji q hq (xf hm)
 · rcases hsub a ra ha with ⟨rfl, rfl⟩ | ⟨hai, ha3⟩
   · rcases hsub b rb hb with ⟨rfl, _⟩ | ⟨hbi, hb⟩
     · exact hab rfl
     · rcases hnew k hk with h3 | h3
       · exact h.apart _ _ r rb hi hb hab k h3 hk2
       · have := h.lt (List.mem_of_getElem? hb) hk2;omega
   · rcases hsub b rb hb with ⟨rfl, hrb⟩ | ⟨hbi, hb⟩
     · rw [hrb] at hk2;rcases hnew k hk2 with h3 | h3
       · exact h.apart _ _ r ra hi ha3 (Ne.symm hab) k h3 hk
       · have := h.lt (List.mem_of_getElem? ha3) hk;omega
     · exact h.apart a b ra rb ha3 hb hab k hk hk2
end
abbrev BRow := List (Nat × List Int)
def BOk (f : LFn) (B : List BRow) : Prop := ∀ (t a : Nat) (ws : List Int), (a, ws) ∈ B.getD t [] ↔ ∃ i, f.ins[a]? = some i ∧ (((t : Nat) : Int), ws) ∈ vf f a i
def DOk (f : LFn) (D : List Nat) (r : Nat) : Prop := ∀ a, a ∈ D ↔ ∃ i, f.ins[a]? = some i ∧ ((r : Nat) : Int) ∈ yg i
structure SprJ (f : LFn) (B : List BRow) (D : List Nat) (r : Nat) (W0 W : List (List Nat)) (T : List Nat) (lim : Nat → Nat → Prop) : Prop where
 other : ∀ a q, q ≠ r → vb W a q = vb W0 a q
 sound : ∀ a, vb W a r = true → Liv f a r
 soundT : ∀ a ∈ T, Liv f a r
 read : ∀ a ∈ D, vb W a r = true ∨ a ∈ T
 close : ∀ (a j : Nat) x, vb W a r = true → (B.getD a [])[j]? = some x → ¬ lim a j → ((r : Nat) : Int) ∉ x.2 → vb W x.1 r = true ∨ x.1 ∈ T
abbrev SprI (f : LFn) (B : List BRow) (D : List Nat) (r : Nat) (W0 W : List (List Nat)) (T : List Nat) : Prop := SprJ f B D r W0 W T (fun _ _ => False)
section
variable {f : LFn} {B : List BRow} {D : List Nat} {r : Nat} {W0 W : List (List Nat)} {T : List Nat} {N n at_ : Nat}
theorem SprJ.set (h : SprI f B D r W0 W (T ++ [at_])) (hW : Rows64 W N n) (ha : at_ < N) (hr : r < 64 * n) : SprJ f B D r W0 (zav W at_ r) T (fun a j => a = at_ ∧ 0 ≤ j) := by
 have hbit := zsk hW ha hr;have key : ∀ a, vb W a r = true ∨ a ∈ T ++ [at_] → vb (zav W at_ r) a r = true ∨ a ∈ T := fun a ha => by
  rcases ha with ha | ha
  · exact Or.inl (by rw [hbit, ha]; rfl)
  · rcases List.mem_append.1 ha with ha | ha
    · exact Or.inr ha
    · rw [List.mem_singleton.1 ha]; exact Or.inl (by rw [hbit]; simp)
 refine ⟨fun a q hq => ?_, fun a h1 => ?_, fun a ha => h.soundT a (List.mem_append_left _ ha), fun a ha => key a (h.read a ha), fun a j x h1 h2 h3 h4 => ?_⟩
 · rw [hbit, h.other a q hq]; simp [hq]
 · rw [hbit] at h1;by_cases e : a = at_
   · subst e; exact h.soundT a (by simp)
   · simp [e] at h1; exact h.sound a h1
 · by_cases e : a = at_
   · exact absurd ⟨e, Nat.zero_le _⟩ h3
   · refine key _ (h.close a j x ?_ h2 (fun h => h) h4);rw [hbit] at h1;simpa [e] using h1
theorem SprJ.skip {k : Nat} {x : Nat × List Int} (h : SprJ f B D r W0 W T (fun a j => a = at_ ∧ k ≤ j)) (hx : (B.getD at_ [])[k]? = some x) (hr : ((r : Nat) : Int) ∈ x.2) : SprJ f B D r W0 W T (fun a j => a = at_ ∧ k + 1 ≤ j) :=
 ⟨h.other, h.sound, h.soundT, h.read, fun a j y h1 h2 h3 h4 => by
  by_cases e : a = at_ ∧ j = k
  · obtain ⟨rfl, rfl⟩ := e;rw [hx] at h2;obtain rfl := Option.some.inj h2;exact absurd hr h4
  · exact h.close a j y h1 h2 (fun h => h3 ⟨h.1, by have := h.2; omega⟩) h4⟩
theorem SprJ.push {k : Nat} {x : Nat × List Int} (hB : BOk f B) (h : SprJ f B D r W0 W T (fun a j => a = at_ ∧ k ≤ j)) (hx : (B.getD at_ [])[k]? = some x) (hr : ((r : Nat) : Int) ∉ x.2) (hl : Liv f at_ r) : SprJ f B D r W0 W (T ++ [x.1]) (fun a j => a = at_ ∧ k + 1 ≤ j) := by
 have key : ∀ a, vb W a r = true ∨ a ∈ T → vb W a r = true ∨ a ∈ T ++ [x.1] := fun a ha => ha.imp id fun h => List.mem_append_left _ h;refine ⟨h.other, h.sound, fun a ha => ?_, fun a ha => key a (h.read a ha), fun a j y h1 h2 h3 h4 => ?_⟩
 · rcases List.mem_append.1 ha with ha | ha
   · exact h.soundT a ha
   · rw [List.mem_singleton.1 ha];obtain ⟨i, hi, hw⟩ := (hB at_ x.1 x.2).1 (List.mem_of_getElem? hx);exact Liv.back hi hw hr hl
 · by_cases e : a = at_ ∧ j = k
   · obtain ⟨rfl, rfl⟩ := e;rw [hx] at h2;obtain rfl := Option.some.inj h2;exact Or.inr (by simp)
   · exact key _ (h.close a j y h1 h2 (fun h => h3 ⟨h.1, by have := h.2; omega⟩) h4)
theorem SprJ.done {k : Nat} (h : SprJ f B D r W0 W T (fun a j => a = at_ ∧ k ≤ j)) (hk : (B.getD at_ []).length ≤ k) : SprI f B D r W0 W T :=
 ⟨h.other, h.sound, h.soundT, h.read, fun a j y h1 h2 _ h4 => h.close a j y h1 h2 (fun e => by
  obtain ⟨rfl, e⟩ := e;have := (List.getElem?_eq_some_iff.1 h2).1;omega) h4⟩
theorem SprJ.live (hB : BOk f B) (hD : DOk f D r) (h : SprI f B D r W0 W []) (a : Nat) : vb W a r = true ↔ Liv f a r := by
 refine ⟨h.sound a, fun hl => ?_⟩;have := zrq (f := f) (B := fun a q => q = r → vb W a r = true) (fun a i q hi hq e => ?_) (fun a i t ws q hi hw hq hb e => ?_) hl rfl
 · exact this
 · subst e;rcases h.read a ((hD a).2 ⟨i, hi, hq⟩) with h1 | h1
   · exact h1
   · cases h1
 · subst e;obtain ⟨j, hj⟩ := List.mem_iff_getElem?.1 ((hB t a ws).2 ⟨i, hi, hw⟩);rcases h.close t j (a, ws) (hb rfl) hj (fun h => h) hq with h1 | h1
   · exact h1
   · cases h1
end
/-! ### how much is left -/
def unsetU (N : Nat) (B : List BRow) (W : List (List Nat)) (r : Nat) : Nat := sumR ((List.range N).map fun a => if vb W a r = true then 0 else (B.getD a []).length)
/-! ### memory: what is written holds words only -/
def IsU (w : World) (k : Nat) : Prop := ∃ x, Blk w k 35 (qt x).toArray
structure LowU (n : Nat) (X : Nat → Prop) (w w' : World) : Prop where
 e : Ext X w w'
 x : ∀ k, X k → n ≤ k ∨ IsU w k
theorem LowU.cell {n : Nat} {X : Nat → Prop} {w w' : World} (h : LowU n X w w') {g o : Nat} {v : Value} (hg : g < n) (hc : w.cell? ⟨g, o, none⟩ = some v) (hv : ∀ z, v ≠ .int .u64 z) : w'.cell? ⟨g, o, none⟩ = some v := by
 refine (h.e.cell (World.block_lt_of_cell? w _ hc) (fun hx => ?_)).trans hc;rcases h.x _ hx with h1 | ⟨x, h1⟩
 · have h1 : n ≤ g := h1; omega
 · have h1 : Blk w g 35 (qt x).toArray := h1;rw [h1.cell, List.getElem?_toArray] at hc;unfold qt at hc;rw [List.getElem?_map] at hc;cases hx : x[o]? with
   | none => rw [hx] at hc; cases hc
   | some y =>
    rw [hx] at hc;exact hv _ (Option.some.inj hc).symm
def BackA (n : Nat) (w : World) (A : Option Addr) (row : BRow) : Prop := RowS n w 2 (fun w g o (x : Nat × List Int) => ∃ C c, IntsA n w C x.2 ∧ xu w g o [.int .i64 ((x.1 : Nat) : Int), .slice C x.2.length c]) A row
def BacksA (n : Nat) (w : World) (A : Option Addr) (B : List BRow) : Prop := RowS n w 1 (fun w g o (row : BRow) => ∃ C c, BackA n w C row ∧ w.cell? ⟨g, o, none⟩ = some (.slice C row.length c)) A B
end Go.Proofs.YtppdgjlmeahimaaDoor
namespace Go.Proofs.YtppdgjlmeahimaaDoor
open Go.RowKit
set_option maxRecDepth 100000
attribute [local irreducible] OW RS
def natV (T : List Nat) : List Value := T.map fun a => .int .i64 ((a : Nat) : Int)
abbrev SprX (gs : List Nat) (m : Nat) : Nat → Prop := fun k => k ∈ gs ∨ m ≤ k
theorem RowsB.other {b0 go N n m e s q : Nat} {gs : List Nat} {W : List (List Nat)} {w z : World} {v : Value} {xs : List Value} (h : RowsB 55 35 b0 w go N n gs W) (ho : w.ownsRow m e s v q xs) (h1 : e ≠ 35) (h2 : e ≠ 55) (k : Ext (Mut [v.ownBlock]) w z) : RowsB 55 35 b0 z go N n gs W :=
 h.ext k (fun hx => by
  obtain ⟨c, hc⟩ := oo ho (xf hx);exact h2 (xo hc h.out)) fun g hg hx => by
  obtain ⟨c, hc⟩ := oo ho (xf hx);obtain ⟨i, hi⟩ := List.mem_iff_getElem?.1 hg;obtain ⟨x, _, hb, _⟩ := h.at hi;exact h1 (xo hc hb)
section
variable (f : LFn) (w : World) (b0 go gb N n : Nat) (gs : List Nat) (W0 : List (List Nat)) (B : List BRow) (hR : RowsB 55 35 b0 w go N n gs W0) (hWl : W0.length = N) (hN : f.ins.length = N) (hn : n ≤ 1024) (hb0 : b0 ≤ w.heap.size)
 (hBA : BacksA w.heap.size w (some ⟨gb, 0, none⟩) B) (hBl : B.length = N) (hBok : BOk f B) (hs : qp f = true)
 (r : Nat) (hr : r < 64 * n) (h0 : ∀ a, vb W0 a r = false) (D : List Nat) (A0 : Option Addr) (c0 : Nat) (hDA : IntsA w.heap.size w A0 (D.map fun (a : Nat) => (a : Int))) (hD : DOk f D r) (hK : D.length + unsetU N B W0 r ≤ 8796093022208)
include hR hWl hN hn hb0 hBA hBl hBok hs hr h0 hDA hD hK
end
end Go.Proofs.YtppdgjlmeahimaaDoor
namespace Go.Proofs.YtppdgjlmeahimaaDoor
open Go.RowKit
set_option maxRecDepth 100000
attribute [local irreducible] OW RS
structure WaysA (lo n : Nat) (w : World) (A : Option Addr) (ws : List (Int × List Int)) : Prop where
 in_ : ∀ x ∈ ws, I64 x.1
 lo_ : ∀ q q', A = some ⟨q, q', none⟩ → lo ≤ q
 row : RowS n w 2 (fun w g o (x : Int × List Int) => ∃ B c, IntsA n w B x.2 ∧ (∀ q q', B = some ⟨q, q', none⟩ → lo ≤ q) ∧ xu w g o [.int .i64 x.1, .slice B x.2.length c]) A ws
theorem WaysA.low {lo n : Nat} {X : Nat → Prop} {w w' : World} {A : Option Addr} {ws : List (Int × List Int)} (h : WaysA lo n w A ws) (k : Low n X w w') : WaysA lo n w' A ws := ⟨h.in_, h.lo_, h.row.low fun _ _ _ hg hc => by
 obtain ⟨B, c, h1, h3, h2⟩ := hc;exact ⟨B, c, h1.low k, h3, k.cells hg h2⟩⟩
def RetWays (w : World) (ws : List (Int × List Int)) : Ending → World → Prop := fun e w' => ∃ A c, e = .returned (.slice A ws.length c) ∧ WaysA w.heap.size w'.heap.size w' A ws ∧ Below w.heap.size w w'
def EncW (lo : Nat) (w : World) (vs : List Value) (ws : List (Int × List Int)) : Prop := ∀ (j : Nat) x, ws[j]? = some x → I64 x.1 ∧ ∃ B c, IntsA w.heap.size w B x.2 ∧ (∀ q q', B = some ⟨q, q', none⟩ → lo ≤ q) ∧ vs[2 * j]? = some (.int .i64 x.1) ∧ vs[2 * j + 1]? = some (.slice B x.2.length c)
section
variable (w : World) (p : Pl) (f : LFn) (n0 : Nat) (hF : FnA n0 w p f)
include hF
end
end Go.Proofs.YtppdgjlmeahimaaDoor
namespace Go.Proofs.YtppdgjlmeahimaaDoor
open Go.RowKit
set_option maxRecDepth 100000
/-! ### things gathered under numbers -/
section
variable {β : Type} {it : Nat → List (Int × β)} {a k N : Nat} {L : List (List β)}
def Prog (it : Nat → List (Int × β)) (a k : Nat) (L : List (List β)) : Prop := ∀ (t : Nat) y, y ∈ L.getD t [] ↔ ∃ a' j, (it a')[j]? = some (((t : Nat) : Int), y) ∧ (a' < a ∨ (a' = a ∧ j < k))
theorem Prog.start (N : Nat) : Prog it 0 0 (List.replicate N []) := fun t y => by
 constructor
 · intro h;rw [List.getD_eq_getElem?_getD, List.getElem?_replicate] at h;split at h <;> cases h
 · rintro ⟨a', j, _, h | h⟩ <;> omega
theorem Prog.step {t : Nat} {y : β} (h : Prog it a k L) (hk : (it a)[k]? = some (((t : Nat) : Int), y)) (ht : t < L.length) : Prog it a (k + 1) (L.set t (L.getD t [] ++ [y])) := fun t' y' => by
 have hg : (L.set t (L.getD t [] ++ [y])).getD t' [] = if t' = t then L.getD t [] ++ [y] else L.getD t' [] := by
  rw [List.getD_eq_getElem?_getD, List.getD_eq_getElem?_getD (i := t'), List.getElem?_set];by_cases e : t = t'
  · subst e; simp [ht]
  · have : ¬ t' = t := fun h => e h.symm;simp [e, this]
 rw [hg];constructor
 · intro hm;by_cases e : t' = t
   · subst e;rw [if_pos rfl] at hm;rcases List.mem_append.1 hm with hm | hm
     · obtain ⟨a', j, h1, h2⟩ := (h t' y').1 hm;exact ⟨a', j, h1, by omega⟩
     · rw [List.mem_singleton.1 hm]; exact ⟨a, k, hk, Or.inr ⟨rfl, by omega⟩⟩
   · rw [if_neg e] at hm;obtain ⟨a', j, h1, h2⟩ := (h t' y').1 hm;exact ⟨a', j, h1, by omega⟩
 · rintro ⟨a', j, h1, h2⟩;by_cases e : a' = a ∧ j = k
   · obtain ⟨rfl, rfl⟩ := e;rw [hk] at h1;have h1 := Option.some.inj h1;have e1 : t' = t := by have := congrArg Prod.fst h1; simp at this; omega
     have e2 : y = y' := congrArg Prod.snd h1;rw [if_pos e1, e2];simp
   · have h3 := (h t' y').2 ⟨a', j, h1, by omega⟩;split
     · rename_i e1
       subst e1;exact List.mem_append_left _ h3
     · exact h3
theorem Prog.next (h : Prog it a k L) (hk : (it a).length ≤ k) : Prog it (a + 1) 0 L := fun t y => by
 rw [h t y];constructor
 · rintro ⟨a', j, h1, h2⟩;exact ⟨a', j, h1, by omega⟩
 · rintro ⟨a', j, h1, h2⟩;refine ⟨a', j, h1, ?_⟩;by_cases e : a' = a
   · subst e;have := (List.getElem?_eq_some_iff.1 h1).1;omega
   · omega
def cnt (it : Nat → List (Int × β)) : Nat → Nat
 | 0 => 0
 | a + 1 => cnt it a + (it a).length
end
/-! ### ways from their ends, readers -/
def itB (f : LFn) (a : Nat) : List (Int × (Nat × List Int)) := match f.ins[a]? with
 | some i => (vf f a i).map fun p => (p.1, (a, p.2))
 | none => []
def itD (f : LFn) (a : Nat) : List (Int × Nat) := match f.ins[a]? with
 | some i => (yg i).map fun r => (r, a)
 | none => []
/-! ### the memory of the first loop -/
theorem IntsA.stay {n : Nat} {X : Nat → Prop} {w w' : World} {A : Option Addr} {xs : List Int} (h : IntsA n w A xs) (k : Ext X w w') (hX : xs ≠ [] → ∀ q q', A = some ⟨q, q', none⟩ → ¬ X q) : IntsA n w' A xs :=
 ⟨h.len, h.in_, fun h0 => by
  obtain ⟨g, o, e, hg, hc⟩ := h.row h0;exact ⟨g, o, e, hg, fun j x hj => (k.cell (World.block_lt_of_cell? w _ (hc j x hj)) (hX h0 g o e)).trans (hc j x hj)⟩⟩
theorem oe {a b : World} {Z : Nat → Prop} {g o : Nat} {v : Value} (h : Ext Z a.drew b) (hz : ¬ Z g) (hc : a.cell? ⟨g, o, none⟩ = some v) : b.cell? ⟨g, o, none⟩ = some v :=
 (((Ext.refl Z _).drew.trans h).cell (World.block_lt_of_cell? _ _ hc) hz).trans hc
abbrev BE := (Nat × List Int) × (Option Addr × Nat)
def enB (x : BE) : List Value := [.int .i64 ((x.1.1 : Nat) : Int), .slice x.2.1 x.1.2.length x.2.2]
def enD (a : Nat) : List Value := [.int .i64 ((a : Nat) : Int)]
def Wr (go gb gd : Nat) (rowsB : List (GR BE)) (rowsD : List (GR Nat)) (k : Nat) : Prop := k = go ∨ k = gb ∨ k = gd ∨ (∃ r ∈ rowsB, (grV r).ownBlock = some k) ∨ ∃ r ∈ rowsD, (grV r).ownBlock = some k
structure DM (b go gb gd g1 N n : Nat) (fv : Array Value) (gs : List Nat) (Q : List (List Nat)) (rowsB : List (GR BE)) (rowsD : List (GR Nat)) (w : World) : Prop where
 q : RowsB 55 35 b w go N n gs Q
 bk : GrowB enB 78 82 2 b gb rowsB w
 rd : GrowB enD 28 3 1 b gd rowsD w
 fb : Blk w g1 27 fv
 ent : ∀ rb ∈ rowsB, ∀ x ∈ rb.2.2, IntsA w.heap.size w x.2.1 x.1.2
 ap : ∀ k, Wr go gb gd rowsB rowsD k → ∀ rb ∈ rowsB, ∀ x ∈ rb.2.2, x.1.2 ≠ [] → ∀ q', x.2.1 ≠ some ⟨k, q', none⟩
section
variable {b go gb gd g1 N n : Nat} {fv : Array Value} {gs : List Nat} {Q : List (List Nat)} {rowsB : List (GR BE)} {rowsD : List (GR Nat)} {w w1 w2 : World}
theorem DM.no (h : DM b go gb gd g1 N n fv gs Q rowsB rowsD w) (k : Ext No w w1) : DM b go gb gd g1 N n fv gs Q rowsB rowsD w1 :=
 ⟨h.q.ext k (fun h => h.elim) (fun _ _ h => h.elim), h.bk.no k, h.rd.no k, h.fb.ext k (fun h => h.elim), fun rb hr x hx => ((h.ent rb hr x hx).stay k (fun _ _ _ _ h => h.elim)).up k.size, h.ap⟩
end
end Go.Proofs.YtppdgjlmeahimaaDoor
namespace Go.Proofs.YtppdgjlmeahimaaDoor
open Go.RowKit
set_option maxRecDepth 100000
attribute [local irreducible] OW RS
def LB (rowsB : List (GR BE)) : List BRow := rowsB.map fun r => r.2.2.map (·.1)
def LD (rowsD : List (GR Nat)) : List (List Nat) := rowsD.map (·.2.2)
theorem zoz {α : Type} {en : α → List Value} {s : Nat} (hs : ∀ x, (en x).length = s) : ∀ {xs : List α} {j i : Nat} {y : α} {v : Value}, xs[j]? = some y → (en y)[i]? = some v → (xs.flatMap en)[j * s + i]? = some v
 | [], _, _, _, _, h, _ => by cases h
 | z :: xs, 0, i, y, v, h, hv => by
  obtain rfl := Option.some.inj h;have hi := (List.getElem?_eq_some_iff.1 hv).1;rw [List.flatMap_cons, List.getElem?_append_left (by omega), Nat.zero_mul, Nat.zero_add, hv]
 | z :: xs, j + 1, i, y, v, h, hv => by
  have hz := hs z;rw [List.flatMap_cons, List.getElem?_append_right (by rw [hz, Nat.succ_mul]; omega), hz, show (j + 1) * s + i - s = j * s + i by rw [Nat.succ_mul]; omega];exact zoz hs (by simpa using h) hv
theorem BackA.up {n m : Nat} {w : World} {A : Option Addr} {row : BRow} (h : BackA n w A row) (hm : n ≤ m) : BackA m w A row := RowS.up h hm fun g o x hc => by
 obtain ⟨C, c, h1, h2⟩ := hc;exact ⟨C, c, h1.up hm, h2⟩
theorem BacksA.up {n m : Nat} {w : World} {A : Option Addr} {B : List BRow} (h : BacksA n w A B) (hm : n ≤ m) : BacksA m w A B := RowS.up h hm fun g o x hc => by
 obtain ⟨C, c, h1, h2⟩ := hc;exact ⟨C, c, h1.up hm, h2⟩
theorem DM.reads {bz go gb gd g1 N n r : Nat} {fv : Array Value} {gs : List Nat} {Q : List (List Nat)} {rowsB : List (GR BE)} {rowsD : List (GR Nat)} {w : World} {d : GR Nat} (h : DM bz go gb gd g1 N n fv gs Q rowsB rowsD w) (hd : rowsD[r]? = some d) (hl : d.2.2.length ≤ 2097152) (hi : ∀ a ∈ d.2.2, a < 1048576) : IntsA w.heap.size w d.1 (d.2.2.map fun (a : Nat) => (a : Int)) := by
 refine ⟨by rw [List.length_map]; omega, fun x hx => ?_, fun h0 => ?_⟩
 · obtain ⟨a, ha, rfl⟩ := List.mem_map.1 hx;have := hi a ha;unfold I64; omega
 · have h0' : 0 < d.2.2.length := by
    cases he : d.2.2 with
    | nil => rw [he] at h0; exact absurd rfl h0
    | cons => simp
   obtain ⟨g, hA, _, hg, hcs⟩ := jk (h.rd.own d (List.mem_of_getElem? hd)) h0';refine ⟨g, 0, hA, hg, fun i x hx => ?_⟩;rw [List.getElem?_map] at hx;obtain ⟨y, hy, rfl⟩ := Option.map_eq_some_iff.1 hx;rw [Nat.zero_add, Nat.mul_one];exact hcs i _ (by have := zoz (en := enD) (s := 1) (i := 0) (fun _ => rfl) hy rfl; rwa [Nat.mul_one, Nat.add_zero] at this)
section
variable (w : World) (p : Pl) (f : LFn) (n0 : Nat) (hF : FnA n0 w p f) (hs : qp f = true) (hbk : (f.ins.map fun x => x.l.length + 1).sum ≤ 1048576)
include hF hs hbk
end
end Go.Proofs.YtppdgjlmeahimaaDoor
namespace Go.Proofs.YtppdgjlmeahimaaDoor
open Go.RowKit
set_option maxRecDepth 100000
def okP (f : LFn) (i : LIns) (k t w o : Nat) : Prop := Liv f t o ∧ o ≠ w ∧ ¬ (i.op = 4 ∧ k = 0 ∧ ((o : Nat) : Int) = i.a)
def IP (f : LFn) (a0 k0 n0 o0 : Nat) (L : List (List Nat)) : Prop := ∀ w o, o ∈ L.getD w [] ↔ ∃ (a : Nat) (i : LIns) (k t : Nat) (ws : List Int) (nn : Nat), f.ins[a]? = some i ∧ (vf f a i)[k]? = some (((t : Nat) : Int), ws) ∧ ws[nn]? = some ((w : Nat) : Int) ∧ okP f i k t w o ∧ (a < a0 ∨ (a = a0 ∧ (k < k0 ∨ (k = k0 ∧ (nn < n0 ∨ (nn = n0 ∧ o < o0))))))
section
variable {f : LFn} {a0 k0 n0 o0 : Nat} {L : List (List Nat)}
theorem IP.start (R : Nat) : IP f 0 0 0 0 (List.replicate R []) := fun w o => by
 constructor
 · intro h;rw [List.getD_eq_getElem?_getD, List.getElem?_replicate] at h;split at h <;> cases h
 · rintro ⟨a, i, k, t, ws, nn, _, _, _, _, h⟩;omega
theorem IP.no {i : LIns} {t w : Nat} {ws : List Int} (h : IP f a0 k0 n0 o0 L) (hi : f.ins[a0]? = some i) (hk : (vf f a0 i)[k0]? = some (((t : Nat) : Int), ws)) (hn : ws[n0]? = some ((w : Nat) : Int)) (hok : ¬ okP f i k0 t w o0) : IP f a0 k0 n0 (o0 + 1) L := fun w' o => by
 rw [h w' o];constructor
 · rintro ⟨a, i', k, t', ws', nn, h1, h2, h3, h4, h5⟩;exact ⟨a, i', k, t', ws', nn, h1, h2, h3, h4, by omega⟩
 · rintro ⟨a, i', k, t', ws', nn, h1, h2, h3, h4, h5⟩;refine ⟨a, i', k, t', ws', nn, h1, h2, h3, h4, ?_⟩;by_cases e : a = a0 ∧ k = k0 ∧ nn = n0 ∧ o = o0
   · exfalso
     obtain ⟨rfl, rfl, rfl, rfl⟩ := e;rw [hi] at h1;obtain rfl := Option.some.inj h1;rw [hk] at h2;have h2 := Option.some.inj h2;have e1 : ((t : Nat) : Int) = ((t' : Nat) : Int) := congrArg Prod.fst h2;have e2 : ws = ws' := congrArg Prod.snd h2;subst e2;rw [hn] at h3;have e3 : w = w' := by have := Option.some.inj h3; omega
     have e4 : t = t' := by omega
     subst e3; subst e4;exact hok h4
   · omega
end
/-! ### how many -/
def itW (f : LFn) (a : Nat) : List (Int × Unit) := match f.ins[a]? with
 | some i => (vf f a i).flatMap fun p => p.2.map fun q => (q, ())
 | none => []
def preW (ws : List (Int × List Int)) (k : Nat) : Nat := ((ws.take k).flatMap fun p => p.2.map fun (q : Int) => (q, ())).length
end Go.Proofs.YtppdgjlmeahimaaDoor
namespace Go.Proofs.YtppdgjlmeahimaaDoor
open Go.RowKit
set_option maxRecDepth 100000
attribute [local irreducible] OW RS
structure IM (nL go g1 n0 : Nat) (fv : Array Value) (rows : List (GR Nat)) (AL : Option Addr) (W : List (List Nat)) (p : Pl) (f : LFn) (w : World) : Prop where
 g : GrowB enD 28 3 1 nL go rows w
 fb : Blk w g1 27 fv
 live : RowsW nL w AL W
 fn : FnA n0 w p f
 h1 : g1 < nL
 h0 : n0 ≤ nL
 hg : nL ≤ go
def Wi (go : Nat) (rows : List (GR Nat)) (k : Nat) : Prop := k = go ∨ ∃ r ∈ rows, (grV r).ownBlock = some k
section
variable {nL go g1 n0 : Nat} {fv : Array Value} {rows : List (GR Nat)} {AL : Option Addr} {W : List (List Nat)} {p : Pl} {f : LFn} {w w1 w2 : World}
theorem IM.no (h : IM nL go g1 n0 fv rows AL W p f w) (k : Ext No w w1) : IM nL go g1 n0 fv rows AL W p f w1 :=
 ⟨h.g.no k, h.fb.ext k (fun h => h.elim), h.live.low (X := No) ⟨k, fun _ h => h.elim⟩, h.fn.low (X := No) ⟨k, fun _ h => h.elim⟩, h.h1, h.h0, h.hg⟩
theorem IM.wge (h : IM nL go g1 n0 fv rows AL W p f w) {q : Nat} (hq : Wi go rows q) : nL ≤ q := by
 rcases hq with rfl | ⟨r, hr, hq⟩
 · exact h.hg
 · exact jv (h.g.own r hr) q hq
theorem IM.put (h : IM nL go g1 n0 fv rows AL W p f w) {i : Nat} {r r' : GR Nat} (hi : rows[i]? = some r)
 (h1 : w1.ownsRow nL 3 1 (grV r') r'.2.2.length (r'.2.2.flatMap enD)) (k1 : Ext (Mut [(grV r).ownBlock]) w w1) (hnew : ∀ k, (grV r').ownBlock = some k → (grV r).ownBlock = some k ∨ w.heap.size ≤ k)
 (h2 : Blk w2 go 28 ((rows.set i r').map grV).toArray) (k2 : Ext (Mut [some go]) w1 w2) : IM nL go g1 n0 fv (rows.set i r') AL W p f w2 := by
 have hrm := List.mem_of_getElem? hi;have g1' : ∀ q, Mut [(grV r).ownBlock] q → nL ≤ q := fun q hq => h.wge (Or.inr ⟨r, hrm, xf hq⟩);have g2' : ∀ q, Mut [some go] q → nL ≤ q := fun q hq => h.wge (Or.inl (qb hq));have := h.h1;have := h.h0;exact ⟨h.g.put hi (by decide) h1 k1 hnew h2 k2, (h.fb.ext k1 fun hq => by have := g1' _ hq; omega).ext k2 fun hq => by have := g2' _ hq; omega,
  (h.live.low ⟨k1, g1'⟩).low ⟨k2, g2'⟩, (h.fn.low ⟨k1, fun q hq => by have := g1' q hq; omega⟩).low ⟨k2, fun q hq => by have := g2' q hq; omega⟩, h.h1, h.h0, h.hg⟩
end
section
variable (w : World) (p : Pl) (f : LFn) (n0 : Nat) (hF : FnA n0 w p f) (hs : qp f = true) (hbk : (f.ins.map fun x => x.l.length + 1).sum ≤ 1048576)
include hF hs hbk
end
end Go.Proofs.YtppdgjlmeahimaaDoor
namespace Go.Proofs.YtppdgjlmeahimaaDoor
open Go.RowKit
set_option maxRecDepth 100000
attribute [local irreducible] OW RS
section
variable (w : World) (p : Pl) (f : LFn) (n0 : Nat) (hF : FnA n0 w p f) (hbk : (f.ins.map fun x => x.l.length + 1).sum ≤ 1048576) (A : Option Addr) (c n1 : Nat) (m : List Int) (hm : IntsA n1 w A m) (n : Int) (hn1 : n1 ≤ w.heap.size)
include hF hbk hm hn1
end
end Go.Proofs.YtppdgjlmeahimaaDoor
namespace Go.Proofs.YtppdgjlmeahimaaDoor
structure Greedy (f : LFn) (W : List (List Nat)) (ms : List Int) : Prop where
 low : ∀ (r : Nat) (x : Int), ms[r]? = some x → (r : Int) < f.params → x = (r : Int)
 high : ∀ (r : Nat) (x : Int), ms[r]? = some x → f.params ≤ (r : Int) → ∃ least, (least = 0 ∨ least = f.params) ∧ (Liv f 0 r → least = f.params) ∧ FreeP (W.getD r []) (ms.take r) least x
theorem Greedy.le {f : LFn} {W : List (List Nat)} {ms : List Int} (h : Greedy f W ms) (hp : 0 ≤ f.params) {r : Nat} {x : Int} (hx : ms[r]? = some x) : 0 ≤ x ∧ x ≤ (r : Int) := by
 have hr := (List.getElem?_eq_some_iff.1 hx).1;rcases Int.lt_or_le (r : Int) f.params with h1 | h1
 · have := h.low r x hx h1; omega
 · obtain ⟨least, h2, _, h3, _, h4⟩ := h.high r x hx h1;have h0 : 0 ≤ x := by rcases h2 with h2 | h2 <;> omega
   refine ⟨h0, ?_⟩;have := many_in x.toNat 0 (ms.take r) fun i hi => by
    rw [Int.zero_add];rcases Int.lt_or_le (i : Int) least with h5 | h5
    · have h6 : least = f.params := by rcases h2 with h2 | h2 <;> omega
      have h7 : i < ms.length := by omega
      have h8 : ms[i]? = some ms[i] := List.getElem?_eq_getElem h7;have h9 := h.low i _ h8 (by omega);refine List.mem_of_getElem? (i := i) ?_;rw [List.getElem?_take, if_pos (by omega), h8, h9]
    · obtain ⟨o, h6, _⟩ := h4 (i : Int) h5 (by omega);exact List.mem_of_getElem? h6
   rw [List.length_take] at this;omega
theorem greedy_right {f : LFn} {W : List (List Nat)} {ms : List Int} {n : Int} (hs : qp f = true) (hW : ∀ a b, vb W a b = true ↔ (Met f a b ∨ Met f b a)) (h : Greedy f W ms) (hl : (ms.length : Int) = f.regs) (h1 : f.params ≤ n) (h2 : ∀ x ∈ ms, x < n) (h3 : n = f.params ∨ ∃ x ∈ ms, n = x + 1) : jg f ms n := by
 obtain ⟨hr0, hr1, hp0, hp1, hne⟩ := ji hs;have key : ∀ (r o : Nat) (x : Int), r < o → vb W o r = true → ms[r]? = some x → ms[o]? = some x → False := fun r o x hro hb hx hy => by
  rcases Int.lt_or_le (o : Int) f.params with h4 | h4
  · have h5 := h.low r x hx (by omega);have h6 := h.low o x hy h4;omega
  · obtain ⟨least, _, _, _, h5, _⟩ := h.high o x hy h4;exact h5 ⟨r, by rw [List.getElem?_take, if_pos hro]; exact hx, hb⟩
 refine ⟨hs, hl, h1, ?_, fun r x hx => ⟨(h.le hp0 hx).1, h2 x (List.mem_of_getElem? hx), fun h4 => h.low r x hx h4, fun h4 h5 h6 => ?_⟩, fun r o x y hM hx hy hxy => ?_⟩
 · rcases h3 with h3 | ⟨x, hx, h3⟩
   · omega
   · obtain ⟨r, hr, e⟩ := List.getElem_of_mem hx;have := h.le hp0 (List.getElem?_eq_getElem hr);omega
 · obtain ⟨least, _, h7, h8, _⟩ := h.high r x hx h4;have := h7 h6;omega
 · subst hxy;rcases Nat.lt_trichotomy r o with h4 | h4 | h4
   · exact key r o x h4 ((hW o r).2 (Or.inr hM)) hx hy
   · obtain ⟨_, _, _, _, _, _, _, _, _, h5, _⟩ := hM;exact h5 h4.symm
   · exact key o r x h4 ((hW r o).2 (Or.inl hM)) hy hx
theorem Greedy.nil {f : LFn} {W : List (List Nat)} : Greedy f W [] := ⟨fun r x h => by simp at h, fun r x h => by simp at h⟩
theorem Greedy.add {f : LFn} {W : List (List Nat)} {ms : List Int} {x : Int} (h : Greedy f W ms) (h1 : (ms.length : Int) < f.params → x = (ms.length : Int)) (h2 : f.params ≤ (ms.length : Int) → ∃ least, (least = 0 ∨ least = f.params) ∧ (Liv f 0 ms.length → least = f.params) ∧ FreeP (W.getD ms.length []) ms least x) : Greedy f W (ms ++ [x]) := by
 have key : ∀ (r : Nat) (y : Int), (ms ++ [x])[r]? = some y → (r < ms.length ∧ ms[r]? = some y ∧ (ms ++ [x]).take r = ms.take r) ∨ (r = ms.length ∧ y = x ∧ (ms ++ [x]).take r = ms) := fun r y hy => by
  rcases Nat.lt_or_ge r ms.length with h3 | h3
  · rw [List.getElem?_append_left h3] at hy;exact Or.inl ⟨h3, hy, List.take_append_of_le_length (by omega)⟩
  · rw [List.getElem?_append_right h3] at hy;have h4 := (List.getElem?_eq_some_iff.1 hy).1;simp at h4
    have h5 : r = ms.length := by omega
    subst h5;simp at hy
    exact Or.inr ⟨rfl, hy.symm, by simp⟩
 refine ⟨fun r y hy hr => ?_, fun r y hy hr => ?_⟩
 · rcases key r y hy with ⟨_, h4, _⟩ | ⟨rfl, rfl, _⟩
   · exact h.low r y h4 hr
   · exact h1 hr
 · rcases key r y hy with ⟨_, h4, h5⟩ | ⟨rfl, rfl, h5⟩
   · rw [h5]; exact h.high r y h4 hr
   · rw [h5]; exact h2 hr
end Go.Proofs.YtppdgjlmeahimaaDoor
namespace Go.Proofs.YtppdgjlmeahimaaDoor
open Go.RowKit
set_option maxRecDepth 100000
attribute [local irreducible] OW RS
def kj (ms : List Int) (R : Nat) : List Value := yq ms ++ List.replicate (R - ms.length) (.int .i64 0)
theorem zsz {ms : List Int} {R : Nat} (h : ms.length ≤ R) : (kj ms R).length = R := by
 unfold kj yq; simp; omega
theorem zsq {ms : List Int} {R : Nat} {x : Int} (h : ms.length < R) : (kj ms R).set ms.length (.int .i64 x) = kj (ms ++ [x]) R := by
 unfold kj yq;obtain ⟨k, hk⟩ : ∃ k, R - ms.length = k + 1 := ⟨R - ms.length - 1, by omega⟩;have h2 : R - (ms ++ [x]).length = k := by simp; omega
 rw [hk, h2, List.replicate_succ, List.set_append_right _ _ (by simp)];simp
theorem fillV_at {ms : List Int} {R i : Nat} {x : Int} (h : ms[i]? = some x) : (kj ms R)[i]? = some (.int .i64 x) := by
 unfold kj yq;rw [List.getElem?_append_left (by rw [List.length_map]; exact (List.getElem?_eq_some_iff.1 h).1), List.getElem?_map, h]; rfl
theorem fillV_full {ms : List Int} {R : Nat} (h : ms.length = R) : kj ms R = yq ms := by
 unfold kj; rw [h]; simp
theorem fillV_nil (R : Nat) : kj [] R = List.replicate R (.int .i64 0) := by unfold kj yq; simp
def idL (R : Nat) : List Int := (List.range R).map fun (i : Nat) => (i : Int)
theorem zhz (R : Nat) : (idL R).length = R := by simp [idL]
theorem idL_at {R r : Nat} {x : Int} (h : (idL R)[r]? = some x) : x = (r : Int) ∧ r < R := by
 unfold idL at h;rw [List.getElem?_map] at h;cases hr : (List.range R)[r]? with
 | none => rw [hr] at h; cases h
 | some y =>
  rw [hr] at h;obtain ⟨h1, h2⟩ := List.getElem?_eq_some_iff.1 hr;simp at h1 h2
  subst h2;exact ⟨(Option.some.inj h).symm, h1⟩
theorem idL_succ (i : Nat) : idL (i + 1) = idL i ++ [(i : Int)] := by unfold idL; rw [List.range_succ, List.map_append]; rfl
theorem ident_right {f : LFn} (hs : qp f = true) : jg f (idL f.regs.toNat) f.regs := by
 obtain ⟨hr0, hr1, hp0, hp1, hne⟩ := ji hs;refine ⟨hs, by rw [zhz]; omega, hp1, Int.le_refl _, fun r x hx => ?_, fun r o x y hM hx hy hxy => ?_⟩
 · obtain ⟨rfl, h1⟩ := idL_at hx;exact ⟨by omega, by omega, fun _ => rfl, fun h2 h3 => absurd h3 (by omega)⟩
 · obtain ⟨_, _, _, _, _, _, _, _, _, h5, _⟩ := hM;have h6 := (idL_at hx).1;have h7 := (idL_at hy).1;exact h5 (by omega)
def AJ (g10 go R n base : Nat) (gs : List Nat) (D : Nat → Nat → Prop) (w : World) : Prop := Blk w g10 52 #[.slice (some ⟨go, 0, none⟩) R R] ∧ ∃ Q, RowsB 55 35 base w go R n gs Q ∧ Q.length = R ∧ ∀ a b, vb Q a b = true ↔ (D a b ∨ D b a)
theorem assign_each {g10 go R n base : Nat} {gs : List Nat} {w0 : World} (hRn : R ≤ 64 * n) (hn : n ≤ 1024) (hcap : g10 ∉ gs) (h1 : g10 < w0.heap.size) (h2 : go < w0.heap.size) (h3 : ∀ g ∈ gs, g < w0.heap.size) : EachOk 25 #[.pointer (some ⟨g10, 0, none⟩)] R (fun k => k ∈ gs) (AJ g10 go R n base gs) (fun _ _ => False) w0 where
 keep := fun D w w' Y h e hY => by
  obtain ⟨hb, Q, hQ, hl, hbit⟩ := h;exact ⟨hb.ext e (fun h => by have := hY _ h; omega), Q, hQ.ext e (fun h => by have := hY _ h; omega) (fun g hg h => by have := hY _ h; have := h3 g hg; omega), hl, hbit⟩
 call := fun D w r o h _ hr ho => by
  obtain ⟨hb, Q, hQ, hl, hbit⟩ := h;rw [show (#[.int .i64 ((r : Nat) : Int), .int .i64 ((o : Nat) : Int)] ++ #[.pointer (some ⟨g10, 0, none⟩)] : Array Value) = #[.int .i64 ((r : Nat) : Int), .int .i64 ((o : Nat) : Int), .pointer (some ⟨g10, 0, none⟩)] from rfl];have hR64 := zmk hQ hl
  refine (assign1_any w g10 go R n base gs Q hb hQ hl hRn hn hcap r o hr ho).mono fun e w' h => ⟨true, h.1, h.2.1, fun _ => ⟨hb.ext h.2.1 hcap, _, h.2.2, by rw [setW_len, setW_len]; exact hl, fun a b => ?_⟩, fun h => by cases h⟩;rw [zsk (setW_rows hR64 hr) ho (by omega), zsk hR64 hr (by omega), Bool.or_eq_true, Bool.or_eq_true, hbit, decide_eq_true_iff, decide_eq_true_iff]
  constructor
  · rintro (((h | h) | ⟨rfl, rfl⟩) | ⟨rfl, rfl⟩)
    · exact Or.inl (Or.inl h)
    · exact Or.inr (Or.inl h)
    · exact Or.inl (Or.inr ⟨rfl, rfl⟩)
    · exact Or.inr (Or.inr ⟨rfl, rfl⟩)
  · rintro ((h | ⟨rfl, rfl⟩) | (h | ⟨rfl, rfl⟩))
    · exact Or.inl (Or.inl (Or.inl h))
    · exact Or.inl (Or.inr ⟨rfl, rfl⟩)
    · exact Or.inl (Or.inl (Or.inr h))
    · exact Or.inr ⟨rfl, rfl⟩
theorem meets_assign {w : World} {p : Pl} {f : LFn} {n0 b0 cl g10 go R n base : Nat} {AL : Option Addr} {W : List (List Nat)} {gs : List Nat} (hF : FnA n0 w p f) (hs :     qp f = true) (hD : DbT w) (hW : Rows64 W f.ins.length (    jz f)) (hL : ∀ a r,   vb W a r = true ↔ Liv f a r) (hA : RowsW b0 w AL W) (hb0 : n0 ≤ b0) (hdb : 0 < b0)
 (hR : f.regs.toNat = R) (hRn : R ≤ 64 * n) (hn : n ≤ 1024) (hcap : g10 ∉ gs) (hgs : ∀ g ∈ gs, b0 ≤ g) (h4 : Blk w g10 52 #[.slice (some ⟨go, 0, none⟩) R R]) (hQ : RowsB 55 35 base w go R n gs (List.replicate R (List.replicate n 0))) : Calls Tryd.prog 20 #[fnV p f, .slice AL f.ins.length cl, .func (.func 25) #[] #[.pointer (some ⟨g10, 0, none⟩)]] w fun e w' => e = .returned (.bool true) ∧ Ext (fun k => k ∈ gs) w w' ∧ AJ g10 go R n base gs (Met f) w' :=
 (meets_any w p f n0 b0 cl AL W hF hs hD hW hL hA hb0 hdb _ _ (fun k => k ∈ gs) (AJ g10 go R n base gs) (fun _ _ => False) (fun k hk => ⟨hgs k hk, hQ.lt hk⟩) (by rw [hR]; exact assign_each hRn hn hcap h4.lt hQ.out.lt (fun g hg => hQ.lt hg)) en25 ⟨h4, _, hQ, by rw [List.length_replicate], fun a b => by
  constructor
  · intro h;unfold   vb at h;rw [List.getD_eq_getElem?_getD, List.getElem?_replicate] at h;split at h
    · rw [Option.getD_some, bitR_zero] at h; cases h
    · simp [  gk] at h
  · intro h; rcases h with h | h <;> exact h.elim⟩).mono fun e w' h => by
  obtain ⟨hE, h⟩ := h;rcases h with ⟨he, D, hD, hJ⟩ | ⟨_, _, _, _, h⟩
  · have e1 : D = Met f := funext fun a => funext fun b => propext (hD a b);rw [e1] at hJ;exact ⟨he, hE, hJ⟩
  · exact h.elim
theorem u64_blk {w : World} {g n N : Nat} {x : List Nat} (hb : Blk w g 35 (qt x).toArray) (h : Row64 x n) (hn : n ≤ 1024) (hN : g < N) : U64A N w (some ⟨g, 0, none⟩) x :=
 ⟨by rw [h.1]; omega, h.2, fun _ => ⟨g, 0, rfl, hN, fun j y hj => by
  show w.cell? ⟨g, 0 + j * 1, none⟩ = _
  rw [hb.cell, List.getElem?_toArray, Nat.zero_add, Nat.mul_one];exact zqq hj⟩⟩
theorem ints_fill {w : World} {g R N : Nat} {ms : List Int} (hb : Blk w g 3 (kj ms R).toArray) (hl : 8 * ms.length ≤ 140737488355000) (hi : ∀ x ∈ ms, I64 x) (hN : g < N) : IntsA N w (some ⟨g, 0, none⟩) ms :=
 ⟨hl, hi, fun _ => ⟨g, 0, rfl, hN, fun j y hj => by
  show w.cell? ⟨g, 0 + j * 1, none⟩ = _
  rw [hb.cell, List.getElem?_toArray, Nat.zero_add, Nat.mul_one];exact fillV_at hj⟩⟩
def RetAssign (f : LFn) (w : World) : Ending → World → Prop := fun e w' => Below w.heap.size w w' ∧ (qp f = false → e = .returned (.tuple #[.slice none 0 0, .int .i64 0, .int .i64 3])) ∧ (qp f = true → ∃ gm ms n, e = .returned (.tuple #[.slice (some ⟨gm, 0, none⟩) ms.length ms.length, .int .i64 n, .int .i64 0]) ∧ w.heap.size ≤ gm ∧ Blk w' gm 3 (yq ms).toArray ∧ jg f ms n)
section
variable (w : World) (p : Pl) (f : LFn) (n0 : Nat) (hF : FnA n0 w p f) (hD : DbT w)
include hF hD
theorem zlv : Calls Tryd.prog 11 #[fnV p f] w (RetAssign f w) := by
 have hrl := hF.rgs.len;have hil := hF.ins.len;have hn := hF.size;refine qw Tryd.func11 rfl Tryd.ntmps11 rfl (srx (za rfl (vd rfl ?_)));rintro g1 wA B1 E1 G1;have hFA : FnA n0 wA p f := hF.low (X := No) ⟨E1, fun _ h => h.elim⟩;refine avx rfl (avx rfl (anx rfl (srx (za rfl (yf Tryd.underlying27 rfl vq rfl B1 rfl ?_)))));by_cases hs : qp f = true
 ·
  obtain ⟨hr0, hr1, hp0, hp1, hne⟩ := ji hs;obtain ⟨R, hRr⟩ : ∃ R : Nat, f.regs = (R : Int) := ⟨f.regs.toNat, by omega⟩;refine za rfl (ya en19 rfl ((live_yes hFA hs).mono ?_));rintro e w1 ⟨AL, cL, W, rfl, hW, hL, hA, hb⟩;refine ⟨_, rfl, ?_⟩;have E2 := Ext.of_below hb No;obtain ⟨b0, hb0⟩ : ∃ b0, b0 = w1.heap.size := ⟨_, rfl⟩;rw [← hb0] at hA;have B2 := B1.ext E2 (fun h => h.elim)
  refine mvx rfl (za rfl (qj rfl rfl (za rfl (qj rfl rfl (avx rfl (anx rfl (zm (srx (mvx rfl (za rfl (qs rfl rfl (rnx (qz rfl (zq (zh (srx (za rfl (zb Tryd.underlying27 rfl sz3 (by decide) rfl (za rfl (ze Tryd.underlying3 rfl rfl B2 rfl (za rfl (znz (n := R) Tryd.underlying28 inf3 rfl rfl rfl hRr hRr (by omega) (by omega) ?_))))))))))))))))))))))
  rintro gm wB Bm E3 Gm;have B3 := B2.ext E3 (fun h => h.elim);refine anx rfl (zm (srx (za rfl (zb Tryd.underlying27 rfl sz3 (by decide) rfl (za rfl (ze Tryd.underlying3 rfl rfl B3 rfl (za rfl (xc rfl rfl (rnx (zw rfl (fun h3 => ?_) (fun h3 => ?_)))))))))))
  ·
   have h3 := of_decide_eq_true h3;have hz0 : Blk wB gm 3 (kj (idL 0) R).toArray := by rw [show idL 0 = [] from rfl, fillV_nil]; exact Bm
   have hg1m : g1 ≠ gm := by have := B2.lt; omega
   refine zm (srx (mvx rfl (za rfl (yp Tryd.underlying28 rfl (mvx rfl (rnx (zv (qu (ι := Nat) (fun i => [(1, .pointer (some ⟨g1, 0, none⟩)), (7, .slice (some ⟨gm, 0, none⟩) R R), (30, .int .i64 ((R : Nat) : Int)), (31, .int .i64 ((i : Nat) : Int))]) (fun i w' => Ext (Mut [some gm]) wB w' ∧ Blk w' gm 3 (kj (idL i) R).toArray ∧ i ≤ R) (fun i => R - i) 0 ⟨rfl, rfl, rfl, rfl, trivial⟩ (⟨Ext.refl _ _, hz0, Nat.zero_le _⟩) ?_))))))))
   rintro i w3 ⟨hEi, hBi, hiR⟩;refine srx (za rfl (yy rfl rfl (rnx (zm (zw rfl (fun hi => ?_) (fun hi => ?_))))))
   ·
    have hi := of_decide_eq_true hi;have hiR2 : i < R := by omega
    refine zq (zh (zm (zv (srx (mvx rfl (anx rfl (zp (mvx rfl (mvx rfl (mvx rfl (za rfl (zj (j := i) Tryd.underlying28 sz3 rfl rfl rfl hiR2 (yx (yr sz3 rfl rfl hBi rfl rfl (by rw [List.size_toArray, zsz (by rw [zhz]; omega)]; omega) (show _ = (kj (idL (i + 1)) R).toArray from by rw [idL_succ, ← zsq (by rw [zhz]; exact hiR2), zhz, Nat.zero_add, List.setIfInBounds_toArray]) ?_))))))))))))))
    rintro wC Bs Es;refine yj (zk (zh (zp (za rfl (qe rfl rfl (zy (by omega)) (mvx rfl (yj ?_)))))));exact yo (i + 1) (by show R - (i + 1) < R - i; omega) ⟨rfl, rfl, rfl, rfl, trivial⟩ (⟨hEi.step Es (fun i h => Or.inl h), Bs, hiR2⟩)
   ·
    have hi := of_decide_eq_false hi;have hie : i = R := by omega
    rw [hie, fillV_full (zhz R)] at hBi;have B4 := B3.ext hEi (fun h => hg1m (qb h));refine qn (zi (zi (zx (zh (zm (zcz gn (zdx 5 rfl ?_)))))));refine vx (No) Mut.none_ [] [] (xx [Fx.of (.slice (some ⟨gm, 0, none⟩) R R),
     Fx.of (.pointer (some ⟨g1, 2, none⟩)),
     Fx.of (.int .i64 f.regs),
     Fx.of (.slice (some ⟨gm, 0, none⟩) R R),
     Fx.of (.int .i64 f.regs)]) rfl trivial (fun _ h => by cases h) ?_ ?_
    · refine ⟨?_, ?_, ?_, ?_, ?_, trivial⟩
      · intro vs X wq K;exact zl rfl ⟨Below.refl _ _, Left.of rfl⟩
      · intro vs X wq K;exact zb Tryd.underlying27 rfl sz3 (by decide) rfl ⟨Below.refl _ _, Left.of rfl⟩
      · intro vs X wq K;have LE := K.1;obtain ⟨_, e1, k1⟩ := K.dep 1 rfl rfl rfl;refine zf 40 (.pointer (some ⟨g1, 2, none⟩)) rfl e1 ?_;exact ze Tryd.underlying3 rfl rfl (ve LE B4) rfl ⟨Below.refl _ _, Left.of rfl⟩
      · intro vs X wq K;obtain ⟨_, e0, k0⟩ := K.dep 0 rfl rfl rfl;refine zf 39 (.slice (some ⟨gm, 0, none⟩) R R) rfl e0 ?_;exact yw rfl ⟨Below.refl _ _, Left.of rfl⟩
      · intro vs X wq K;obtain ⟨_, e2, k2⟩ := K.dep 2 rfl rfl rfl;refine zf 41 (.int .i64 f.regs) rfl e2 ?_;exact yw rfl ⟨Below.refl _ _, Left.of rfl⟩
    intro vs w4 LE AO AL AF AA;have hbd : Below (w3).heap.size (w3) w4 := (((Ext.refl No (w3)).drew).trans LE).toBelow;obtain ⟨_, e3, k3⟩ := AL.2.2.2.1;obtain ⟨_, e4, k4⟩ := AL.2.2.2.2.1;refine vz (τ := [(1, _), (2, .slice (some ⟨gm, 0, none⟩) R R), (3, .int .i64 f.regs), (7, _)]) ⟨rfl, congrArg some e3, congrArg some e4, rfl, trivial⟩ ?_;clear AL AF AA AO
    refine zoq (kp (by kernel_rfl) (fun _ _ d_ _ _ h => by cases d_ <;> exact h) ?_);have hb5 := hBi.ext (Ext.of_below hbd No) (fun h => h.elim);have hlo : Below w.heap.size w w4 := by
     have h1 := jp ((E1.trans E2).trans E3).toBelow hEi ((E1.trans E2).trans E3).size (fun k hk => by have := qb hk; have := E1.size; have := E2.size; omega);exact h1.trans (hbd.mono h1.size)
    refine anx rfl (yc (zd (yb (rs := [.tmp 2, .tmp 3, .tmp 4]) (vs := [_, _, _]) rfl ⟨rfl, rfl, rfl, trivial⟩ ?_)));exact ⟨hlo, fun h => (by rw [hs] at h; cases h), fun _ => ⟨gm, idL R, f.regs, by rw [zhz]; rfl, by have := E1.size; have := E2.size; omega, hb5, by have h := ident_right hs; rw [hRr] at h ⊢; exact h⟩⟩
  ·
   have h3 := of_decide_eq_false h3;obtain ⟨n, hwn⟩ : ∃ n, n = jz f := ⟨_, rfl⟩;have hnr : (f.regs + 63).tdiv 64 = (n : Int) := by rw [hwn]; unfold jz; rw [Int.tdiv_eq_ediv_of_nonneg (by omega)]; omega
   have hn1 : n ≤ 1024 := by rw [hwn]; unfold jz; omega
   have hRn : R ≤ 64 * n := by rw [hwn]; unfold jz; omega
   have hR3 : R ≤ 3000 := by omega
   refine zq (zh (srx (za rfl (zb Tryd.underlying27 rfl sz3 (by decide) rfl (za rfl (ze Tryd.underlying3 rfl rfl B3 rfl (za rfl (qe rfl rfl (zy (by omega)) (za rfl (zbq rfl rfl (by decide) (show IntKind.i64.wrap ((f.regs + 63).tdiv 64) = ((n : Nat) : Int) from by rw [hnr]; exact zy (by omega)) (anx rfl (srx (za rfl (zb Tryd.underlying27 rfl sz3 (by decide) rfl (za rfl (ze Tryd.underlying3 rfl rfl B3 rfl (za rfl (znz (n := R) Tryd.underlying52 inf55 rfl rfl rfl hRr hRr (by omega) (by omega) ?_))))))))))))))))))
   rintro go wC Bo E4 Go;refine za rfl (qa zr52 ?_);rintro g10 wD B10 E5 G10;refine yx (va sz52 rfl rfl B10 rfl rfl (Nat.le_of_ble_eq_true rfl) ?_);rintro wE B10b E6;have hgo := Bo.lt;have hgoD : go < g10 := by omega
   have hx10 : ∀ k, k ≠ g10 → ¬ Mut [some g10] k := fun k hk hx => hk (qb hx);have hs1 := E1.size;have hs2 := E2.size;have hs3 := E3.size;have hs4 := E4.size;have hs5 := E5.size;have hs6 := E6.size;have hgm1 := Bm.lt;have R0 : RowsB 55 35 w.heap.size wE go R n [] [] := RowsB.nil ((Bo.ext E5 (fun h => h.elim)).ext E6 (hx10 _ (by omega))) (by omega)
   refine rnx (zm (srx (za rfl (zt Tryd.underlying52 rfl rfl ((B10b.cell 0).trans rfl) (za rfl (yp Tryd.underlying52 rfl (mvx rfl (rnx (zv (qu (ι := Nat × List Nat × List (List Nat)) (fun (i, gs, Q) => [(1, .pointer (some ⟨g1, 0, none⟩)), (5, .slice AL f.ins.length cL), (7, .slice (some ⟨gm, 0, none⟩) R R), (9, .int .i64 ((n : Nat) : Int)), (10, .pointer (some ⟨g10, 0, none⟩)), (50, .int .i64 ((R : Nat) : Int)), (51, .int .i64 ((i : Nat) : Int))]) (fun (i, gs, Q) w' => Ext (Mut [some go]) wE w' ∧ RowsB 55 35 w.heap.size w' go R n gs Q ∧ Q = List.replicate i (List.replicate n 0) ∧ ∀ g ∈ gs, g10 < g) (fun (i, _, _) => R - i) (0, [], []) ⟨rfl, rfl, rfl, rfl, rfl, rfl, rfl, trivial⟩ (⟨Ext.refl _ _, R0, rfl, fun g h => by cases h⟩) ?_))))))))))
   rintro ⟨i, gs, Q⟩ w6 ⟨hEi, hRB, hQ, hgs⟩;have hQl : Q.length = i := by rw [hQ, List.length_replicate]
   refine srx (za rfl (yy rfl rfl (rnx (zm (zw rfl (fun hi => ?_) (fun hi => ?_))))))
   ·
    have hi := of_decide_eq_true hi;have hiR : i < R := by omega
    have B10c := B10b.ext hEi (fun h => by have := qb h; omega);refine zq (zh (zm (zv (srx (mvx rfl (anx rfl ?_))))));obtain ⟨wF, hwF⟩ : ∃ wF, wF = w6 := ⟨_, rfl⟩;refine zcz gn (zdx 5 rfl ?_);refine vx (No) Mut.none_ [] [] (xx [Fx.of (.slice (some ⟨go, 0, none⟩) R R),
     Fx.of (.int .i64 ((i : Nat) : Int)),
     Fx.of (.int .i64 ((n : Nat) : Int)),
     ⟨Nat, fun gr => .slice (some ⟨gr, 0, none⟩) n n, fun gr b => (Blk b gr 35 (List.replicate n (.int .u64 0)).toArray ∧ wF.heap.size ≤ gr)⟩,
     Fx.of (.pointer (some ⟨go, 0 + i, none⟩))]) rfl trivial (fun _ h => by cases h) ?_ ?_
    · refine ⟨?_, ?_, ?_, ?_, ?_, trivial⟩
      · intro vs X wq K;have LE := K.1;exact zt Tryd.underlying52 rfl rfl (((ve LE B10c).cell 0).trans rfl) ⟨Below.refl _ _, Left.of rfl⟩
      · intro vs X wq K;exact zl rfl ⟨Below.refl _ _, Left.of rfl⟩
      · intro vs X wq K;exact zl rfl ⟨Below.refl _ _, Left.of rfl⟩
      · intro vs X wq K;have LE := K.1;have XN := K.2.1;obtain ⟨_, e2, k2⟩ := K.dep 2 rfl rfl rfl;refine zf 56 (.int .i64 ((n : Nat) : Int)) rfl e2 (ow_makeW (n := n) Tryd.underlying55 inf35 rfl rfl rfl rfl rfl (by omega) (by omega) ?_);intro gr w5 Bs hb Gs
        exact ⟨hb, ⟨gr, rfl, (Per.blk Bs (fun hx => by have := XN gr hx; omega)).and (fun _ _ => by rw [hwF]; exact Nat.le_trans LE.size Gs)⟩⟩
      · intro vs X wq K;obtain ⟨_, e0, k0⟩ := K.dep 0 rfl rfl rfl;refine zf 54 (.slice (some ⟨go, 0, none⟩) R R) rfl e0 ?_;obtain ⟨_, e1, k1⟩ := K.dep 1 rfl rfl rfl;refine zf 55 (.int .i64 ((i : Nat) : Int)) rfl e1 ?_;exact zj (j := i) Tryd.underlying52 sz55 rfl rfl rfl hiR ⟨Below.refl _ _, Left.of rfl⟩
    intro vs w7 LE AO AL AF AA;have hbd : Below (w6).heap.size (w6) w7 := (((Ext.refl No (w6)).drew).trans LE).toBelow;obtain ⟨gr, e3, k3⟩ := AL.2.2.2.1;obtain ⟨_, e4, k4⟩ := AL.2.2.2.2.1;have Wc3 := k3.here
    refine vz (τ := [(1, _), (5, _), (7, _), (9, _), (10, _), (50, _), (51, _), (57, .slice (some ⟨gr, 0, none⟩) n n), (58, .pointer (some ⟨go, 0 + i, none⟩))]) ⟨rfl, rfl, rfl, rfl, rfl, rfl, rfl, congrArg some e3, congrArg some e4, trivial⟩ ?_;clear AL AF AA AO;refine zoq (kp (by kernel_rfl) (fun _ _ d_ _ _ h => by cases d_ <;> exact h) ?_);change Nat at gr
    have hbn := Ext.of_below hbd No;have hgl : gs.length = i := by rw [hRB.len, hQl]
    have hout := hRB.out.ext hbn (fun h => h.elim);refine yx (yr sz55 rfl rfl hout rfl rfl (by rw [List.size_toArray, outV_len (by omega)]; omega) (show _ = ((outV gs n R).set Q.length (rwV n gr)).toArray from by rw [hQl, Nat.zero_add, List.setIfInBounds_toArray]; rfl) ?_);rintro wG B9 E9;have hszi : w.heap.size ≤ wE.heap.size := by omega
    have hEis := hEi.size;have R2 := hRB.add (by rw [hQl]; exact hiR) Wc3.1 hbn (by rw [← hwF]; exact Wc3.2) (by omega) B9 E9;have hQ2 : Q ++ [List.replicate n 0] = List.replicate (i + 1) (List.replicate n 0) := by rw [hQ, List.replicate_succ']
    have hgs2 : ∀ g ∈ gs ++ [gr], g10 < g := fun g hg => by
     rcases List.mem_append.1 hg with hg | hg
     · exact hgs g hg
     · obtain rfl := List.mem_singleton.1 hg;have h1 := B10c.lt;have h2 := Wc3.2;rw [hwF] at h2;omega
    refine yj (zk (zh (zp (za rfl (qe rfl rfl (zy (by omega)) (mvx rfl (yj ?_)))))));exact yo (i + 1, gs ++ [gr], Q ++ [List.replicate n 0]) (by show R - (i + 1) < R - i; omega) ⟨rfl, rfl, rfl, rfl, rfl, rfl, rfl, trivial⟩ (⟨(hEi.step hbn (fun _ h => h.elim)).step E9 (fun i h => Or.inl h), R2, hQ2, hgs2⟩)
   ·
    have hi := of_decide_eq_false hi;have hie : i = R := by have := hRB.le; omega
    have hEis := hEi.size;have B1z := ((B3.ext E4 (fun h => h.elim)).ext E5 (fun h => h.elim)).ext E6 (hx10 _ (by have := B3.lt; omega));have B1y := B1z.ext hEi (fun h => by have := qb h; have := B3.lt; omega);have B10z := B10b.ext hEi (fun h => by have := qb h; omega)
    have hEb := ((((E3.mono (Y := fun k => b0 ≤ k) (fun _ h _ => h.elim)).step E4 (fun _ h => h.elim)).step E5 (fun _ h => h.elim)).step E6 (fun k hk => Or.inl (show b0 ≤ k by have := qb hk; omega))).step hEi (fun k hk => Or.inl (show b0 ≤ k by have := qb hk; omega));have hAz : RowsW b0 w6 AL W := hA.low (X := fun k => b0 ≤ k) ⟨hEb, fun _ h => h⟩
    have hEw : Ext (fun k => w.heap.size ≤ k) w w6 := ((E1.mono (Y := fun k => w.heap.size ≤ k) (fun _ h _ => h.elim)).step E2 (fun _ h => h.elim)).step hEb (fun k hk => Or.inl (show w.heap.size ≤ k by have : b0 ≤ k := hk; omega));have hFz : FnA n0 w6 p f := hF.low (X := fun k => w.heap.size ≤ k) ⟨hEw, fun k h => Nat.le_trans hn h⟩
    have hDz : DbT w6 := fun j y hy => Low.cell (n := w.heap.size) (X := fun k => w.heap.size ≤ k) ⟨hEw, fun _ h => h⟩ (World.block_lt_of_cell? w _ (hD j y hy)) (hD j y hy);have hdbw : 0 < w.heap.size := World.block_lt_of_cell? w _ (hD 0 0 rfl)
    refine qn (zi (zi (zx (zh (srx (za rfl (yf Tryd.underlying27 rfl vq rfl B1y rfl (mvx rfl (za rfl (zez (xs := [.tmp 10]) rfl (za rfl (ya en20 rfl ((meets_assign hFz hs hDz hW hL hAz (by omega) (by omega) (by omega) hRn hn1 (fun h => by have := hgs _ h; omega) (fun g hg => by have := hgs g hg; omega) B10z (by rw [hQ, hie] at hRB; exact hRB)).mono ?_)))))))))))))
    rintro e w8 ⟨rfl, hXm, hJm⟩;refine ⟨_, rfl, ?_⟩;obtain ⟨C10, Q2, hQB, hQl2, hbit⟩ := hJm;have hEz : Ext (fun k => w.heap.size ≤ k) w w8 := hEw.step hXm (fun k hk => Or.inl (show w.heap.size ≤ k by have := hgs k hk; omega));have B1f := B1y.ext hXm (fun h => by have := hgs _ h; have := B3.lt; omega)
    have Bmz := (((Bm.ext E4 (fun h => h.elim)).ext E5 (fun h => h.elim)).ext E6 (hx10 _ (by omega))).ext hEi (fun h => by have := qb h; omega);have Bmf := Bmz.ext hXm (fun h => by have := hgs _ h; omega);have hAf : RowsW b0 w8 AL W := hAz.low (X := fun k => k ∈ gs) ⟨hXm, fun k hk => by have := hgs k hk; omega⟩;obtain ⟨wZ, hwZ⟩ : ∃ wZ, wZ = w8 := ⟨_, rfl⟩
    rw [← hwZ] at hEz B1f Bmf hAf C10 hQB;have hXs := hXm.size;rw [← hwZ] at hXs;have hz0 : Blk wZ gm 3 (kj [] R).toArray := by rw [fillV_nil]; exact Bmf
    refine rnx (srx (za rfl (zb Tryd.underlying27 rfl sz3 (by decide) rfl (za rfl (ze Tryd.underlying3 rfl rfl (hwZ ▸ B1f) rfl (anx rfl (zm (srx (za rfl (zb Tryd.underlying27 rfl sz3 (by decide) rfl (za rfl (ze Tryd.underlying3 rfl rfl (hwZ ▸ B1f) rfl (mvx rfl (rnx (zv (qd 67 (.int .i64 ((R : Nat) : Int)) rfl ((by rw [hRr] : (.int .i64 f.regs : Value) = _)) (qu (ι := List Int × Int) (fun (ms, nn) => [(1, .pointer (some ⟨g1, 0, none⟩)), (5, .slice AL f.ins.length cL), (7, .slice (some ⟨gm, 0, none⟩) R R), (10, .pointer (some ⟨g10, 0, none⟩)), (12, .int .i64 nn), (67, .int .i64 ((R : Nat) : Int)), (68, .int .i64 ((ms.length : Nat) : Int))]) (fun (ms, nn) w' => Ext (Mut [some gm]) wZ w' ∧ Blk w' gm 3 (kj ms R).toArray ∧ Greedy f Q2 ms ∧ ms.length ≤ R ∧ f.params ≤ nn ∧ (∀ x ∈ ms, x < nn) ∧ (nn = f.params ∨ ∃ x ∈ ms, nn = x + 1)) (fun (ms, _) => R - ms.length) ([], f.params) ⟨rfl, rfl, rfl, rfl, rfl, rfl, rfl, trivial⟩ (⟨by rw [hwZ]; exact Ext.refl _ _, by rw [← hwZ]; exact hz0, Greedy.nil, Nat.zero_le _, Int.le_refl _, fun x h => (by cases h), Or.inl rfl⟩) ?_)))))))))))))))))
    rintro ⟨ms, nn⟩ w10 ⟨hEm, hBm, hG, hmR, hn1', hn2', hn3'⟩;refine srx (za rfl (yy rfl rfl (rnx (zm (zw rfl (fun hi => ?_) (fun hi => ?_))))))
    ·
     have hi := of_decide_eq_true hi;have hiR : ms.length < R := by omega
     have hg1m : g1 ≠ gm := by have := B2.lt; omega
     have B1m := B1f.ext hEm (fun h => hg1m (qb h));refine zq (zh (zm (zv (srx (mvx rfl (anx rfl (zm (srx (mvx rfl (za rfl (zb Tryd.underlying27 rfl sz3 (by decide) rfl (za rfl (ze Tryd.underlying3 rfl rfl B1m rfl (za rfl (yy rfl rfl (rnx (zw rfl (fun hp => ?_) (fun hp => ?_))))))))))))))))))
     ·
      have hp := of_decide_eq_true hp
      refine srx (mvx rfl (mvx rfl (mvx rfl (za rfl (zj (j := ms.length) Tryd.underlying28 sz3 rfl rfl rfl hiR (yx (yr sz3 rfl rfl hBm rfl rfl (by rw [List.size_toArray, zsz hmR]; omega) (show _ = (kj (ms ++ [((ms.length : Nat) : Int)]) R).toArray from by rw [← zsq hiR, Nat.zero_add, List.setIfInBounds_toArray]) ?_)))))));rintro wY Bs Es
      have hG2 : Greedy f Q2 (ms ++ [((ms.length : Nat) : Int)]) := hG.add (fun _ => rfl) (fun h => absurd h (by omega));have hn4 : ∀ x ∈ ms ++ [((ms.length : Nat) : Int)], x < nn := fun x hx => by
       rcases List.mem_append.1 hx with hx | hx
       · exact hn2' x hx
       · rw [List.mem_singleton.1 hx]; omega
      have hn5 : nn = f.params ∨ ∃ x ∈ ms ++ [((ms.length : Nat) : Int)], nn = x + 1 := hn3'.imp id fun ⟨x, h1, h2⟩ => ⟨x, List.mem_append_left _ h1, h2⟩
      refine rnx (qn (zi (zx (zh (zp (za rfl (qe rfl rfl (zy (by omega)) (mvx rfl (yj (zlq 68 (.int .i64 (((ms ++ [((ms.length : Nat) : Int)]).length : Nat) : Int)) rfl ((by rw [List.length_append]; rfl : (.int .i64 (((ms.length : Nat) : Int) + 1) : Value) = _)) ?_))))))))))
      exact yo (ms ++ [((ms.length : Nat) : Int)], nn) (by show R - (ms ++ [((ms.length : Nat) : Int)]).length < R - ms.length; rw [List.length_append, List.length_singleton]; omega) ⟨rfl, rfl, rfl, rfl, rfl, rfl, rfl, trivial⟩ (⟨hEm.step Es (fun i h => Or.inl h), Bs, hG2, by rw [List.length_append, List.length_singleton]; omega, hn1', hn4, hn5⟩)
     ·
      have hp := of_decide_eq_false hp;have hN0 : 0 < f.ins.length := List.length_pos_iff.2 hne;obtain ⟨row, hrow⟩ : ∃ row, W[0]? = some row := ⟨_, List.getElem?_eq_getElem (by rw [hW.1]; exact hN0)⟩;have hr64 := hW.2 row (List.mem_of_getElem? hrow);have hil2 : ms.length / 64 < row.length := by rw [hr64.1, ← hwn]; omega
      obtain ⟨x0, hx0⟩ : ∃ x0, row[ms.length / 64]? = some x0 := ⟨_, List.getElem?_eq_getElem hil2⟩;have hx064 := hr64.2 x0 (List.mem_of_getElem? hx0);have hAm : RowsW b0 w10 AL W := hAf.low (X := Mut [some gm]) ⟨hEm, fun k hk => by have := qb hk; omega⟩;obtain ⟨gL, oL, hAL, hgL, BL, cB, hU, hcL⟩ := RowS.at hAm hrow;obtain ⟨gU, oU, hAU, hgU, hcU⟩ := hU.cell hx0
      have hbit0 : vb W 0 ms.length = x0.testBit (ms.length % 64) := by
       unfold vb gk;rw [List.getD_eq_getElem?_getD (i := 0), hrow, Option.getD_some, List.getD_eq_getElem?_getD, hx0]; rfl
      refine zq (zh (srx (anx rfl (zm (srx (mvx rfl (za rfl (zj (j := 0) Tryd.underlying52 sz55 (congrArg (fun z ↦ some (Value.slice z f.ins.length cL)) hAL) rfl rfl hN0 (za rfl (zt Tryd.underlying55 rfl rfl hcL (mvx rfl (za rfl (zbq rfl rfl (by decide) (show IntKind.i64.wrap (((ms.length : Nat) : Int).tdiv 64) = ((ms.length / 64 : Nat) : Int) from by rw [Int.tdiv_eq_ediv_of_nonneg (by omega)]; exact zy (by omega)) (za rfl (zj (j := ms.length / 64) Tryd.underlying55 xv (congrArg (fun z ↦ some (Value.slice z row.length cB)) hAU) rfl rfl hil2 (za rfl (zt Tryd.underlying35 rfl rfl hcU (mvx rfl (za rfl (zkq rfl rfl (by decide) (show (((ms.length : Nat) : Int).tmod 64) = ((ms.length % 64 : Nat) : Int) from by rw [Int.tmod_eq_emod_of_nonneg (by omega)]; rfl) (za rfl (ow_shr rfl rfl (by omega) (zuk (by omega)) (za rfl (jr rfl rfl (xg (y := 1) (by rw [Nat.shiftRight_eq_div_pow]; exact Nat.lt_of_le_of_lt (Nat.div_le_self _ _) hx064) (by decide)) (za rfl (qx rfl rfl (rnx ?_)))))))))))))))))))))))))))
      obtain ⟨wV, hwV⟩ : ∃ wV, wV = w10 := ⟨_, rfl⟩
      refine zcx (ι := Int) (fun least => [(1, .pointer (some ⟨g1, 0, none⟩)), (5, .slice AL f.ins.length cL), (7, .slice (some ⟨gm, 0, none⟩) R R), (10, .pointer (some ⟨g10, 0, none⟩)), (12, .int .i64 nn), (13, .int .i64 ((ms.length : Nat) : Int)), (14, .int .i64 least), (67, .int .i64 ((R : Nat) : Int)), (68, .int .i64 ((ms.length : Nat) : Int))]) (fun least w' => wV = w' ∧ (least = 0 ∨ least = f.params) ∧ (Liv f 0 ms.length → least = f.params)) ?_ ?_
      ·
       refine zw rfl (fun q7 => ?_) (fun q7 => ?_)
       ·
        rw [zaz, ← hbit0] at q7;refine zp (za rfl (zb Tryd.underlying27 rfl sz3 (by decide) rfl (za rfl (ze Tryd.underlying3 rfl rfl B1m rfl (avx rfl (yj ?_))))));exact jl f.params ⟨rfl, rfl, rfl, rfl, rfl, rfl, rfl, rfl, rfl, trivial⟩ (⟨hwV, Or.inr rfl, fun _ => rfl⟩)
       ·
        rw [zaz, ← hbit0] at q7;have q7 : ¬ Liv f 0 ms.length := fun h => by rw [(hL 0 _).2 h] at q7; cases q7
        refine zq ?_;exact jl 0 ⟨rfl, rfl, rfl, rfl, rfl, rfl, rfl, rfl, rfl, trivial⟩ (⟨hwV, Or.inl rfl, fun h => absurd h q7⟩)
      ·
       rintro least w12 ⟨hwv, hle0, hleL⟩;rw [hwV] at hwv;have hwv := hwv.symm;subst hwv;have hgm10 : gm < g10 := by omega
       have C10m := C10.ext hEm (fun h => by have := qb h; omega);have hQm := hQB.ext hEm (fun h => by have := qb h; omega) (fun g hg h => by have := qb h; have := hgs g hg; omega);obtain ⟨gw, hgw, hrw, hbw, h64, hcw⟩ := hQm.get (i := ms.length) (by omega);have hin : ∀ x ∈ ms, I64 x := fun x hx => by
        obtain ⟨r, hr, e⟩ := List.getElem_of_mem hx;have := hG.le hp0 (List.getElem?_eq_getElem hr);unfold I64;omega
       have hl65 : 0 ≤ least ∧ least ≤ 65536 := by rcases hle0 with h | h <;> omega
       obtain ⟨row2, hrow2⟩ : ∃ row2, row2 = Q2.getD ms.length [] := ⟨_, rfl⟩;rw [← hrow2] at hrw hbw h64;have hrl2 : row2.length = n := h64.1;obtain ⟨NN, hNN⟩ : ∃ NN, NN = gw + gm + 1 := ⟨_, rfl⟩;refine zm (zcz gn (zdx 12 rfl ?_));refine vx (No) Mut.none_ [] [] (xx [Fx.of (.slice (some ⟨gm, 0, none⟩) R R),
        Fx.of (.int .i64 ((ms.length : Nat) : Int)),
        Fx.of (.slice (some ⟨go, 0, none⟩) R R),
        Fx.of (.int .i64 ((ms.length : Nat) : Int)),
        Fx.of (.pointer (some ⟨go, 0 + ms.length, none⟩)),
        Fx.of (.slice (some ⟨gw, 0, none⟩) row2.length n),
        Fx.of (.slice (some ⟨gm, 0, none⟩) R R),
        Fx.of (.int .i64 ((ms.length : Nat) : Int)),
        Fx.of (.slice (some ⟨gm, 0, none⟩) ms.length R),
        Fx.of (.int .i64 least),
        ⟨Int, fun pp => .int .i64 pp, fun pp b => (FreeP row2 ms least pp)⟩,
        Fx.of (.pointer (some ⟨gm, 0 + ms.length, none⟩))]) rfl trivial (fun _ h => by cases h) ?_ ?_
       · refine ⟨?_, ?_, ?_, ?_, ?_, ?_, ?_, ?_, ?_, ?_, ?_, ?_, trivial⟩
         · intro vs X wq K;exact zl rfl ⟨Below.refl _ _, Left.of rfl⟩
         · intro vs X wq K;exact zl rfl ⟨Below.refl _ _, Left.of rfl⟩
         · intro vs X wq K;have LE := K.1;exact zt Tryd.underlying52 rfl rfl (((ve LE C10m).cell 0).trans rfl) ⟨Below.refl _ _, Left.of rfl⟩
         · intro vs X wq K;exact zl rfl ⟨Below.refl _ _, Left.of rfl⟩
         · intro vs X wq K;obtain ⟨_, e2, k2⟩ := K.dep 2 rfl rfl rfl;refine zf 95 (.slice (some ⟨go, 0, none⟩) R R) rfl e2 ?_;obtain ⟨_, e3, k3⟩ := K.dep 3 rfl rfl rfl;refine zf 96 (.int .i64 ((ms.length : Nat) : Int)) rfl e3 ?_;exact zj (j := ms.length) Tryd.underlying52 sz55 rfl rfl rfl hiR ⟨Below.refl _ _, Left.of rfl⟩
         · intro vs X wq K;have LE := K.1;obtain ⟨_, e4, k4⟩ := K.dep 4 rfl rfl rfl;refine zf 97 (.pointer (some ⟨go, 0 + ms.length, none⟩)) rfl e4 ?_;exact zt Tryd.underlying55 rfl rfl (by rw [Nat.zero_add, hrl2]; exact zpx LE hcw) ⟨Below.refl _ _, Left.of rfl⟩
         · intro vs X wq K;exact zl rfl ⟨Below.refl _ _, Left.of rfl⟩
         · intro vs X wq K;exact zl rfl ⟨Below.refl _ _, Left.of rfl⟩
         · intro vs X wq K;obtain ⟨_, e6, k6⟩ := K.dep 6 rfl rfl rfl;refine zf 99 (.slice (some ⟨gm, 0, none⟩) R R) rfl e6 ?_;obtain ⟨_, e7, k7⟩ := K.dep 7 rfl rfl rfl;refine zf 100 (.int .i64 ((ms.length : Nat) : Int)) rfl e7 ?_;exact ow_sliceH Tryd.underlying28 sz3 rfl rfl rfl (by omega) ⟨Below.refl _ _, Left.of rfl⟩
         · intro vs X wq K;exact zl rfl ⟨Below.refl _ _, Left.of rfl⟩
         · intro vs X wq K;have LE := K.1;obtain ⟨_, e5, k5⟩ := K.dep 5 rfl rfl rfl;refine zf 98 (.slice (some ⟨gw, 0, none⟩) row2.length n) rfl e5 ?_;obtain ⟨_, e8, k8⟩ := K.dep 8 rfl rfl rfl;refine zf 101 (.slice (some ⟨gm, 0, none⟩) ms.length R) rfl e8 ?_;obtain ⟨_, e9, k9⟩ := K.dep 9 rfl rfl rfl
           refine zf 102 (.int .i64 least) rfl e9 (ya en26 rfl ((free_any _ _ _ n R NN row2 ms (u64_blk (ve LE hbw) h64 hn1 (by omega)) (ints_fill (ve LE hBm) (by omega) hin (by omega)) least hl65.1 hl65.2 (by rw [hrl2]; omega)).mono ?_));rintro e w2 ⟨pp, rfl, hFP, hb⟩;exact ⟨_, rfl, hb, ⟨pp, rfl, (fun _ _ => hFP)⟩⟩
         · intro vs X wq K;obtain ⟨_, e0, k0⟩ := K.dep 0 rfl rfl rfl;refine zf 93 (.slice (some ⟨gm, 0, none⟩) R R) rfl e0 ?_;obtain ⟨_, e1, k1⟩ := K.dep 1 rfl rfl rfl;refine zf 94 (.int .i64 ((ms.length : Nat) : Int)) rfl e1 ?_;exact zj (j := ms.length) Tryd.underlying28 sz3 rfl rfl rfl hiR ⟨Below.refl _ _, Left.of rfl⟩
       intro vs w13 LE AO AL AF AA;have hbd : Below (w12).heap.size (w12) w13 := (((Ext.refl No (w12)).drew).trans LE).toBelow;obtain ⟨pp, e10, k10⟩ := AL.2.2.2.2.2.2.2.2.2.2.1;obtain ⟨_, e11, k11⟩ := AL.2.2.2.2.2.2.2.2.2.2.2.1;have Wc10 := k10.here
       refine vz (τ := [(1, _), (5, _), (7, _), (10, _), (12, _), (13, _), (67, _), (68, _), (103, .int .i64 pp), (104, .pointer (some ⟨gm, 0 + ms.length, none⟩))]) ⟨rfl, rfl, rfl, rfl, rfl, rfl, rfl, rfl, congrArg some e10, congrArg some e11, trivial⟩ ?_;clear AL AF AA AO;refine zoq (kp (by kernel_rfl) (fun _ _ d_ _ _ h => by cases d_ <;> exact h) ?_);change Int at pp
       have hbn := Ext.of_below hbd No;have hBm2 := hBm.ext hbn (fun h => h.elim);refine yx (yr sz3 rfl rfl hBm2 rfl rfl (by rw [List.size_toArray, zsz hmR]; omega) (show _ = (kj (ms ++ [pp]) R).toArray from by rw [← zsq hiR, Nat.zero_add, List.setIfInBounds_toArray]) ?_);rintro wY Bs Es;have hFP : FreeP row2 ms least pp := Wc10
       have hG2 : Greedy f Q2 (ms ++ [pp]) := hG.add (fun h => absurd h (by omega)) (fun _ => ⟨least, hle0, hleL, hrow2 ▸ hFP⟩);have hpa : (ms ++ [pp])[ms.length]? = some pp := by simp
       have hpb := hG2.le hp0 hpa;refine rnx (zp (mvx rfl (mvx rfl (mvx rfl (za rfl (zj (j := ms.length) Tryd.underlying28 sz3 rfl rfl rfl hiR (za rfl (ze Tryd.underlying3 rfl rfl Bs (by rw [Nat.zero_add, List.getElem?_toArray]; exact fillV_at hpa) ?_))))))));obtain ⟨mx, hmx⟩ : ∃ mx, mx = if pp + 1 > nn then pp + 1 else nn := ⟨_, rfl⟩
       refine za rfl (qe rfl rfl (zy (by omega)) (za rfl (ow_max rfl rfl (avx rfl (yj (zk (zh (zp (za rfl (qe rfl rfl (zy (by omega)) (mvx rfl (yj (zlq 12 (.int .i64 mx) rfl ((by rw [hmx] : (.int .i64 (if pp + 1 > nn then pp + 1 else nn) : Value) = _)) (zlq 68 (.int .i64 (((ms ++ [pp]).length : Nat) : Int)) rfl ((by rw [List.length_append]; rfl : (.int .i64 (((ms.length : Nat) : Int) + 1) : Value) = _)) ?_))))))))))))))
       have hmx1 : nn ≤ mx ∧ pp < mx ∧ (mx = nn ∨ mx = pp + 1) := by rw [hmx]; split <;> omega
       have hn4 : ∀ x ∈ ms ++ [pp], x < mx := fun x hx => by
        rcases List.mem_append.1 hx with hx | hx
        · have := hn2' x hx; omega
        · rw [List.mem_singleton.1 hx]; omega
       have hn5 : mx = f.params ∨ ∃ x ∈ ms ++ [pp], mx = x + 1 := by
        rcases hmx1.2.2 with h | h
        · rw [h];exact hn3'.imp id fun ⟨x, h1, h2⟩ => ⟨x, List.mem_append_left _ h1, h2⟩
        · exact Or.inr ⟨pp, by simp, h⟩
       exact yo (ms ++ [pp], mx) (by show R - (ms ++ [pp]).length < R - ms.length; rw [List.length_append, List.length_singleton]; omega) ⟨rfl, rfl, rfl, rfl, rfl, rfl, rfl, trivial⟩ (⟨(hEm.step hbn (fun _ h => h.elim)).step Es (fun i h => Or.inl h), Bs, hG2, by rw [List.length_append, List.length_singleton]; omega, by omega, hn4, hn5⟩)
    ·
     have hi := of_decide_eq_false hi;have hme : ms.length = R := by omega
     rw [fillV_full hme] at hBm;have hfin : Ext (fun k => w.heap.size ≤ k) w w10 := hEz.step hEm (fun k hk => Or.inl (show w.heap.size ≤ k by have := qb hk; omega));refine qn (zi (zi (zx (zh (srx (mvx rfl (mvx rfl (avx rfl (avx rfl (anx rfl (yc (yb (rs := [.tmp 2, .tmp 3, .tmp 4]) (vs := [_, _, _]) rfl ⟨rfl, rfl, rfl, trivial⟩ ?_))))))))))))
     exact ⟨hfin.below (fun _ h => h), fun h => (by rw [hs] at h; cases h), fun _ => ⟨gm, ms, nn, by rw [hme]; rfl, by omega, hBm, greedy_right hs hbit hG (by omega) hn1' hn2' hn3'⟩⟩
 ·
  have hs : qp f = false := by simpa using hs
  refine za rfl (ya en19 rfl ((live_no hFA hs).mono ?_));rintro e w14 ⟨rfl, hb⟩
  refine ⟨_, rfl, (mvx rfl (za rfl (qj rfl rfl (za rfl (qj rfl rfl (avx rfl (anx rfl (zm (srx (mvx rfl (za rfl (qs rfl rfl (rnx (qq rfl (srx (mvx rfl (avx rfl (avx rfl (anx rfl (yc (zd (yb (rs := [.tmp 2, .tmp 3, .tmp 4]) (vs := [_, _, _]) rfl ⟨rfl, rfl, rfl, trivial⟩ ?_))))))))))))))))))))))⟩
  exact ⟨E1.toBelow.trans (hb.mono E1.size), fun _ => rfl, fun h => by rw [hs] at h; cases h⟩
end
end Go.Proofs.YtppdgjlmeahimaaDoor
namespace Go.Proofs.YtppdgjlmeahimaaDoor
open Go.RowKit
set_option maxRecDepth 100000
attribute [local irreducible] OW RS
theorem right3 {w : World} {p : Pl} {n g : Nat} {a b c : Int} {r : Bool} (hF : FnA n w p thrF) (hb : Blk w g 3 #[.int .i64 a, .int .i64 b, .int .i64 c]) (hi : I64 a ∧ I64 b ∧ I64 c) (hr : r = true ↔     jg thrF [a, b, c] 2) (hD : DbT w) :
 Calls Tryd.prog 9 #[fnV p thrF, .slice (some ⟨g, 0, none⟩) 3 3, .int .i64 2] w fun e w' => e = .returned (.bool r) ∧ Below w.heap.size w w' :=
 (right_any w p thrF n hF (some ⟨g, 0, none⟩) 3 w.heap.size [a, b, c] (        zek (xs := [a, b, c]) hb hb.lt (by show 8 * 3 ≤ 140737488355000; decide) (fun x hx => by
  simp only [List.mem_cons, List.not_mem_nil, or_false] at hx
  rcases hx with rfl | rfl | rfl
  · exact hi.1
  · exact hi.2.1
  · exact hi.2.2)) 2 (by decide) (Nat.le_refl _) hD).mono fun e w' ⟨q, he, hq, hb⟩ => by
  obtain rfl : q = r := by
   cases q <;> cases r
   · rfl
   · exact absurd (hq.2 (hr.1 rfl)) (by decide)
   · exact absurd (hr.2 (hq.1 rfl)) (by decide)
   · rfl
  exact ⟨he, hb⟩
theorem assign3 {w : World} {p : Pl} {n : Nat} (hF : FnA n w p thrF) (hD : DbT w) : Calls Tryd.prog 11 #[fnV p thrF] w fun e w' => ∃ gm x y z m, e = .returned (.tuple #[.slice (some ⟨gm, 0, none⟩) 3 3, .int .i64 m, .int .i64 0]) ∧ Blk w' gm 3 #[.int .i64 x, .int .i64 y, .int .i64 z] ∧ (x != y) = true ∧ 2 ≤ m ∧ Below w.heap.size w w' :=
 (       zlv w p thrF n hF hD).mono fun e w' ⟨hb, _, h⟩ => by
  obtain ⟨gm, ms, m, he, _, hbm, hR⟩ := h thr_sound;obtain ⟨h3, h2, x, y, hx, hy, hxy⟩ := thr_any hR;match ms, h3 with
  | [a, b, c], _ =>
   obtain rfl := Option.some.inj hx;obtain rfl := Option.some.inj hy;exact ⟨gm, _, _, c, m, he, hbm, bne_iff_ne.2 hxy, h2, hb⟩
theorem known_any (w : World) (hD : DbT w) : Calls Tryd.prog 8 #[] w fun e w' => e = .returned (.bool true) ∧ Below w.heap.size w w' := by
 refine qw Tryd.func8 rfl Tryd.ntmps8 rfl ?_;have HF : Per (No) w (fun _ => True) := Per.true_;have LW := erx (No) w;have XLW := grx (No) w;have E := erx (No) w;replace HF := HF.on E;replace LW := LW.step E XLW;replace E := erx (No) w;replace HF := HF.and (Per.dbT hD (fun _ h => h.elim));refine srx (anx rfl (srx (za rfl (ya en18 rfl ((zqk _).mono ?_)))))
 rintro e w1 ⟨h3, h5, rfl, h0, _, _, hb⟩;refine ⟨_, rfl, ?_⟩;replace E := blx E hb;replace HF := HF.on E;replace LW := LW.step E XLW;replace E := erx (No) w1;replace HF := HF.and (Per.thrB h0 (fun h => h.elim) (fun h => h.elim));refine za rfl (ya en11 rfl ((assign3 (ThrB.fn (HF.on E).here.2) (HF.on E).here.1.2).mono ?_));rintro e w2 ⟨gm, x, y, z, m, rfl, hbm, hxy, hm2, hb⟩
 refine ⟨_, rfl, ?_⟩;replace E := blx E hb;replace HF := HF.on E;replace LW := LW.step E XLW;replace E := erx (No) w2;replace HF := HF.and (Per.blkN hbm NotIn.nil);refine mvx rfl (za rfl (qj rfl rfl (za rfl (qj rfl rfl (za rfl (qj rfl rfl (avx rfl (avx rfl (anx rfl (zm ?_))))))))))
 have OY : ∀ q9, (Mut (outM [])) q9 → q9 < (World.drew w2).heap.size → (No) q9 := fun k h _ => (Mut.none_) k h;refine xn (No) Mut.none_ [] [] (xx [Fx.of (.int .i64 0),
  Fx.of (.bool true),
  Fx.of (.bool true),
  Fx.of (.slice (some ⟨gm, 0, none⟩) 3 3),
  Fx.of (.int .i64 3),
  Fx.of (.bool true),
  Fx.of (.bool true),
  Fx.of (.bool true),
  Fx.of (.slice (some ⟨gm, 0, none⟩) 3 3),
  Fx.of (.pointer (some ⟨gm, 0 + 0, none⟩)),
  Fx.of (.int .i64 x),
  Fx.of (.slice (some ⟨gm, 0, none⟩) 3 3),
  Fx.of (.pointer (some ⟨gm, 0 + 1, none⟩)),
  Fx.of (.int .i64 y),
  Fx.of (.bool true),
  Fx.of (.bool true),
  Fx.of (.bool true),
  Fx.of (.int .i64 m),
  Fx.of (.bool true),
  Fx.of (.bool true),
  Fx.of (.bool true),
  ⟨(Nat × Nat), fun (p1, n1) => fnV (thrP p1 n1) thrF, fun (p1, n1) b => (ThrB b p1 n1)⟩,
  ⟨Nat, fun g1 => .slice (some ⟨g1, 0, none⟩) 3 3, fun g1 b => (Blk b g1 3 #[.int .i64 0, .int .i64 1, .int .i64 0])⟩,
  Fx.of (.bool true),
  Fx.of (.bool true),
  Fx.of (.bool true),
  ⟨(Nat × Nat), fun (p2, n2) => fnV (thrP p2 n2) thrF, fun (p2, n2) b => (ThrB b p2 n2)⟩,
  ⟨Nat, fun g2 => .slice (some ⟨g2, 0, none⟩) 3 3, fun g2 b => (Blk b g2 3 #[.int .i64 0, .int .i64 0, .int .i64 1])⟩,
  Fx.of (.bool false),
  Fx.of (.bool true),
  Fx.of (.bool true),
  Fx.of (.bool true)]) gn rfl trivial (fun _ h => by cases h) ?_ ?_
 · refine ⟨?_, ?_, ?_, ?_, ?_, ?_, ?_, ?_, ?_, ?_, ?_, ?_, ?_, ?_, ?_, ?_, ?_, ?_, ?_, ?_, ?_, ?_, ?_, ?_, ?_, ?_, ?_, ?_, ?_, ?_, ?_, ?_, trivial⟩
   · intro vs X wq K;exact zl rfl ⟨Below.refl _ _, Left.of rfl⟩
   · intro vs X wq K;obtain ⟨_, e0, k0⟩ := K.dep 0 rfl rfl rfl;refine zf 10 (.int .i64 0) rfl e0 ?_;exact qx rfl rfl ⟨Below.refl _ _, Left.of rfl⟩
   · intro vs X wq K;obtain ⟨_, e1, k1⟩ := K.dep 1 rfl rfl rfl;refine zf 11 (.bool true) rfl e1 ?_;exact zl rfl ⟨Below.refl _ _, Left.of rfl⟩
   · intro vs X wq K;obtain ⟨_, e2, k2⟩ := K.dep 2 rfl rfl rfl;refine zf 12 (.bool true) rfl e2 ?_;exact jc rfl (zl rfl ⟨Below.refl _ _, Left.of rfl⟩)
   · intro vs X wq K;obtain ⟨_, e3, k3⟩ := K.dep 3 rfl rfl rfl;refine zf 13 (.slice (some ⟨gm, 0, none⟩) 3 3) rfl e3 ?_;obtain ⟨_, e2, k2⟩ := K.dep 2 rfl rfl rfl;refine zf 12 (.bool true) rfl e2 ?_;exact jc rfl (yp Tryd.underlying28 rfl ⟨Below.refl _ _, Left.of (by kernel_rfl : (.int .i64 (3 : Nat) : Value) = _)⟩)
   · intro vs X wq K;obtain ⟨_, e4, k4⟩ := K.dep 4 rfl rfl rfl;refine zf 14 (.int .i64 3) rfl e4 ?_;obtain ⟨_, e2, k2⟩ := K.dep 2 rfl rfl rfl;refine zf 12 (.bool true) rfl e2 ?_;exact jc rfl (qx rfl rfl ⟨Below.refl _ _, Left.of rfl⟩)
   · intro vs X wq K;obtain ⟨_, e2, k2⟩ := K.dep 2 rfl rfl rfl;refine zf 12 (.bool true) rfl e2 ?_;obtain ⟨_, e5, k5⟩ := K.dep 5 rfl rfl rfl;refine zf 15 (.bool true) rfl e5 ?_;exact zr rfl rfl ⟨Below.refl _ _, Left.of rfl⟩
   · intro vs X wq K;obtain ⟨_, e6, k6⟩ := K.dep 6 rfl rfl rfl;refine zf 16 (.bool true) rfl e6 ?_;exact zl rfl ⟨Below.refl _ _, Left.of rfl⟩
   · intro vs X wq K;obtain ⟨_, e7, k7⟩ := K.dep 7 rfl rfl rfl;refine zf 17 (.bool true) rfl e7 ?_;exact jc rfl (zl rfl ⟨Below.refl _ _, Left.of rfl⟩)
   · intro vs X wq K;obtain ⟨_, e8, k8⟩ := K.dep 8 rfl rfl rfl;refine zf 18 (.slice (some ⟨gm, 0, none⟩) 3 3) rfl e8 ?_;obtain ⟨_, e7, k7⟩ := K.dep 7 rfl rfl rfl;refine zf 17 (.bool true) rfl e7 ?_;exact jc rfl (zj (j := 0) Tryd.underlying28 sz3 rfl rfl rfl (by decide) ⟨Below.refl _ _, Left.of rfl⟩)
   · intro vs X wq K;have LE := K.1;obtain ⟨_, e9, k9⟩ := K.dep 9 rfl rfl rfl;refine zf 19 (.pointer (some ⟨gm, 0 + 0, none⟩)) rfl e9 ?_;obtain ⟨_, e7, k7⟩ := K.dep 7 rfl rfl rfl;refine zf 17 (.bool true) rfl e7 ?_;exact jc rfl (zt Tryd.underlying3 rfl rfl ((((HF.on (E.drew.trans (LE.mono OY))).here.2).cell 0).trans rfl) ⟨Below.refl _ _, Left.of rfl⟩)
   · intro vs X wq K;obtain ⟨_, e7, k7⟩ := K.dep 7 rfl rfl rfl;refine zf 17 (.bool true) rfl e7 ?_;exact jc rfl (zl rfl ⟨Below.refl _ _, Left.of rfl⟩)
   · intro vs X wq K;obtain ⟨_, e11, k11⟩ := K.dep 11 rfl rfl rfl;refine zf 21 (.slice (some ⟨gm, 0, none⟩) 3 3) rfl e11 ?_;obtain ⟨_, e7, k7⟩ := K.dep 7 rfl rfl rfl;refine zf 17 (.bool true) rfl e7 ?_;exact jc rfl (zj (j := 1) Tryd.underlying28 sz3 rfl rfl rfl (by decide) ⟨Below.refl _ _, Left.of rfl⟩)
   · intro vs X wq K;have LE := K.1;obtain ⟨_, e12, k12⟩ := K.dep 12 rfl rfl rfl;refine zf 22 (.pointer (some ⟨gm, 0 + 1, none⟩)) rfl e12 ?_;obtain ⟨_, e7, k7⟩ := K.dep 7 rfl rfl rfl;refine zf 17 (.bool true) rfl e7 ?_;exact jc rfl (zt Tryd.underlying3 rfl rfl ((((HF.on (E.drew.trans (LE.mono OY))).here.2).cell 1).trans rfl) ⟨Below.refl _ _, Left.of rfl⟩)
   · intro vs X wq K;obtain ⟨_, e10, k10⟩ := K.dep 10 rfl rfl rfl;refine zf 20 (.int .i64 x) rfl e10 ?_;obtain ⟨_, e13, k13⟩ := K.dep 13 rfl rfl rfl;refine zf 23 (.int .i64 y) rfl e13 ?_;obtain ⟨_, e7, k7⟩ := K.dep 7 rfl rfl rfl;refine zf 17 (.bool true) rfl e7 ?_;exact jc rfl (qs rfl rfl ⟨Below.refl _ _, Left.of ((by rw [hxy] : (.bool (x != y) : Value) = _))⟩)
   · intro vs X wq K;obtain ⟨_, e7, k7⟩ := K.dep 7 rfl rfl rfl;refine zf 17 (.bool true) rfl e7 ?_;obtain ⟨_, e14, k14⟩ := K.dep 14 rfl rfl rfl;refine zf 24 (.bool true) rfl e14 ?_;exact zr rfl rfl ⟨Below.refl _ _, Left.of rfl⟩
   · intro vs X wq K;obtain ⟨_, e15, k15⟩ := K.dep 15 rfl rfl rfl;refine zf 25 (.bool true) rfl e15 ?_;exact zl rfl ⟨Below.refl _ _, Left.of rfl⟩
   · intro vs X wq K;obtain ⟨_, e16, k16⟩ := K.dep 16 rfl rfl rfl;refine zf 26 (.bool true) rfl e16 ?_;exact jc rfl (zl rfl ⟨Below.refl _ _, Left.of rfl⟩)
   · intro vs X wq K;obtain ⟨_, e17, k17⟩ := K.dep 17 rfl rfl rfl;refine zf 27 (.int .i64 m) rfl e17 ?_;obtain ⟨_, e16, k16⟩ := K.dep 16 rfl rfl rfl;refine zf 26 (.bool true) rfl e16 ?_;exact jc rfl (xd rfl rfl ⟨Below.refl _ _, Left.of ((by rw [decide_eq_true hm2] : (.bool (decide (2 ≤ m)) : Value) = _))⟩)
   · intro vs X wq K;obtain ⟨_, e16, k16⟩ := K.dep 16 rfl rfl rfl;refine zf 26 (.bool true) rfl e16 ?_;obtain ⟨_, e18, k18⟩ := K.dep 18 rfl rfl rfl;refine zf 28 (.bool true) rfl e18 ?_;exact zr rfl rfl ⟨Below.refl _ _, Left.of rfl⟩
   · intro vs X wq K;obtain ⟨_, e19, k19⟩ := K.dep 19 rfl rfl rfl;refine zf 29 (.bool true) rfl e19 ?_;exact zl rfl ⟨Below.refl _ _, Left.of rfl⟩
   · intro vs X wq K;have XN := K.2.1;obtain ⟨_, e20, k20⟩ := K.dep 20 rfl rfl rfl;refine zf 30 (.bool true) rfl e20 (jc rfl (ya en18 rfl ((zqk _).mono ?_)));rintro e w2 ⟨p1, n1, rfl, h1, h2, h3, hb⟩;exact ⟨_, rfl, hb, ⟨(p1, n1), rfl, Per.thrB h1 (fun hx => by have := XN p1 hx; omega) (fun hx => by have := XN n1 hx; omega)⟩⟩
   · intro vs X wq K;have XN := K.2.1;obtain ⟨_, e20, k20⟩ := K.dep 20 rfl rfl rfl;refine zf 30 (.bool true) rfl e20 (jc rfl (je (cs := #[.int .i64 0, .int .i64 1, .int .i64 0]) Tryd.underlying28 sz3 zr3 (by decide) rfl (by rw [qk]; rfl) ?_));intro g1 w5 Bs hb Gs;exact ⟨hb, ⟨g1, rfl, Per.blk Bs (fun hx => by have := XN g1 hx; omega)⟩⟩
   · intro vs X wq K;have LE := K.1;obtain ⟨⟨p1, n1⟩, e21, k21⟩ := K.dep 21 rfl rfl rfl;refine zf 31 (fnV (thrP p1 n1) thrF) rfl e21 ?_;obtain ⟨g1, e22, k22⟩ := K.dep 22 rfl rfl rfl;refine zf 32 (.slice (some ⟨g1, 0, none⟩) 3 3) rfl e22 ?_;obtain ⟨_, e20, k20⟩ := K.dep 20 rfl rfl rfl
     refine zf 30 (.bool true) rfl e20 (jc rfl (ya en9 rfl ((right3 (ThrB.fn k21.here) k22.here (by decide) (r := true) ⟨fun _ => thr_yes, fun _ => rfl⟩ (HF.on (E.drew.trans (LE.mono OY))).here.1.1.2).mono ?_)));rintro e w2 ⟨rfl, hb⟩;exact ⟨_, rfl, hb, Left.of rfl⟩
   · intro vs X wq K;obtain ⟨_, e20, k20⟩ := K.dep 20 rfl rfl rfl;refine zf 30 (.bool true) rfl e20 ?_;obtain ⟨_, e23, k23⟩ := K.dep 23 rfl rfl rfl;refine zf 33 (.bool true) rfl e23 ?_;exact zr rfl rfl ⟨Below.refl _ _, Left.of rfl⟩
   · intro vs X wq K;obtain ⟨_, e24, k24⟩ := K.dep 24 rfl rfl rfl;refine zf 34 (.bool true) rfl e24 ?_;exact zl rfl ⟨Below.refl _ _, Left.of rfl⟩
   · intro vs X wq K;have XN := K.2.1;obtain ⟨_, e25, k25⟩ := K.dep 25 rfl rfl rfl;refine zf 35 (.bool true) rfl e25 (jc rfl (ya en18 rfl ((zqk _).mono ?_)));rintro e w2 ⟨p2, n2, rfl, h1, h2, h3, hb⟩;exact ⟨_, rfl, hb, ⟨(p2, n2), rfl, Per.thrB h1 (fun hx => by have := XN p2 hx; omega) (fun hx => by have := XN n2 hx; omega)⟩⟩
   · intro vs X wq K;have XN := K.2.1;obtain ⟨_, e25, k25⟩ := K.dep 25 rfl rfl rfl;refine zf 35 (.bool true) rfl e25 (jc rfl (je (cs := #[.int .i64 0, .int .i64 0, .int .i64 1]) Tryd.underlying28 sz3 zr3 (by decide) rfl (by rw [qk]; rfl) ?_));intro g2 w5 Bs hb Gs;exact ⟨hb, ⟨g2, rfl, Per.blk Bs (fun hx => by have := XN g2 hx; omega)⟩⟩
   · intro vs X wq K;have LE := K.1;obtain ⟨⟨p2, n2⟩, e26, k26⟩ := K.dep 26 rfl rfl rfl;refine zf 36 (fnV (thrP p2 n2) thrF) rfl e26 ?_;obtain ⟨g2, e27, k27⟩ := K.dep 27 rfl rfl rfl;refine zf 37 (.slice (some ⟨g2, 0, none⟩) 3 3) rfl e27 ?_;obtain ⟨_, e25, k25⟩ := K.dep 25 rfl rfl rfl
     refine zf 35 (.bool true) rfl e25 (jc rfl (ya en9 rfl ((right3 (ThrB.fn k26.here) k27.here (by decide) (r := false) ⟨fun h => (by cases h), fun h => absurd h thr_no⟩ (HF.on (E.drew.trans (LE.mono OY))).here.1.1.2).mono ?_)));rintro e w2 ⟨rfl, hb⟩;exact ⟨_, rfl, hb, Left.of rfl⟩
   · intro vs X wq K;obtain ⟨_, e28, k28⟩ := K.dep 28 rfl rfl rfl;refine zf 38 (.bool false) rfl e28 ?_;obtain ⟨_, e25, k25⟩ := K.dep 25 rfl rfl rfl;refine zf 35 (.bool true) rfl e25 ?_;exact jc rfl (ke rfl ⟨Below.refl _ _, Left.of rfl⟩)
   · intro vs X wq K;obtain ⟨_, e25, k25⟩ := K.dep 25 rfl rfl rfl;refine zf 35 (.bool true) rfl e25 ?_;obtain ⟨_, e29, k29⟩ := K.dep 29 rfl rfl rfl;refine zf 39 (.bool true) rfl e29 ?_;exact zr rfl rfl ⟨Below.refl _ _, Left.of rfl⟩
   · intro vs X wq K;obtain ⟨_, e30, k30⟩ := K.dep 30 rfl rfl rfl;refine zf 40 (.bool true) rfl e30 ?_;exact yw rfl ⟨Below.refl _ _, Left.of rfl⟩
 intro vs w3 LE AO AL AF AA;replace E := E.drew.trans (LE.mono OY);obtain ⟨_, e31, k31⟩ := AL.2.2.2.2.2.2.2.2.2.2.2.2.2.2.2.2.2.2.2.2.2.2.2.2.2.2.2.2.2.2.2.1;refine vz (τ := [(0, .bool true)]) ⟨congrArg some e31, trivial⟩ ?_;clear AL AF AA LE AO OY e31 k31;refine zh (yc (yb (rs := [.tmp 0]) (vs := [_]) rfl ⟨rfl, trivial⟩ ?_));exact ⟨rfl, (LW.step E XLW).toBelow⟩
end Go.Proofs.YtppdgjlmeahimaaDoor
namespace Go.Proofs.YtppdgjlmeahimaaDoor
open Go.RowKit
set_option maxRecDepth 100000
attribute [local irreducible] OW RS
noncomputable def zjv (f : LFn) (m : List Int) (n : Int) : Bool := @decide (jg f m n) (Classical.propDecidable _)
theorem rightB_of {f : LFn} {m : List Int} {n : Int} {b : Bool} (h : b = true ↔ jg f m n) : b = zjv f m n := by
 unfold zjv;cases b
 · exact (@decide_eq_false _ (Classical.propDecidable _) fun hr => by have := h.2 hr; cases this).symm
 · exact (@decide_eq_true _ (Classical.propDecidable _) (h.1 rfl)).symm
theorem rightB_yes {f : LFn} {m : List Int} {n : Int} (h : jg f m n) : zjv f m n = true := @decide_eq_true _ (Classical.propDecidable _) h
theorem assign_no {w : World} {p : Pl} {f : LFn} {n0 : Nat} (hs : qp f = false) (hF : FnA n0 w p f) (hD : DbT w) : Calls Tryd.prog 11 #[fnV p f] w fun e w' => e = .returned (.tuple #[.slice none 0 0, .int .i64 0, .int .i64 3]) ∧ Below w.heap.size w w' :=
 (zlv w p f n0 hF hD).mono fun _ _ ⟨hb, h, _⟩ => ⟨h hs, hb⟩
theorem assign_yes {w : World} {p : Pl} {f : LFn} {n0 : Nat} (hs :     qp f = true) (hF : FnA n0 w p f) (hD : DbT w) : Calls Tryd.prog 11 #[fnV p f] w fun e w' => ∃ gm ms n, e = .returned (.tuple #[.slice (some ⟨gm, 0, none⟩) ms.length ms.length, .int .i64 n, .int .i64 0]) ∧ Blk w' gm 3 (   yq ms).toArray ∧ (8 * ms.length ≤ 140737488355000 ∧ ∀ x ∈ ms, I64 x) ∧ I64 n ∧     jg f ms n ∧ Below w.heap.size w w' :=
 (       zlv w p f n0 hF hD).mono fun e w' ⟨hb, _, h⟩ => by
  obtain ⟨gm, ms, n, he, _, hbm, hR⟩ := h hs;obtain ⟨hr0, hr1, hp0, hp1, hne⟩ :=         ji hs;have hl := hR.2.1;have h1 := hR.2.2.1;have h2 := hR.2.2.2.1;refine ⟨gm, ms, n, he, hbm, ⟨by omega, fun x hx => ?_⟩, by unfold I64; omega, hR, hb⟩;obtain ⟨r, hr⟩ := List.mem_iff_getElem?.1 hx;have := hR.2.2.2.2.1 r x hr;unfold I64;omega
theorem right_b {w : World} {p : Pl} {f : LFn} {n0 : Nat} (hF : FnA n0 w p f) {A : Option Addr} (c : Nat) {n1 : Nat} {m : List Int} (hm : IntsA n1 w A m) {n : Int} (hn : I64 n) (hn1 : n1 ≤ w.heap.size) (hD : DbT w) : Calls Tryd.prog 9 #[fnV p f, .slice A m.length c, .int .i64 n] w fun e w' => e = .returned (.bool (zjv f m n)) ∧ Below w.heap.size w w' :=
 (right_any w p f n0 hF A c n1 m hm n hn hn1 hD).mono fun _ _ ⟨_, he, hb, hw⟩ => ⟨by rw [he, rightB_of hb], hw⟩
section
variable (w : World) (p : Pl) (f : LFn) (n0 : Nat) (hF : FnA n0 w p f) (hbk : (f.ins.map fun x => x.l.length + 1).sum ≤ 1048576) (hD : DbT w)
include hF hbk hD
end
end Go.Proofs.YtppdgjlmeahimaaDoor
namespace Go.Proofs.YtppdgjlmeahimaaDoor
open Go.RowKit
set_option maxRecDepth 100000
def strV (xs : List ByteArray) : List Value := xs.map fun x => .string x
def conV (xs : List (Int × ByteArray)) : List Value := xs.flatMap fun x => [.int .i64 x.1, .string x.2]
def rgsV (xs : List LReg) : List Value := xs.flatMap regV
abbrev IB := LIns × Option Addr × Nat
def liV (x : IB) : Value := .slice x.2.1 x.1.l.length x.2.2
structure InsO (lo : Nat) (w : World) (A : Option Addr) (c : Nat) (is : List IB) : Prop where
 i : w.ownsRow lo 41 7 (.slice A is.length c) is.length (kg is)
 l : ∀ x ∈ is, w.ownsRow lo 3 1 (liV x) x.1.l.length (yq x.1.l)
 ap : ∀ (j k : Nat) x y, is[j]? = some x → is[k]? = some y → j ≠ k → ∀ q, (liV x).ownBlock = some q → (liV y).ownBlock ≠ some q
structure QP where
 an : Option Addr
 cn : Nat
 ac : Option Addr
 cc : Nat
 ai : Option Addr
 ci : Nat
 ar : Option Addr
 cr : Nat
 is : List IB
def QP.pl (q : QP) : Pl := ⟨q.an, q.cn, q.ac, q.cc, q.ai, q.ci, q.ar, q.cr⟩
structure FnO (lo : Nat) (w : World) (q : QP) (f : LFn) : Prop where
 names : w.ownsRow lo 9 1 (.slice q.an f.names.length q.cn) f.names.length (strV f.names)
 consts : w.ownsRow lo 37 2 (.slice q.ac f.consts.length q.cc) f.consts.length (conV f.consts)
 ins : InsO lo w q.ai q.ci q.is
 ise : q.is.map (·.1) = f.ins
 rgs : w.ownsRow lo 50 4 (.slice q.ar f.rgs.length q.cr) f.rgs.length (rgsV f.rgs)
structure FnI (f : LFn) : Prop where
 params : I64 f.params
 regs : I64 f.regs
 frees : I64 f.frees
 bound : I64 f.bound
 name : f.name.size ≤ maxLen
 nl : 16 * f.names.length ≤ 140737488351232
 ni : ∀ x ∈ f.names, x.size ≤ maxLen
 cl : 24 * f.consts.length ≤ 140737488351232
 ci : ∀ x ∈ f.consts, I64 x.1 ∧ x.2.size ≤ maxLen
 il : 72 * f.ins.length ≤ 140737488351232
 ii : ∀ x ∈ f.ins, InsI x ∧ 8 * x.l.length ≤ 140737488351232 ∧ ∀ y ∈ x.l, I64 y
 rl : 32 * f.rgs.length ≤ 140737488351232
 ri : ∀ x ∈ f.rgs, RegI x
theorem FnA.nums {n : Nat} {w : World} {p : Pl} {f : LFn} (h : FnA n w p f) : FnI f :=
 ⟨h.params, h.regs, h.frees, h.bound, h.name, h.names.len, h.names.in_, h.consts.len, h.consts.in_, h.ins.len, fun x hx => by
  obtain ⟨j, hj⟩ := List.mem_iff_getElem?.1 hx;obtain ⟨g, o, _, _, hc⟩ := h.ins.row.at hj;obtain ⟨hi, B, c, hl, hI, _⟩ := hc;exact ⟨hi, hl, hI.in_⟩, h.rgs.len, h.rgs.in_⟩
section
variable {lo : Nat} {w w' : World} {q : QP} {f : LFn} {X : Nat → Prop}
def FnBl (q : QP) (f : LFn) (k : Nat) : Prop := (Value.slice q.an f.names.length q.cn).ownBlock = some k ∨ (Value.slice q.ac f.consts.length q.cc).ownBlock = some k ∨ (Value.slice q.ai q.is.length q.ci).ownBlock = some k ∨ (Value.slice q.ar f.rgs.length q.cr).ownBlock = some k ∨ ∃ x ∈ q.is, (liV x).ownBlock = some k
theorem FnO.bl (h : FnO lo w q f) {k : Nat} (hk : FnBl q f k) : lo ≤ k ∧ k < w.heap.size := by
 rcases hk with hk | hk | hk | hk | ⟨x, hx, hk⟩
 · exact ⟨jv h.names k hk, jj h.names k hk⟩
 · exact ⟨jv h.consts k hk, jj h.consts k hk⟩
 · exact ⟨jv h.ins.i k hk, jj h.ins.i k hk⟩
 · exact ⟨jv h.rgs k hk, jj h.rgs k hk⟩
 · exact ⟨jv (h.ins.l x hx) k hk, jj (h.ins.l x hx) k hk⟩
theorem FnO.ext (h : FnO lo w q f) (k : Ext X w w') (hX : ∀ b, FnBl q f b → ¬ X b) : FnO lo w' q f :=
 ⟨yt h.names k fun b hb => hX b (Or.inl hb), yt h.consts k fun b hb => hX b (Or.inr (Or.inl hb)),
  ⟨yt h.ins.i k fun b hb => hX b (Or.inr (Or.inr (Or.inl hb))), fun x hx => yt (h.ins.l x hx) k fun b hb => hX b (Or.inr (Or.inr (Or.inr (Or.inr ⟨x, hx, hb⟩)))), h.ins.ap⟩,
  h.ise, yt h.rgs k fun b hb => hX b (Or.inr (Or.inr (Or.inr (Or.inl hb))))⟩
theorem FnO.no (h : FnO lo w q f) (k : Ext No w w') : FnO lo w' q f := h.ext k fun _ _ h => h.elim
theorem FnO.fn (h : FnO lo w q f) (hn : FnI f) : FnA w.heap.size w q.pl f := by
 have hil : q.is.length = f.ins.length := by rw [← h.ise, List.length_map]
 refine ⟨hn.params, hn.regs, hn.frees, hn.bound, hn.name, ⟨hn.nl, hn.ni, fun h0 => ?_⟩, ⟨hn.cl, hn.ci, fun h0 => ?_⟩, ⟨hn.il, fun h0 => ?_⟩, ⟨hn.rl, hn.ri, fun h0 => ?_⟩, Nat.le_refl _⟩
 · obtain ⟨g, hA, _, hg, hc⟩ := jk h.names (List.length_pos_iff.2 h0);refine ⟨g, 0, hA, hg, fun j x hx => ?_⟩;show w.cell? ⟨g, 0 + j * 1, none⟩ = _
   rw [Nat.zero_add, Nat.mul_one];exact hc j _ (by unfold strV; rw [List.getElem?_map, hx]; rfl)
 · obtain ⟨g, hA, _, hg, hc⟩ := xz h.consts (List.length_pos_iff.2 h0);refine ⟨g, 0, hA, hg, fun j x hx i v hv => ?_⟩;rw [Nat.zero_add];exact hc _ _ (zoz (s := 2) (fun _ => rfl) hx hv)
 · obtain ⟨g, hA, _, hg, hc⟩ := xz h.ins.i (by rw [hil]; exact List.length_pos_iff.2 h0);have := insA_of (is := q.is) hg hc (by rw [hil]; exact hn.il) fun x hx => by
    have hm : x.1 ∈ f.ins := by rw [← h.ise]; exact List.mem_map_of_mem hx
    obtain ⟨h1, h2, h3⟩ := hn.ii _ hm;exact ⟨h1, h2, OwnsI.ints (h.ins.l x hx) (by omega) h3⟩
   rw [h.ise] at this;show ∃ g o, q.ai = _ ∧ _
   rw [hA];exact this.row h0
 · obtain ⟨g, hA, _, hg, hc⟩ := xz h.rgs (List.length_pos_iff.2 h0);refine ⟨g, 0, hA, hg, fun j x hx i v hv => ?_⟩;rw [Nat.zero_add];exact hc _ _ (zoz (s := 4) (fun _ => rfl) hx hv)
end
section
variable {P : Program} {N : Nat} {ops : Array Oper} {Q : Exit → Act → World → Prop} {σ : Env} {w : World} {ty : TypeId} {pos : String} {af : Array Edge} {dst : Option Nat} {Post : Value → World → Prop}
theorem kx {T e : TypeId} {x y : Operand} {z : Value} {size bytes g m c B base : Nat} {A : Option Addr} {news : List Value} (hd : P.underlying T = some (.slice e)) (hi : kv P e z size bytes) (hzs : z.cells.size = size) (hsz : 0 < size)
 (hx : ev σ x = some (.slice (some ⟨g, 0, none⟩) 0 0)) (hy : ev σ y = some (.slice A m c)) (hB : Blk w g e #[]) (hb : base ≤ g) (hbw : base ≤ w.heap.size) (hr : Reads w B size A m news) (h1 : ∀ u ∈ news, u.oneCell' = true) (h63 : m ≤ maxLen) (hbytes : m * bytes ≤ 140737488355328)
 (k : ∀ A' c' w', Below w.heap.size w w' → w'.ownsRow base e size (.slice A' m c') m news → (∀ q, (Value.slice A' m c').ownBlock = some q → q = g ∨ w.heap.size ≤ q) → Post (.slice A' m c') w') :
 OW P N ops Q ⟨dst, .call ⟨.builtin .append, #[x, y], #[T, T]⟩, ty, pos, af, none⟩ σ w Post :=
 ow_appendE hd hi hzs hsz hx hy hr h1 h63 hbytes fun A' c' w' hw hO => by
  rcases hO with ⟨h0, hA, hc, hn⟩ | h
  · subst h0 hA hc hn;refine k _ _ _ hw ⟨by simp, Or.inr ⟨g, 0, #[], rfl, hb, hB.ext (Ext.of_below hw No) (fun h => h.elim), Nat.le_refl _, Nat.zero_le _, by simp, by simp⟩⟩ fun q hq => Or.inl ?_;exact (Option.some.inj hq).symm
  · exact k _ _ _ hw (vu h hbw) fun q hq => Or.inr (jv h q hq)
end
theorem strV_one {xs : List ByteArray} : ∀ u ∈ strV xs, u.oneCell' = true := fun u hu => by
 obtain ⟨x, _, rfl⟩ := List.mem_map.1 hu;rfl
theorem conV_one {xs : List (Int × ByteArray)} : ∀ u ∈ conV xs, u.oneCell' = true := fun u hu => by
 obtain ⟨x, _, h⟩ := List.mem_flatMap.1 hu;rcases List.mem_cons.1 h with rfl | h
 · rfl
 · rw [List.mem_singleton.1 h]; rfl
theorem rgsV_one {xs : List LReg} : ∀ u ∈ rgsV xs, u.oneCell' = true := fun u hu => by
 obtain ⟨x, _, h⟩ := List.mem_flatMap.1 hu;unfold regV at h;simp only [List.mem_cons, List.not_mem_nil, or_false] at h
 rcases h with rfl | rfl | rfl | rfl <;> rfl
theorem flat_len {α : Type} {en : α → List Value} {s : Nat} (hs : ∀ x, (en x).length = s) : ∀ (xs : List α), (xs.flatMap en).length = xs.length * s
 | [] => by simp
 | x :: xs => by rw [List.flatMap_cons, List.length_append, hs, flat_len hs xs, List.length_cons, Nat.succ_mul]; omega
theorem zlz {α : Type} {en : α → List Value} {s n : Nat} {w : World} {A : Option Addr} {xs : List α} (hs : ∀ x, (en x).length = s) (h0 : 0 < s) (h : RowS n w s (fun w g o x => xu w g o (en x)) A xs) {B : Nat} (hB : n ≤ B) : Reads w B s A xs.length (xs.flatMap en) := by
 refine ⟨flat_len hs xs, fun hx => ?_⟩;obtain ⟨g, o, e, hg, hc⟩ := h (fun e => by rw [e] at hx; simp at hx);refine ⟨_, e, by show g < B; omega, fun j u hj => ?_⟩;rw [Lib.add_plain];have hjl := (List.getElem?_eq_some_iff.1 hj).1;rw [flat_len hs] at hjl;have hq : j / s < xs.length := Nat.div_lt_of_lt_mul (by rwa [Nat.mul_comm] at hjl)
 have hy : xs[j / s]? = some xs[j / s] := List.getElem?_eq_getElem hq;have hm : j % s < (en xs[j / s]).length := by rw [hs]; exact Nat.mod_lt _ h0
 have hv : (en xs[j / s])[j % s]? = some (en xs[j / s])[j % s] := List.getElem?_eq_getElem hm;have h2 := zoz hs hy hv;have e2 : j / s * s + j % s = j := by rw [Nat.mul_comm]; exact Nat.div_add_mod j s
 rw [e2, hj] at h2;have h3 := hc _ _ hy _ _ hv;rw [Nat.add_assoc, e2] at h3;rw [h3, h2]
theorem strV_flat : ∀ (xs : List ByteArray), (xs.flatMap fun x => [Value.string x]) = strV xs
 | [] => rfl
 | x :: xs => by rw [List.flatMap_cons, strV_flat xs]; rfl
theorem StrsA.reads {n : Nat} {w : World} {A : Option Addr} {xs : List ByteArray} (h : StrsA n w A xs) {B : Nat} (hB : n ≤ B) : Reads w B 1 A xs.length (strV xs) := by
 have := zlz (en := fun x => [.string x]) (s := 1) (fun _ => rfl) (by decide) (xs := xs) (A := A) (w := w) (n := n) (fun h0 => by
  obtain ⟨g, o, e, hg, hc⟩ := h.row h0;refine ⟨g, o, e, hg, fun j x hx i v hv => ?_⟩;match i, hv with
  | 0, hv =>
   obtain rfl := Option.some.inj hv;exact hc j x hx
  | i + 1, hv => cases hv) hB
 rwa [strV_flat] at this
theorem ConsA.reads {n : Nat} {w : World} {A : Option Addr} {xs : List (Int × ByteArray)} (h : ConsA n w A xs) {B : Nat} (hB : n ≤ B) : Reads w B 2 A xs.length (conV xs) := zlz (s := 2) (fun _ => rfl) (by decide) h.row hB
theorem RegsA.reads {n : Nat} {w : World} {A : Option Addr} {xs : List LReg} (h : RegsA n w A xs) {B : Nat} (hB : n ≤ B) : Reads w B 4 A xs.length (rgsV xs) := zlz (s := 4) (fun _ => rfl) (by decide) h.row hB
/-! ### instructions that grow -/
theorem InsO.nil {lo : Nat} {w : World} : InsO lo w none 0 [] := ⟨vg, fun x hx => (by cases hx), fun j k x y h => (by cases h)⟩
section
variable {lo : Nat} {w w1 : World} {A : Option Addr} {c : Nat} {is : List IB} {X : Nat → Prop}
theorem InsO.ext (h : InsO lo w A c is) (k : Ext X w w1) (hi : ∀ q, (Value.slice A is.length c).ownBlock = some q → ¬ X q) (hl : ∀ x ∈ is, ∀ q, (liV x).ownBlock = some q → ¬ X q) : InsO lo w1 A c is :=
 ⟨yt h.i k hi, fun x hx => yt (h.l x hx) k (hl x hx), h.ap⟩
theorem InsO.no (h : InsO lo w A c is) (k : Ext No w w1) : InsO lo w1 A c is := h.ext k (fun _ _ h => h.elim) fun _ _ _ _ h => h.elim
theorem InsO.other {base' n' s' : Nat} {e' : TypeId} {v' : Value} {xs' : List Value} (h : InsO lo w A c is) (h' : w.ownsRow base' e' s' v' n' xs') (h1 : 41 ≠ e') (h2 : 3 ≠ e') (k : Ext (Mut [v'.ownBlock]) w w1) : InsO lo w1 A c is :=
 ⟨vj h.i h' h1 k, fun x hx => vj (h.l x hx) h' h2 k, h.ap⟩
theorem InsO.blk {g' : Nat} {t : TypeId} {cs : Array Value} (h : InsO lo w A c is) (h' : Blk w g' t cs) (h1 : 41 ≠ t) (h2 : 3 ≠ t) (k : Ext (Mut [some g']) w w1) : InsO lo w1 A c is :=
 ⟨zo h.i h' h1 k, fun x hx => zo (h.l x hx) h' h2 k, h.ap⟩
theorem InsO.add {x : IB} {A' : Option Addr} {c' : Nat} (h : InsO lo w A c is) (hx : w.ownsRow lo 3 1 (liV x) x.1.l.length (yq x.1.l)) (hap : ∀ y ∈ is, ∀ q, (liV y).ownBlock = some q → (liV x).ownBlock ≠ some q)
 (h1 : w1.ownsRow lo 41 7 (.slice A' (is ++ [x]).length c') (is ++ [x]).length (kg (is ++ [x]))) (k : Ext (Mut [(Value.slice A is.length c).ownBlock]) w w1) : InsO lo w1 A' c' (is ++ [x]) := by
 refine ⟨h1, fun y hy => ?_, fun i j a b ha hb hij q hq => ?_⟩
 · rcases List.mem_append.1 hy with hy | hy
   · exact vj (h.l y hy) h.i (by decide) k
   · rw [List.mem_singleton.1 hy]; exact vj hx h.i (by decide) k
 · have key : ∀ (i : Nat) (a : IB), (is ++ [x])[i]? = some a → (i < is.length ∧ is[i]? = some a) ∨ (i = is.length ∧ a = x) := fun i a ha => by
    rcases Nat.lt_or_ge i is.length with h3 | h3
    · rw [List.getElem?_append_left h3] at ha;exact Or.inl ⟨h3, ha⟩
    · rw [List.getElem?_append_right h3] at ha;have h4 := (List.getElem?_eq_some_iff.1 ha).1;simp at h4
      have h5 : i = is.length := by omega
      subst h5;simp at ha
      exact Or.inr ⟨rfl, ha.symm⟩
   rcases key i a ha with ⟨_, ha2⟩ | ⟨e1, ea⟩
   · rcases key j b hb with ⟨_, hb2⟩ | ⟨e2, eb⟩
     · exact h.ap i j a b ha2 hb2 hij q hq
     · rw [eb]; exact hap a (List.mem_of_getElem? ha2) q hq
   · rcases key j b hb with ⟨_, hb2⟩ | ⟨e2, eb⟩
     · rw [ea] at hq;exact fun h2 => hap b (List.mem_of_getElem? hb2) q h2 hq
     · omega
end
theorem insCs_add (is : List IB) (x : IB) : kg is ++ gh x.1 x.2.1 x.2.2 = kg (is ++ [x]) := by unfold kg; rw [List.flatMap_append]; simp
end Go.Proofs.YtppdgjlmeahimaaDoor
namespace Go.Proofs.YtppdgjlmeahimaaDoor
open Go.RowKit
set_option maxRecDepth 100000
attribute [local irreducible] OW RS
def fcC (f : LFn) (an : Option Addr) (cn : Nat) (ac : Option Addr) (cc : Nat) (A : Option Addr) (n c : Nat) (ar : Option Addr) (cr rn : Nat) (regs : Int) : Array Value := #[.string f.name, .int .i64 f.params, .int .i64 regs, .int .i64 f.frees, .bool f.gen, .int .i64 f.bound, .slice an f.names.length cn, .slice ac f.consts.length cc, .slice A n c, .slice ar rn cr]
structure CM (lo g1 g2 : Nat) (z2 : Array Value) (f : LFn) (an : Option Addr) (cn : Nat) (ac : Option Addr) (cc : Nat) (ar : Option Addr) (cr : Nat) (rs : List LReg) (regs : Int) (A : Option Addr) (c : Nat) (is : List IB) (w : World) : Prop where
 fb : Blk w g1 27 (fcC f an cn ac cc A is.length c ar cr rs.length regs)
 names : w.ownsRow lo 9 1 (.slice an f.names.length cn) f.names.length (strV f.names)
 consts : w.ownsRow lo 37 2 (.slice ac f.consts.length cc) f.consts.length (conV f.consts)
 rgs : w.ownsRow lo 50 4 (.slice ar rs.length cr) rs.length (rgsV rs)
 ins : InsO lo w A c is
 gb : Blk w g2 27 z2
 h12 : g1 ≠ g2
section
variable {lo g1 g2 : Nat} {z2 : Array Value} {f : LFn} {an : Option Addr} {cn : Nat} {ac : Option Addr} {cc : Nat} {ar : Option Addr} {cr : Nat} {rs : List LReg} {regs : Int} {A : Option Addr} {c : Nat} {is : List IB} {w w1 w2 : World}
theorem CM.no (h : CM lo g1 g2 z2 f an cn ac cc ar cr rs regs A c is w) (k : Ext No w w1) : CM lo g1 g2 z2 f an cn ac cc ar cr rs regs A c is w1 :=
 ⟨h.fb.ext k (fun h => h.elim), yt h.names k (fun _ _ h => h.elim), yt h.consts k (fun _ _ h => h.elim), yt h.rgs k (fun _ _ h => h.elim), h.ins.no k, h.gb.ext k (fun h => h.elim), h.h12⟩
theorem CM.late {X : Nat → Prop} (h : CM lo g1 g2 z2 f an cn ac cc ar cr rs regs A c is w) (k : Ext X w w1) (hX : ∀ q, X q → w.heap.size ≤ q) : CM lo g1 g2 z2 f an cn ac cc ar cr rs regs A c is w1 := by
 have hl : ∀ q, q < w.heap.size → ¬ X q := fun q hq hm => by have := hX q hm; omega
 exact ⟨h.fb.ext k (hl _ h.fb.lt), yt h.names k fun q hq => hl q (jj h.names q hq), yt h.consts k fun q hq => hl q (jj h.consts q hq), yt h.rgs k fun q hq => hl q (jj h.rgs q hq), h.ins.ext k (fun q hq => hl q (jj h.ins.i q hq)) fun x hx q hq => hl q (jj (h.ins.l x hx) q hq), h.gb.ext k (hl _ h.gb.lt), h.h12⟩
theorem CM.lt (h : CM lo g1 g2 z2 f an cn ac cc ar cr rs regs A c is w) {x : IB} (hx : x ∈ is) {q : Nat} (hq : (liV x).ownBlock = some q) : q < w.heap.size := jj (h.ins.l x hx) q hq
theorem CM.put {x : IB} {A' : Option Addr} {c' : Nat} (h : CM lo g1 g2 z2 f an cn ac cc ar cr rs regs A c is w) (hx : w.ownsRow lo 3 1 (liV x) x.1.l.length (yq x.1.l)) (hap : ∀ y ∈ is, ∀ q, (liV y).ownBlock = some q → (liV x).ownBlock ≠ some q)
 (h1 : w1.ownsRow lo 41 7 (.slice A' (is ++ [x]).length c') (is ++ [x]).length (kg (is ++ [x]))) (k1 : Ext (Mut [(Value.slice A is.length c).ownBlock]) w w1) (h2 : Blk w2 g1 27 (fcC f an cn ac cc A' (is ++ [x]).length c' ar cr rs.length regs)) (k2 : Ext (Mut [some g1]) w1 w2) : CM lo g1 g2 z2 f an cn ac cc ar cr rs regs A' c' (is ++ [x]) w2 := by
 have hb1 := vk h.fb h.ins.i (by decide) k1
 exact ⟨h2, zo (vj h.names h.ins.i (by decide) k1) hb1 (by decide) k2, zo (vj h.consts h.ins.i (by decide) k1) hb1 (by decide) k2, zo (vj h.rgs h.ins.i (by decide) k1) hb1 (by decide) k2, (h.ins.add hx hap h1 k1).blk hb1 (by decide) (by decide) k2, (vk h.gb h.ins.i (by decide) k1).ext k2 (fun hm => h.h12 (qb hm).symm), h.h12⟩
end
section
variable {lo g1 g2 : Nat} {z2 : Array Value} {f : LFn} {an : Option Addr} {cn : Nat} {ac : Option Addr} {cc : Nat} {ar : Option Addr} {cr : Nat} {rs : List LReg} {regs : Int} {A : Option Addr} {c : Nat} {is : List IB} {w w1 w2 : World}
theorem CM.putR {rs' : List LReg} {A' : Option Addr} {c' : Nat} (h : CM lo g1 g2 z2 f an cn ac cc ar cr rs regs A c is w)
 (h1 : w1.ownsRow lo 50 4 (.slice A' rs'.length c') rs'.length (rgsV rs')) (k1 : Ext (Mut [(Value.slice ar rs.length cr).ownBlock]) w w1) (h2 : Blk w2 g1 27 (fcC f an cn ac cc A is.length c A' c' rs'.length regs)) (k2 : Ext (Mut [some g1]) w1 w2) : CM lo g1 g2 z2 f an cn ac cc A' c' rs' regs A c is w2 := by
 have hb1 := vk h.fb h.rgs (by decide) k1
 exact ⟨h2, zo (vj h.names h.rgs (by decide) k1) hb1 (by decide) k2, zo (vj h.consts h.rgs (by decide) k1) hb1 (by decide) k2, zo h1 hb1 (by decide) k2, (h.ins.other h.rgs (by decide) (by decide) k1).blk hb1 (by decide) (by decide) k2, (vk h.gb h.rgs (by decide) k1).ext k2 (fun hm => h.h12 (qb hm).symm), h.h12⟩
end
def RetFn (w : World) (f : LFn) : Ending → World → Prop := fun e w' => ∃ q, e = .returned (fnV q.pl f) ∧ FnO w.heap.size w' q f ∧ Below w.heap.size w w'
section
variable (w : World) (p : Pl) (f : LFn) (n0 : Nat) (hF : FnA n0 w p f)
include hF
theorem copy_any : Calls Tryd.prog 16 #[fnV p f] w (RetFn w f) := by
 have hn0 := hF.size;have hnl := hF.names.len;have hcl := hF.consts.len;have hil := hF.ins.len;have hrl := hF.rgs.len;obtain ⟨lo, hlo⟩ : ∃ lo, lo = w.heap.size := ⟨_, rfl⟩;refine qw Tryd.func16 rfl Tryd.ntmps16 rfl (srx (za rfl (vd rfl ?_)));rintro g1 wA B1 E1 G1;refine za rfl (qa zr27 ?_);rintro g2 wB B2 E2 G2
 have B1b : Blk wB g1 27 (fcC f p.an p.cn p.ac p.cc p.ai f.ins.length p.ci p.ar p.cr f.rgs.length f.regs) := B1.ext E2 (fun h => h.elim);have h12 : g1 < g2 := by have := B1.lt; omega
 have hs1 := E1.size;have hs2 := E2.size;have hx2 : ∀ q, q ≠ g1 → ¬ Mut [some g1] q := fun q hq hm => hq (qb hm);have hEB : Ext (fun q => lo ≤ q) w wB := (E1.mono (Y := fun q => lo ≤ q) (fun _ h _ => h.elim)).step E2 (fun _ h => h.elim);refine rnx (srx (za rfl (oq Tryd.underlying22 sz9 zr9 ?_)));rintro g3 wC B3 hb Gq;have E3 := Ext.of_below hb No
 have B1c := B1b.ext E3 (fun h => h.elim);have hEC := hEB.step E3 (fun _ h => h.elim);have hFC := hF.low (X := fun q => lo ≤ q) ⟨hEC, fun q hq => by have hq : lo ≤ q := hq; omega⟩
 refine za rfl (zb Tryd.underlying27 rfl sz22 (by decide) rfl (za rfl (ze Tryd.underlying22 rfl rfl B1c rfl (za rfl (kx Tryd.underlying22 inf9 rfl (by decide) rfl rfl B3 (show lo ≤ g3 by omega) (by have := E3.size; omega) (hFC.names.reads hFC.size) strV_one (by unfold maxLen; omega) (by omega) ?_)))));rintro an cn wD hb ON Nq;have E4 := Ext.of_below hb No
 have B1d := B1c.ext E4 (fun h => h.elim);refine za rfl (zb Tryd.underlying27 rfl sz22 (by decide) rfl (yx (yr (cs' := fcC f an cn p.ac p.cc p.ai f.ins.length p.ci p.ar p.cr f.rgs.length f.regs) sz22 rfl rfl B1d rfl rfl (Nat.le_of_ble_eq_true rfl) rfl ?_)));rintro wE B1e E5;have ON5 := zo ON B1d (by decide) E5
 have hE5 := (hEC.step E4 (fun _ h => h.elim)).step E5 (fun q hq => Or.inl (show lo ≤ q by have := qb hq; omega));refine rnx (srx (za rfl (oq Tryd.underlying23 sz37 zr37 ?_)));rintro g4 wF B4 hb Gq2;have E6 := Ext.of_below hb No;have B1f := B1e.ext E6 (fun h => h.elim);have hE6 := hE5.step E6 (fun _ h => h.elim)
 have hF6 := hF.low (X := fun q => lo ≤ q) ⟨hE6, fun q hq => by have hq : lo ≤ q := hq; omega⟩
 refine za rfl (zb Tryd.underlying27 rfl sz23 (by decide) rfl (za rfl (ze Tryd.underlying23 rfl rfl B1f rfl (za rfl (kx Tryd.underlying23 inf37 rfl (by decide) rfl rfl B4 (show lo ≤ g4 by have := hE5.size; omega) (by have := hE6.size; omega) (hF6.consts.reads hF6.size) conV_one (by unfold maxLen; omega) (by omega) ?_)))));rintro ac cc wG hb OC Nq2
 have E7 := Ext.of_below hb No;have B1g := B1f.ext E7 (fun h => h.elim);refine za rfl (zb Tryd.underlying27 rfl sz23 (by decide) rfl (yx (yr (cs' := fcC f an cn ac cc p.ai f.ins.length p.ci p.ar p.cr f.rgs.length f.regs) sz23 rfl rfl B1g rfl rfl (Nat.le_of_ble_eq_true rfl) rfl ?_)));rintro wH B1h E8;have OC8 := zo OC B1g (by decide) E8
 have ON8 := zo (yt (yt ON5 E6 (fun _ _ h => h.elim)) E7 (fun _ _ h => h.elim)) B1g (by decide) E8;have hE8 := (hE6.step E7 (fun _ h => h.elim)).step E8 (fun q hq => Or.inl (show lo ≤ q by have := qb hq; omega));refine rnx (srx (za rfl (oq Tryd.underlying25 xi zr50 ?_)));rintro g5 wI B5 hb Gq3;have E9 := Ext.of_below hb No
 have B1i := B1h.ext E9 (fun h => h.elim);have hE9 := hE8.step E9 (fun _ h => h.elim);have hF9 := hF.low (X := fun q => lo ≤ q) ⟨hE9, fun q hq => by have hq : lo ≤ q := hq; omega⟩
 refine za rfl (zb Tryd.underlying27 rfl xj (by decide) rfl (za rfl (ze Tryd.underlying25 rfl rfl B1i rfl (za rfl (kx Tryd.underlying25 inf50 rfl (by decide) rfl rfl B5 (show lo ≤ g5 by have := hE8.size; omega) (by have := hE9.size; omega) (hF9.rgs.reads hF9.size) rgsV_one (by unfold maxLen; omega) (by omega) ?_)))));rintro ar cr wJ hb OR Nq3
 have E10 := Ext.of_below hb No;have B1j := B1i.ext E10 (fun h => h.elim);refine za rfl (zb Tryd.underlying27 rfl xj (by decide) rfl (yx (yr (cs' := fcC f an cn ac cc p.ai f.ins.length p.ci ar cr f.rgs.length f.regs) xj rfl rfl B1j rfl rfl (Nat.le_of_ble_eq_true rfl) rfl ?_)));rintro wK B1k E11;have OR11 := zo OR B1j (by decide) E11
 have OC11 := zo (yt (yt OC8 E9 (fun _ _ h => h.elim)) E10 (fun _ _ h => h.elim)) B1j (by decide) E11;have ON11 := zo (yt (yt ON8 E9 (fun _ _ h => h.elim)) E10 (fun _ _ h => h.elim)) B1j (by decide) E11;have hE11 := (hE9.step E10 (fun _ h => h.elim)).step E11 (fun q hq => Or.inl (show lo ≤ q by have := qb hq; omega))
 refine rnx (srx (za rfl (zb Tryd.underlying27 rfl ju (by decide) rfl (za rfl (ze Tryd.underlying24 rfl rfl B1k rfl (anx rfl (srx (za rfl (zb Tryd.underlying27 rfl ju (by decide) rfl (yx (yr (cs' := fcC f an cn ac cc none 0 0 ar cr f.rgs.length f.regs) ju rfl rfl B1k rfl rfl (Nat.le_of_ble_eq_true rfl) rfl ?_)))))))))));rintro wL B1l E12
 have hXL : Ext (Mut [some g1]) wB wL := (((((((((E3.mono (Y := Mut [some g1]) (fun _ h _ => h.elim)).step E4 (fun _ h => h.elim)).step E5 (fun _ h => Or.inl h)).step E6 (fun _ h => h.elim)).step E7 (fun _ h => h.elim)).step E8 (fun _ h => Or.inl h)).step E9 (fun _ h => h.elim)).step E10 (fun _ h => h.elim)).step E11 (fun _ h => Or.inl h)).step E12 (fun _ h => Or.inl h)
 obtain ⟨z2, hz2⟩ : ∃ z2, Blk wB g2 27 z2 ∧ z2.size = 10 := ⟨_, B2, rfl⟩;have M0 : CM lo g1 g2 z2 f an cn ac cc ar cr f.rgs f.regs none 0 [] wL := ⟨B1l, zo ON11 B1k (by decide) E12, zo OC11 B1k (by decide) E12, zo OR11 B1k (by decide) E12, InsO.nil, hz2.1.ext hXL (hx2 g2 (by omega)), Nat.ne_of_lt h12⟩
 have hE12 := hE11.step E12 (fun q hq => Or.inl (show lo ≤ q by have := qb hq; omega))
 refine rnx (zm (srx (anx rfl (zv (qu (ι := Nat × List IB × Option Addr × Nat) (fun (i, is, A, c) => [(1, .pointer (some ⟨g1, 0, none⟩)), (2, .pointer (some ⟨g2, 0, none⟩)), (3, .slice p.ai f.ins.length p.ci), (4, .int .i64 ((i : Nat) : Int))]) (fun (i, is, A, c) w' => i ≤ f.ins.length ∧ Ext (fun q => lo ≤ q) w w' ∧ CM lo g1 g2 z2 f an cn ac cc ar cr f.rgs f.regs A c is w' ∧ is.map (·.1) = f.ins.take i) (fun (i, _) => f.ins.length - i) (0, [], none, 0) ⟨rfl, rfl, rfl, rfl, trivial⟩ (⟨Nat.zero_le _, hE12, M0, rfl⟩) ?_)))))
 rintro ⟨i, is, A, c⟩ w2 ⟨hil2, hEi, Mi, hisi⟩;have hisl : is.length = i := by have h := congrArg List.length hisi; rw [List.length_map, List.length_take] at h; omega
 refine zm (srx (mvx rfl (mvx rfl (za rfl (yp Tryd.underlying24 rfl (za rfl (yy rfl rfl (rnx (zw rfl (fun hi => ?_) (fun hi => ?_))))))))))
 ·
  have hi := of_decide_eq_true hi;have hilt : i < f.ins.length := by omega
  obtain ⟨x, hx⟩ : ∃ x, f.ins[i]? = some x := ⟨_, List.getElem?_eq_getElem hilt⟩;have hFi := hF.low (X := fun q => lo ≤ q) ⟨hEi, fun q hq => by have hq : lo ≤ q := hq; omega⟩;obtain ⟨gi, oi, hAi, hgi, hcx⟩ := hFi.ins.row.at hx;obtain ⟨hI, B, cB, hcB, hl, hcells⟩ := hcx;have hsz := hEi.size;obtain ⟨wi, hwi⟩ : ∃ wi, wi = w2 := ⟨_, rfl⟩;subst hwi
  refine zq (zh (zm (zv (srx (mvx rfl (mvx rfl (za rfl (yh (j := i) Tryd.underlying24 vv (congrArg (fun z ↦ some (Value.slice z f.ins.length p.ci)) hAi) rfl rfl hilt (za rfl (vt (cs := (gh x B cB).toArray) Tryd.underlying41 rfl vv rfl rfl (fun j v hj ↦ hcells j v (by simpa using hj)) (za rfl (qa zix ?_))))))))))));rintro g5 wM B50 E13 G5
  refine yx (qy vv rfl rfl B50 rfl rfl rfl ?_);rintro wN B5 E14;have hE14 := (hEi.step E13 (fun _ h => h.elim)).step E14 (fun q hq => Or.inl (show lo ≤ q by have := qb hq; omega));refine rnx (srx (za rfl (oq Tryd.underlying28 sz3 zr3 ?_)));rintro g6 wO B6 hb Gq6;have E15 := Ext.of_below hb No;have B5b := B5.ext E15 (fun h => h.elim)
  have hE15 := hE14.step E15 (fun _ h => h.elim);have hF15 := hF.low (X := fun q => lo ≤ q) ⟨hE15, fun q hq => by have hq : lo ≤ q := hq; omega⟩;have hl15 : IntsA n0 wO B x.l := ((hl.low (X := No) ⟨E13, fun _ h => h.elim⟩).low (X := Mut [some g5]) ⟨E14, fun q hq => by have := qb hq; omega⟩).low (X := No) ⟨E15, fun _ h => h.elim⟩
  refine za rfl (zb Tryd.underlying41 rfl ziz (by decide) rfl (za rfl (ze Tryd.underlying28 rfl rfl B5b rfl (za rfl (kx Tryd.underlying28 inf3 rfl (by decide) rfl rfl B6 (show lo ≤ g6 by have := hE14.size; omega) (by have := hE15.size; omega) (hl15.reads hF15.size) kf (by unfold maxLen; omega) (by omega) ?_)))));rintro A4 c4 wP hb OL Nq4
  have E16 := Ext.of_below hb No;have B5c := B5b.ext E16 (fun h => h.elim);refine za rfl (zb Tryd.underlying41 rfl ziz (by decide) rfl (yx (yr (cs' := (gh x A4 c4).toArray) ziz rfl rfl B5c rfl rfl (Nat.le_of_ble_eq_true rfl) rfl ?_)));rintro wQ B5d E17;have hg5 : ∀ q, Mut [some g5] q → wi.heap.size ≤ q := fun q hq => by have := qb hq; omega
  have hK : Ext (fun q => wi.heap.size ≤ q) wi wQ := ((((E13.mono (Y := fun q => wi.heap.size ≤ q) (fun _ h _ => h.elim)).step E14 (fun q hq => Or.inl (hg5 q hq))).step E15 (fun _ h => h.elim)).step E16 (fun _ h => h.elim)).step E17 (fun q hq => Or.inl (hg5 q hq));have M3 := Mi.late hK (fun _ h => h);have OL17 := zo OL B5c (by decide) E17
  have hE17 := hEi.step hK (fun q hq => Or.inl (show lo ≤ q by have hq : wi.heap.size ≤ q := hq; omega));obtain ⟨x9, hx9⟩ : ∃ x9 : IB, x9 = (x, A4, c4) := ⟨_, rfl⟩;have hO9 : wQ.ownsRow lo 3 1 (liV x9) x9.1.l.length (yq x9.1.l) := by rw [hx9]; exact OL17
  have hap9 : ∀ y ∈ is, ∀ q, (liV y).ownBlock = some q → (liV x9).ownBlock ≠ some q := fun y hy q hq h9 => by
   have h1 := Mi.lt hy hq;rw [hx9] at h9;have h13 := E13.size;have h14 := E14.size;have h15 := E15.size;rcases Nq4 q h9 with h | h
   · omega
   · omega
  have hl9 : (is ++ [x9]).length = is.length + 1 := by rw [List.length_append]; rfl
  refine rnx (zp (za rfl (zb Tryd.underlying27 rfl ju (by decide) rfl (za rfl (ze Tryd.underlying24 rfl rfl M3.fb rfl (za rfl (yf Tryd.underlying41 rfl vv rfl B5d rfl (za rfl (yu (cs := #[.int .i64 x.op, .int .i64 x.d, .int .i64 x.a, .int .i64 x.b, .int .i64 x.t, .int .i64 x.k, .slice A4 x.l.length c4]) Tryd.underlying24 vv zix (by decide) rfl (fill1x7 (.int .i64 x.op) (.int .i64 x.d) (.int .i64 x.a) (.int .i64 x.b) (.int .i64 x.t) (.int .i64 x.k) (.slice A4 x.l.length c4)) ?_)))))))))
  rintro g7 wR B7 E18 G7;have M4 := M3.no E18;have hO18 := yt hO9 E18 (fun _ _ h => h.elim)
  refine za rfl (kr (n' := (is ++ [x9]).length) (xs' := kg (is ++ [x9])) Tryd.underlying24 inf41 rfl (by decide) rfl M4.ins.i rfl (zkx B7 B7.lt rfl) (by simp [Value.oneCell']) hl9.symm (by rw [← insCs_add, hx9]; rfl) (by rw [hl9]; unfold maxLen; omega) (by rw [hl9]; omega) (by have := hE17.size; have := E18.size; omega) ?_);rintro A5 c5 wS O5 E19 N5
  have Bf := vk M4.fb M4.ins.i (by decide) E19;refine za rfl (zb Tryd.underlying27 rfl ju (by decide) rfl (yx (yr (cs' := fcC f an cn ac cc A5 (is ++ [x9]).length c5 ar cr f.rgs.length f.regs) ju rfl rfl Bf rfl rfl (Nat.le_of_ble_eq_true rfl) rfl ?_)));rintro wT Bs E20;have M5 := M4.put hO18 hap9 O5 E19 Bs E20
  have hE20 := ((hE17.step E18 (fun _ h => h.elim)).step E19 (fun q hq => Or.inl (show lo ≤ q from own_ge M4.ins.i q hq))).step E20 (fun q hq => Or.inl (show lo ≤ q by have := qb hq; omega));refine yj (zk (zh (zp (mvx rfl (za rfl (qe rfl rfl (zy (by omega)) (avx rfl (yj ?_))))))))
  exact yo (i + 1, is ++ [x9], A5, c5) (by show f.ins.length - (i + 1) < f.ins.length - i; omega) ⟨rfl, rfl, rfl, rfl, trivial⟩ (⟨hilt, hE20, M5, by rw [List.map_append, hisi, List.take_add_one, hx, hx9]; rfl⟩)
 ·
  have hi := of_decide_eq_false hi;have hie : i = f.ins.length := by omega
  rw [hie, List.take_length] at hisi;refine qn (zi (zi (zx (zh (srx (za rfl (yf Tryd.underlying27 rfl vq rfl Mi.fb rfl (yx (qy vq rfl rfl Mi.gb rfl rfl hz2.2.symm ?_)))))))));rintro wU Bz E21
  have hFO : FnO lo wU ⟨an, cn, ac, cc, A, c, ar, cr, is⟩ f := ⟨zo Mi.names Mi.gb (by decide) E21, zo Mi.consts Mi.gb (by decide) E21, Mi.ins.blk Mi.gb (by decide) (by decide) E21, hisi, zo Mi.rgs Mi.gb (by decide) E21⟩;have hFin := hEi.step E21 (fun q hq => Or.inl (show lo ≤ q by have := qb hq; omega))
  have hisn : is.length = f.ins.length := by rw [← hisi, List.length_map]
  refine rnx (yc (yb (rs := [.cell 2 27]) (vs := [_]) rfl ⟨⟨_, rfl, zmv Tryd.underlying27 rfl vq Bz rfl⟩, trivial⟩ ?_));exact ⟨⟨an, cn, ac, cc, A, c, ar, cr, is⟩, by rw [hisn]; rfl, hlo ▸ hFO, hFin.below (fun q h => by rw [hlo] at h; exact h)⟩
end
end Go.Proofs.YtppdgjlmeahimaaDoor
namespace Go.Proofs.YtppdgjlmeahimaaDoor
open Go.RowKit
set_option maxRecDepth 100000
def mAt (m : List Int) (x : Int) : Int := m.getD x.toNat 0
def qr (m : List Int) (i : LIns) : LIns := ⟨i.op, if uD i.op = true then mAt m i.d else i.d, if uA i.op = true then mAt m i.a else i.a, if uB i.op = true then mAt m i.b else i.b, i.t, i.k, if uL i.op = true then i.l.map (mAt m) else i.l⟩
def od (m : List Int) (r : LReg) : LReg := ⟨r.fr, r.to, r.tg, mAt m r.d⟩
def zex (f : LFn) (m : List Int) (n : Int) : LFn := ⟨f.name, f.params, n, f.frees, f.gen, f.bound, f.names, f.consts, f.ins.map (qr m), f.rgs.map (od m)⟩
theorem mAt_get {m : List Int} {x : Int} (h0 : 0 ≤ x) (h1 : x < (m.length : Int)) : m[x.toNat]? = some (mAt m x) := by
 unfold mAt;rw [List.getD_eq_getElem?_getD, List.getElem?_eq_getElem (by omega)]; rfl
def km (op : Int) : Nat := (if uA op = true then 1 else 0) + (if uB op = true then 1 else 0)
theorem op_all {p : Int → Prop} (h : ∀ k : Fin 45, p (k.val : Int)) (h2 : ∀ op, op < 0 ∨ 44 < op → p op) (op : Int) : p op := by
 by_cases h3 : op < 0 ∨ 44 < op
 · exact h2 op h3
 · have := h ⟨op.toNat, by omega⟩;have e : ((op.toNat : Nat) : Int) = op := by omega
   simpa [e] using this
theorem flN_out {op : Int} (h : op < 0 ∨ 44 < op) : flN op = 0 := by unfold flN; rw [if_pos h]
theorem uB_uA (op : Int) : uB op = true → uA op = true := by
 refine op_all (p := fun op => uB op = true → uA op = true) (by decide +kernel) (fun op h => ?_) op;unfold uB; rw [flN_out h]; intro h; cases h
theorem bare_0 (op : Int) : decide (0 < ((km op : Nat) : Int)) = uA op := by
 unfold km;have := uB_uA op;cases ha : uA op <;> cases hb : uB op <;> simp_all
theorem bare_1 (op : Int) : decide (1 < ((km op : Nat) : Int)) = uB op := by
 unfold km;have := uB_uA op;cases ha : uA op <;> cases hb : uB op <;> simp_all
theorem bare_reads (op : Int) : (yg ⟨op, 0, 0, 0, 0, 0, []⟩).length = km op := by
 unfold yg km;cases uA op <;> cases uB op <;> simp
theorem bare_reads1 (op : Int) : (yg ⟨op, 0, 0, 0, 0, 0, [0]⟩).length = km op + (if (uL op && op != 35) = true then 1 else 0) := by
 unfold yg km;cases uA op <;> cases uB op <;> simp <;> split <;> simp
theorem uL_35 : uL 35 = true := by decide +kernel
theorem named_35 {op : Int} (h : (op == 35) = true) : uL op = true := by rw [eq_of_beq h]; exact uL_35
theorem named_ne {op : Int} (h : (op == 35) = false) : decide (((km op : Nat) : Int) < (((yg ⟨op, 0, 0, 0, 0, 0, [0]⟩).length : Nat) : Int)) = uL op := by
 have h2 : (op != 35) = true := by simp [bne, h]
 rw [bare_reads1, h2, Bool.and_true];cases uL op <;> simp <;> omega
theorem uD_35' : uD 35 = false := by decide +kernel
theorem wr_35 {op : Int} (h : (op != 35) = false) : uD op = false := by
 have : op = 35 := by simpa using h
 rw [this]; exact uD_35'
theorem wr_ne {i : LIns} (h : (i.op != 35) = true) : decide (0 < (((yn i).length : Nat) : Int)) = uD i.op := by
 have h2 : i.op ≠ 35 := by simpa using h
 unfold yn;rw [if_neg h2];cases uD i.op <;> simp
section
variable {f : LFn} {m : List Int} {n : Int} (h : jg f m n)
include h
theorem ol {x : Int} (h0 : 0 ≤ x) (h1 : x < f.regs) : m[x.toNat]? = some (mAt m x) := mAt_get h0 (by have := h.2.1; omega)
theorem oj {x : Int} (h0 : 0 ≤ x) (h1 : x < f.regs) : I64 (mAt m x) := by
 obtain ⟨hr0, hr1, hp0, hp1, hne⟩ := ji h.1;have h2 := h.2.2.2.2.1 _ _ (ol h h0 h1);have h3 := h.2.2.2.1;unfold I64;omega
theorem place_in {i : LIns} (hi : i ∈ f.ins) : (uD i.op = true → 0 ≤ i.d ∧ i.d < f.regs) ∧ (uA i.op = true → 0 ≤ i.a ∧ i.a < f.regs) ∧ (uB i.op = true → 0 ≤ i.b ∧ i.b < f.regs) ∧ (uL i.op = true → ∀ y ∈ i.l, 0 ≤ y ∧ y < f.regs) := by
 obtain ⟨j, hj⟩ := List.mem_iff_getElem?.1 hi;obtain ⟨h1, h2, _⟩ := zfk h.1 hj;refine ⟨fun hu => ?_, fun hu => ?_, fun hu => ?_, fun hu y hy => ?_⟩
 · by_cases h35 : i.op = 35
   · rw [h35, uD_35'] at hu; cases hu
   · exact h2 i.d (by unfold yn; rw [if_neg h35, if_pos hu]; simp)
 · exact h1 i.a (by unfold yg; rw [if_pos hu]; simp)
 · exact h1 i.b (by unfold yg; rw [if_pos hu]; simp)
 · by_cases h35 : i.op = 35
   · exact h2 y (by unfold yn; rw [if_pos h35]; exact hy)
   · have : (uL i.op && i.op != 35) = true := by rw [hu]; simpa using h35
     exact h1 y (by unfold yg; rw [if_pos this]; simp [hy])
theorem place_nums (hn : FnI f) (hin : I64 n) : FnI (zex f m n) := by
 refine ⟨hn.params, hin, hn.frees, hn.bound, hn.name, hn.nl, hn.ni, hn.cl, hn.ci, by show 72 * (f.ins.map (qr m)).length ≤ _; rw [List.length_map]; exact hn.il, fun x hx => ?_, by show 32 * (f.rgs.map (od m)).length ≤ _; rw [List.length_map]; exact hn.rl, fun x hx => ?_⟩
 · obtain ⟨i, hi, rfl⟩ := List.mem_map.1 (show x ∈ f.ins.map (qr m) from hx);obtain ⟨h1, h2, h3⟩ := hn.ii i hi;obtain ⟨p1, p2, p3, p4⟩ := place_in h hi;refine ⟨⟨h1.op, ?_, ?_, ?_, h1.t, h1.k⟩, ?_, ?_⟩
   · show I64 (if uD i.op = true then mAt m i.d else i.d)
     split
     · rename_i hu; exact oj h (p1 hu).1 (p1 hu).2
     · exact h1.d
   · show I64 (if uA i.op = true then mAt m i.a else i.a)
     split
     · rename_i hu; exact oj h (p2 hu).1 (p2 hu).2
     · exact h1.a
   · show I64 (if uB i.op = true then mAt m i.b else i.b)
     split
     · rename_i hu; exact oj h (p3 hu).1 (p3 hu).2
     · exact h1.b
   · show 8 * (if uL i.op = true then i.l.map (mAt m) else i.l).length ≤ _
     split
     · rw [List.length_map]; exact h2
     · exact h2
   · intro y hy;have hy : y ∈ (if uL i.op = true then i.l.map (mAt m) else i.l) := hy;split at hy
     · rename_i hu
       obtain ⟨z, hz, rfl⟩ := List.mem_map.1 hy;exact oj h (p4 hu z hz).1 (p4 hu z hz).2
     · exact h3 y hy
 · obtain ⟨r, hr, rfl⟩ := List.mem_map.1 (show x ∈ f.rgs.map (od m) from hx);have h1 := hn.ri r hr;have h2 := sound_rg h.1 hr;exact ⟨h1.fr, h1.to, h1.tg, oj h h2.2.2.2.2.2.1 h2.2.2.2.2.2.2⟩
end
/-! ### own rows written in place -/
section
variable {P : Program} {N : Nat} {ops : Array Oper} {Q : Exit → Act → World → Prop} {σ : Env} {w : World} {ty : TypeId} {pos : String} {af : Array Edge} {dst : Option Nat} {Post : Value → World → Prop}
theorem ow_storeO {T e : TypeId} {x y : Operand} {g base n c j : Nat} {v : Value} {xs xs' : List Value} (hs : qm P T 1) (hx : ev σ x = some (.pointer (some ⟨g, 0 + j, none⟩))) (hy : ev σ y = some v) (ho : w.ownsRow base e 1 (.slice (some ⟨g, 0, none⟩) n c) n xs) (hj : j < n) (hv : v.cells = #[v]) (h1 : gl [v] = true) (he : xs.set j v = xs')
 (k : ∀ w', w'.ownsRow base e 1 (.slice (some ⟨g, 0, none⟩) n c) n xs' → Ext (Mut [some g]) w w' → Post undef w') : OW P N ops Q ⟨dst, .store T x y, ty, pos, af, none⟩ σ w Post := by
 subst he;rcases ho.2 with ⟨h0, _⟩ | ⟨g', cap, cur, hv', hb, hh, hn, hm, hsz, ht⟩
 · cases h0
 · cases hv'
   refine yr (cs' := cur.setIfInBounds (0 + j) v) hs hx hy (show Blk w g e cur from hh) hv h1 (by omega) rfl fun w' hb' he' => k w' ⟨by rw [List.length_set]; exact ho.1, Or.inr ⟨g, c, _, rfl, hb, hb', hn, hm, by rw [Array.size_setIfInBounds]; exact hsz, ?_⟩⟩ he';rw [Array.toList_setIfInBounds, Nat.zero_add, List.take_set, ht]
end
def midL (u : Bool) (m l : List Int) (k : Nat) : List Int := if u = true then (l.take k).map (mAt m) ++ l.drop k else l
theorem midL_0 (u : Bool) (m l : List Int) : midL u m l 0 = l := by unfold midL; split <;> simp
theorem midL_end (u : Bool) (m l : List Int) : midL u m l l.length = if u = true then l.map (mAt m) else l := by unfold midL; split <;> simp
theorem midL_at {m l : List Int} {k : Nat} {y : Int} (h : l[k]? = some y) : (midL true m l k)[k]? = some y := by
 unfold midL;have hk := (List.getElem?_eq_some_iff.1 h).1;rw [if_pos rfl, List.getElem?_append_right (by simp; omega)];simp
 rw [show min k l.length = k by omega, Nat.sub_self, Nat.add_zero];exact h
theorem midL_set {m l : List Int} {k : Nat} {y : Int} (h : l[k]? = some y) : (midL true m l k).set k (mAt m y) = midL true m l (k + 1) := by
 unfold midL;have hk := (List.getElem?_eq_some_iff.1 h).1;rw [if_pos rfl, if_pos rfl, List.set_append_right _ _ (by simp; omega), List.take_add_one, h, List.map_append];have hd : l.drop k = l[k] :: l.drop (k + 1) := List.drop_eq_getElem_cons hk;have hy : l[k] = y := by rw [List.getElem?_eq_getElem hk] at h; exact Option.some.inj h
 have hl : (List.map (mAt m) (l.take k)).length = k := by rw [List.length_map, List.length_take]; omega
 rw [hl, Nat.sub_self, hd, List.set_cons_zero];simp
theorem midL_no (m l : List Int) (k : Nat) : midL false m l k = l := by unfold midL; simp
theorem intsV_set (l : List Int) (k : Nat) (y : Int) : (yq l).set k (.int .i64 y) = yq (l.set k y) := by unfold yq; rw [List.map_set]
end Go.Proofs.YtppdgjlmeahimaaDoor
namespace Go.Proofs.YtppdgjlmeahimaaDoor
open Go.RowKit
set_option maxRecDepth 100000
attribute [local irreducible] OW RS
theorem ext_none {w w' : World} (h : Ext (Mut [none]) w w') : Ext No w w' := h.mono fun q hq _ => by have := xf hq; cases this
theorem ret_int {w w' : World} {xs : List Int} {e : Ending} (h : zhv w xs e w') : ∃ A c, e = .returned (.slice A xs.length c) ∧ Below w.heap.size w w' := by
 obtain ⟨A, c, he, _, hb⟩ := h;exact ⟨A, c, he, hb⟩
section
variable (w : World) (p : Pl) (f : LFn) (n0 : Nat) (hF : FnA n0 w p f) (A : Option Addr) (c n1 : Nat) (m : List Int) (hm : IntsA n1 w A m) (n : Int) (hR : jg f m n) (hn1 : n1 ≤ w.heap.size)
include hF hm hR hn1
theorem place_any : Calls Tryd.prog 31 #[fnV p f, .slice A m.length c, .int .i64 n] w (RetFn w (zex f m n)) := by
 have hn0 := hF.size;have hnl := hF.names.len;have hcl := hF.consts.len;have hil := hF.ins.len;have hrl := hF.rgs.len;have hreg := hR.2.1;obtain ⟨lo, hlo⟩ : ∃ lo, lo = w.heap.size := ⟨_, rfl⟩;refine qw Tryd.func31 rfl Tryd.ntmps31 rfl (srx (za rfl (vd rfl ?_)));rintro g1 wA B1 E1 G1;refine za rfl (qa zr27 ?_);rintro g6 wB B6 E2 G6
 have B1b : Blk wB g1 27 (fcC f p.an p.cn p.ac p.cc p.ai f.ins.length p.ci p.ar p.cr f.rgs.length f.regs) := B1.ext E2 (fun h => h.elim);refine rnx (srx (za rfl (yf Tryd.underlying27 rfl vq rfl B1b rfl (za rfl (qa zr27 ?_)))));rintro g7 wC B70 E3 G7;refine yx (qy vq rfl rfl B70 rfl rfl rfl ?_);rintro wD B7 E4;have h16 : g1 < g6 := by have := B1.lt; omega
 have h67 : g6 < g7 := by have := B6.lt; omega
 have hg7b : wB.heap.size ≤ g7 := G7;refine rnx (srx (mvx rfl (za rfl (zb Tryd.underlying27 rfl sz3 (by decide) rfl (yx (yr (cs' := fcC f p.an p.cn p.ac p.cc p.ai f.ins.length p.ci p.ar p.cr f.rgs.length n) sz3 rfl rfl B7 rfl rfl (Nat.le_of_ble_eq_true rfl) rfl ?_))))));rintro wE B7e E5
 have hX5 : Ext (fun q => wB.heap.size ≤ q) wB wE := ((E3.mono (Y := fun q => wB.heap.size ≤ q) (fun _ h _ => h.elim)).step E4 (fun q hq => Or.inl (show wB.heap.size ≤ q by have := qb hq; omega))).step E5 (fun q hq => Or.inl (show wB.heap.size ≤ q by have := qb hq; omega));have hs1 := E1.size;have hs2 := E2.size
 have hEB : Ext (fun q => lo ≤ q) w wB := (E1.mono (Y := fun q => lo ≤ q) (fun _ h _ => h.elim)).step E2 (fun _ h => h.elim);have hold : ∀ {X : Nat → Prop} {z g : Nat} {t : TypeId} {cs : Array Value}, g < wB.heap.size → X z → wB.heap.size ≤ z → z ≠ g := fun h1 _ h2 h3 => by omega
 have hB1 : ∀ {z}, Ext (fun q => wB.heap.size ≤ q) wB z → Blk z g1 27 (fcC f p.an p.cn p.ac p.cc p.ai f.ins.length p.ci p.ar p.cr f.rgs.length f.regs) := fun k => B1b.ext k (fun h => by have := B1b.lt; have h : wB.heap.size ≤ g1 := h; omega)
 have hFz : ∀ {z}, Ext (fun q => wB.heap.size ≤ q) wB z → FnA n0 z p f := fun k => hF.low (X := fun q => lo ≤ q) ⟨hEB.step k (fun q hq => Or.inl (show lo ≤ q by have hq : wB.heap.size ≤ q := hq; omega)), fun q hq => by have hq : lo ≤ q := hq; omega⟩
 have hmz : ∀ {z}, Ext (fun q => wB.heap.size ≤ q) wB z → IntsA n1 z A m := fun k => hm.low (X := fun q => lo ≤ q) ⟨hEB.step k (fun q hq => Or.inl (show lo ≤ q by have hq : wB.heap.size ≤ q := hq; omega)), fun q hq => by have hq : lo ≤ q := hq; omega⟩;obtain ⟨z6, hz6⟩ : ∃ z6, Blk wB g6 27 z6 ∧ z6.size = 10 := ⟨_, B6, rfl⟩
 have hB6 : ∀ {z}, Ext (fun q => wB.heap.size ≤ q) wB z → Blk z g6 27 z6 := fun k => hz6.1.ext k (fun h => by have := B6.lt; have h : wB.heap.size ≤ g6 := h; omega);have hg7X : ∀ q, Mut [some g7] q → wB.heap.size ≤ q := fun q hq => by have := qb hq; omega
 refine rnx (srx (za rfl (zb Tryd.underlying27 rfl sz22 (by decide) rfl (za rfl (ze Tryd.underlying22 rfl rfl (hB1 hX5) rfl (za rfl (kr (n' := f.names.length) (xs' := strV f.names) Tryd.underlying22 inf9 rfl (by decide) rfl (vg (w := wE) (base := wB.heap.size)) rfl ((hFz hX5).names.reads (hFz hX5).size) strV_one (by omega) rfl (by unfold maxLen; omega) (by omega) hX5.size ?_)))))))
 rintro an cn wF ON E6 N6;have E6' := ext_none E6;have B7f := B7e.ext E6' (fun h => h.elim);refine za rfl (zb Tryd.underlying27 rfl sz22 (by decide) rfl (yx (yr (cs' := fcC f an cn p.ac p.cc p.ai f.ins.length p.ci p.ar p.cr f.rgs.length n) sz22 rfl rfl B7f rfl rfl (Nat.le_of_ble_eq_true rfl) rfl ?_)));rintro wG B7g E7;have ON7 := zo ON B7f (by decide) E7
 have hX7 := (hX5.step E6' (fun _ h => h.elim)).step E7 (fun q hq => Or.inl (hg7X q hq))
 refine rnx (srx (za rfl (zb Tryd.underlying27 rfl sz23 (by decide) rfl (za rfl (ze Tryd.underlying23 rfl rfl (hB1 hX7) rfl (za rfl (kr (n' := f.consts.length) (xs' := conV f.consts) Tryd.underlying23 inf37 rfl (by decide) rfl (vg (w := wG) (base := wB.heap.size)) rfl ((hFz hX7).consts.reads (hFz hX7).size) conV_one (by omega) rfl (by unfold maxLen; omega) (by omega) hX7.size ?_)))))))
 rintro ac cc wH OC E8 N8;have E8' := ext_none E8;have B7h := B7g.ext E8' (fun h => h.elim);have ON8 := yt ON7 E8' (fun _ _ h => h.elim);refine za rfl (zb Tryd.underlying27 rfl sz23 (by decide) rfl (yx (yr (cs' := fcC f an cn ac cc p.ai f.ins.length p.ci p.ar p.cr f.rgs.length n) sz23 rfl rfl B7h rfl rfl (Nat.le_of_ble_eq_true rfl) rfl ?_)));rintro wI B7i E9
 have ON9 := zo ON8 B7h (by decide) E9;have OC9 := zo OC B7h (by decide) E9;have hX9 := (hX7.step E8' (fun _ h => h.elim)).step E9 (fun q hq => Or.inl (hg7X q hq))
 refine rnx (srx (za rfl (zb Tryd.underlying27 rfl ju (by decide) rfl (yx (yr (cs' := fcC f an cn ac cc none 0 0 p.ar p.cr f.rgs.length n) ju rfl rfl B7i rfl rfl (Nat.le_of_ble_eq_true rfl) rfl ?_)))));rintro wJ B7j E10;have ON10 := zo ON9 B7i (by decide) E10;have OC10 := zo OC9 B7i (by decide) E10
 have hX10 := hX9.step E10 (fun q hq => Or.inl (hg7X q hq));refine rnx (srx (za rfl (zb Tryd.underlying27 rfl xj (by decide) rfl (yx (yr (cs' := fcC f an cn ac cc none 0 0 none 0 0 n) xj rfl rfl B7j rfl rfl (Nat.le_of_ble_eq_true rfl) rfl ?_)))));rintro wK B7k E11;have hX11 := hX10.step E11 (fun q hq => Or.inl (hg7X q hq))
 have M0 : CM wB.heap.size g7 g6 z6 f an cn ac cc none 0 [] n none 0 [] wK := ⟨B7k, zo ON10 B7j (by decide) E11, zo OC10 B7j (by decide) E11, vg, InsO.nil, hB6 hX11, fun e => by omega⟩
 refine rnx (zm (srx (za rfl (zb Tryd.underlying27 rfl ju (by decide) rfl (za rfl (ze Tryd.underlying24 rfl rfl (hB1 hX11) rfl (za rfl (yp Tryd.underlying24 rfl (mvx rfl (rnx (zv (qu (ι := Nat × List IB × Option Addr × Nat) (fun (i, is, A2, c2) => [(1, .slice A m.length c), (3, .pointer (some ⟨g1, 0, none⟩)), (6, .pointer (some ⟨g6, 0, none⟩)), (7, .pointer (some ⟨g7, 0, none⟩)), (30, .slice p.ai f.ins.length p.ci), (31, .int .i64 (((f.ins.length : Nat)) : Int)), (32, .int .i64 ((i : Nat) : Int))]) (fun (i, is, A2, c2) w' => i ≤ f.ins.length ∧ Ext (fun q => wB.heap.size ≤ q) wB w' ∧ CM wB.heap.size g7 g6 z6 f an cn ac cc none 0 [] n A2 c2 is w' ∧ is.map (·.1) = (f.ins.map (qr m)).take i) (fun (i, _) => f.ins.length - i) (0, [], none, 0) ⟨rfl, rfl, rfl, rfl, rfl, rfl, rfl, trivial⟩ (⟨Nat.zero_le _, hX11, M0, rfl⟩) ?_))))))))))))
 rintro ⟨i, is, A2, c2⟩ w2 ⟨hil2, hEi, Mi, hisi⟩;have hisl : is.length = i := by have h := congrArg List.length hisi; rw [List.length_map, List.length_take, List.length_map] at h; omega
 refine srx (za rfl (yy rfl rfl (rnx (zm (zw rfl (fun hi => ?_) (fun hi => ?_))))))
 ·
  have hi := of_decide_eq_true hi;have hilt : i < f.ins.length := by omega
  obtain ⟨x, hx⟩ : ∃ x, f.ins[i]? = some x := ⟨_, List.getElem?_eq_getElem hilt⟩;have hFi := hFz hEi;obtain ⟨gi, oi, hAi, hgi, hcx⟩ := hFi.ins.row.at hx;obtain ⟨hI, B, cB, hcB, hl, hcells⟩ := hcx;obtain ⟨pd, pa, pb, pl⟩ := place_in hR (List.mem_of_getElem? hx);obtain ⟨wi, hwi⟩ : ∃ wi, wi = w2 := ⟨_, rfl⟩;subst hwi
  refine zq (zh (zm (zv (srx (za rfl (yh (j := i) Tryd.underlying24 vv (congrArg (fun z ↦ some (Value.slice z f.ins.length p.ci)) hAi) rfl rfl hilt (za rfl (vt (cs := (gh x B cB).toArray) Tryd.underlying41 rfl vv rfl rfl (fun j v hj ↦ hcells j v (by simpa using hj)) (za rfl (qa zix ?_))))))))));rintro g9 wL B90 E13 G9
  refine yx (qy vv rfl rfl B90 rfl rfl rfl ?_);rintro wM B9 E14;have hg9 : ∀ q, Mut [some g9] q → wi.heap.size ≤ q := fun q hq => by have := qb hq; omega
  have hK14 : Ext (fun q => wi.heap.size ≤ q) wi wM := (E13.mono (Y := fun q => wi.heap.size ≤ q) (fun _ h _ => h.elim)).step E14 (fun q hq => Or.inl (hg9 q hq))
  refine rnx (srx (za rfl (zb Tryd.underlying41 rfl sz3 (by decide) rfl (za rfl (ze Tryd.underlying3 rfl rfl B9 rfl (za rfl (jn (cs := #[.int .i64 x.op, .int .i64 0, .int .i64 0, .int .i64 0, .int .i64 0, .int .i64 0, .slice none 0 0]) pl41 zix rfl rfl (za rfl (ya en35 rfl (((zgz _ ⟨x.op, 0, 0, 0, 0, 0, []⟩ none 0 0 (IntsA.nil _ _ _) (Nat.zero_le _)).mono (fun _ _ h => ret_int h)).mono ?_))))))))))
  rintro e w3 ⟨Ar, cr0, rfl, hb⟩;refine ⟨_, rfl, ?_⟩;have E15 := Ext.of_below hb No;have B9b := B9.ext E15 (fun h => h.elim);have hK15 := hK14.step E15 (fun _ h => h.elim);obtain ⟨wX, hwX⟩ : ∃ wX, wX = w3 := ⟨_, rfl⟩;subst hwX
  refine za rfl (yp Tryd.underlying28 rfl (anx rfl (zm (qd 10 (.int .i64 ((km x.op : Nat) : Int)) rfl ((by rw [bare_reads] : (.int .i64 ((((yg ⟨x.op, 0, 0, 0, 0, 0, []⟩).length : Nat)) : Int) : Value) = _)) (zcx (ι := Unit) (fun _ => [(1, .slice A m.length c), (3, .pointer (some ⟨g1, 0, none⟩)), (6, .pointer (some ⟨g6, 0, none⟩)), (7, .pointer (some ⟨g7, 0, none⟩)), (9, .pointer (some ⟨g9, 0, none⟩)), (10, .int .i64 ((km x.op : Nat) : Int)), (11, .bool (uL x.op)), (30, .slice p.ai f.ins.length p.ci), (31, .int .i64 (((f.ins.length : Nat)) : Int)), (32, .int .i64 ((i : Nat) : Int))]) (fun _ w' => Ext No wX w') ?_ ?_)))))
  ·
   refine zp (za rfl (zb Tryd.underlying41 rfl sz3 (by decide) rfl (za rfl (ze Tryd.underlying3 rfl rfl B9b rfl (za rfl (qx rfl rfl (mvx rfl (yv 44 rfl (fun h35 => ?_) (fun h35 => ?_)))))))))
   ·
    refine za rfl (zc rfl (za rfl (zc rfl (za rfl (zc rfl (za rfl (zc rfl (za rfl (zc rfl (za rfl (zc rfl (za rfl (zc rfl (za rfl (zc rfl (za rfl (zr rfl rfl (avx rfl (yj (zlq 11 (.bool (uL x.op)) rfl ((by rw [named_35 h35] : (.bool true : Value) = _)) ?_))))))))))))))))))))
    exact jl () ⟨rfl, rfl, rfl, rfl, rfl, rfl, rfl, rfl, rfl, rfl, trivial⟩ (Ext.refl _ _)
   ·
    refine onx rfl (zb Tryd.underlying41 rfl sz3 (by decide) rfl (onx rfl (ze Tryd.underlying3 rfl rfl B9b rfl (onx rfl (yu (cs := #[.int .i64 0]) Tryd.underlying28 sz3 zr3 (by decide) rfl (by rw [qk]; rfl) ?_)))));rintro gq wY Bq Ez Gq
    refine onx rfl (jn (cs := #[.int .i64 x.op, .int .i64 0, .int .i64 0, .int .i64 0, .int .i64 0, .int .i64 0, .slice (some ⟨gq, 0, none⟩) 1 1]) pl41 zix rfl rfl (onx rfl (ya en35 rfl (((zgz _ ⟨x.op, 0, 0, 0, 0, 0, [0]⟩ (some ⟨gq, 0, none⟩) 1 _ (zek (xs := [0]) Bq Bq.lt (by show 8 * 1 ≤ _; decide) (fun y hy => by rw [List.mem_singleton.1 hy]; decide)) (Nat.le_refl _)).mono (fun _ _ h => ret_int h)).mono ?_))))
    rintro e w6 ⟨Ar2, cr2, rfl, hb⟩;refine ⟨_, rfl, (onx rfl (yp Tryd.underlying28 rfl (onx rfl (zl rfl (onx rfl (xc rfl rfl (za rfl (zz rfl rfl (avx rfl (yj (zlq 11 (.bool (uL x.op)) rfl ((by rw [← named_ne h35] : (.bool (decide (((km x.op : Nat) : Int) < ((((yg ⟨x.op, 0, 0, 0, 0, 0, [0]⟩).length : Nat)) : Int))) : Value) = _)) ?_)))))))))))⟩
    exact jl () ⟨rfl, rfl, rfl, rfl, rfl, rfl, rfl, rfl, rfl, rfl, trivial⟩ (Ez.trans (Ext.of_below hb No))
  ·
   rintro _ w5 hEm;have B9c := B9b.ext hEm (fun h => h.elim);have hKm := hK15.step hEm (fun _ h => h.elim);have hlm : IntsA n0 w5 B x.l := ((((hl.low (X := No) ⟨E13, fun _ h => h.elim⟩).low (X := Mut [some g9]) ⟨E14, fun q hq => by have := hg9 q hq; have := hFi.size; omega⟩).low (X := No) ⟨E15, fun _ h => h.elim⟩)).low (X := No) ⟨hEm, fun _ h => h.elim⟩
   refine srx (za rfl (zb Tryd.underlying41 rfl ziz (by decide) rfl (za rfl (ze Tryd.underlying28 rfl rfl B9c rfl (za rfl (kr (n' := x.l.length) (xs' := yq x.l) Tryd.underlying28 inf3 rfl (by decide) rfl (vg (w := w5) (base := wi.heap.size)) rfl (hlm.reads (by have := hFi.size; have := hKm.size; omega)) kf (by omega) rfl (by unfold maxLen; omega) (by omega) hKm.size ?_))))))
   rintro A4 c4 wN OL E16 N16;have E16' := ext_none E16;have B9d := B9c.ext E16' (fun h => h.elim);have hK16 := hKm.step E16' (fun _ h => h.elim);have OL0 : wN.ownsRow wi.heap.size 3 1 (.slice A4 x.l.length c4) x.l.length (yq (midL (uL x.op) m x.l 0)) := by rw [midL_0]; exact OL
   refine anx rfl (zm (srx (mvx rfl (za rfl (yp Tryd.underlying28 rfl (mvx rfl (rnx (zv (qu (ι := Nat) (fun k => [(1, .slice A m.length c), (3, .pointer (some ⟨g1, 0, none⟩)), (6, .pointer (some ⟨g6, 0, none⟩)), (7, .pointer (some ⟨g7, 0, none⟩)), (9, .pointer (some ⟨g9, 0, none⟩)), (10, .int .i64 ((km x.op : Nat) : Int)), (11, .bool (uL x.op)), (12, .slice A4 x.l.length c4), (30, .slice p.ai f.ins.length p.ci), (31, .int .i64 (((f.ins.length : Nat)) : Int)), (32, .int .i64 ((i : Nat) : Int)), (58, .int .i64 (((x.l.length : Nat)) : Int)), (59, .int .i64 ((k : Nat) : Int))]) (fun k w' => k ≤ x.l.length ∧ Ext (fun q => wi.heap.size ≤ q) wi w' ∧ Blk w' g9 41 (gh x B cB).toArray ∧ w'.ownsRow wi.heap.size 3 1 (.slice A4 x.l.length c4) x.l.length (yq (midL (uL x.op) m x.l k))) (fun k => x.l.length - k) 0 ⟨rfl, rfl, rfl, rfl, rfl, rfl, rfl, rfl, rfl, rfl, rfl, rfl, rfl, trivial⟩ (⟨Nat.zero_le _, hK16, B9d, OL0⟩) ?_)))))))))
   rintro k w8 ⟨hkl, hKk, B9k, OLk⟩;refine srx (za rfl (yy rfl rfl (rnx (zm (zw rfl (fun hk => ?_) (fun hk => ?_))))))
   ·
    have hk := of_decide_eq_true hk;have hklt : k < x.l.length := by omega
    obtain ⟨y, hy⟩ : ∃ y, x.l[k]? = some y := ⟨_, List.getElem?_eq_getElem hklt⟩;refine zq (zh (zm (zv (srx (mvx rfl (anx rfl (srx (mvx rfl (rnx (zw rfl (fun hu => ?_) (fun hu => ?_)))))))))))
    ·
     have hrg := pl hu y (List.mem_of_getElem? hy);rw [hu] at OLk;obtain ⟨g4, hA4, hg4a, hg4b, hc4⟩ := jk OLk (by omega);have hcy := hc4 k (.int .i64 y) (by unfold yq; rw [List.getElem?_map, midL_at hy]; rfl);have hmk := hmz (hEi.step hKk (fun q hq => Or.inl (show wB.heap.size ≤ q by have := hEi.size; have hq : wi.heap.size ≤ q := hq; omega)))
     obtain ⟨gm, om, hAm, hgm, hcm⟩ := hmk.cell (ol hR hrg.1 hrg.2)
     refine zp (mvx rfl (mvx rfl (mvx rfl (mvx rfl (mvx rfl (za rfl (zj (j := k) Tryd.underlying28 sz3 (congrArg (fun z ↦ some (Value.slice z x.l.length c4)) hA4) rfl rfl hklt (za rfl (zt Tryd.underlying3 rfl rfl (by rw [Nat.zero_add]; exact hcy) (za rfl (zj (j := y.toNat) Tryd.underlying28 sz3 (congrArg (fun z ↦ some (Value.slice z m.length c)) hAm) rfl (by omega) (by omega) (za rfl (zt Tryd.underlying3 rfl rfl hcm (za rfl (zj (j := k) Tryd.underlying28 sz3 (congrArg (fun z ↦ some (Value.slice z x.l.length c4)) hA4) rfl rfl hklt ?_)))))))))))))))
     rw [hA4] at OLk;refine yx (ow_storeO (xs' := yq (midL (uL x.op) m x.l (k + 1))) sz3 rfl rfl OLk hklt rfl rfl (by rw [intsV_set, hu, midL_set hy]) ?_);rintro wO OLs Es;have B9s := vk B9k OLk (by decide) (by exact Es);refine yj (zk (zh (zp (za rfl (qe rfl rfl (zy (by omega)) (mvx rfl (yj ?_)))))))
     exact yo (k + 1) (by show x.l.length - (k + 1) < x.l.length - k; omega) ⟨rfl, rfl, rfl, rfl, rfl, rfl, rfl, rfl, rfl, rfl, rfl, rfl, rfl, trivial⟩ (⟨hklt, hKk.step Es (fun q hq => Or.inl (show wi.heap.size ≤ q by have := qb hq; omega)), B9s, by rw [hA4]; exact OLs⟩)
    ·
     refine zq (zk (zh (zp (za rfl (qe rfl rfl (zy (by omega)) (mvx rfl (yj ?_)))))));exact yo (k + 1) (by show x.l.length - (k + 1) < x.l.length - k; omega) ⟨rfl, rfl, rfl, rfl, rfl, rfl, rfl, rfl, rfl, rfl, rfl, rfl, rfl, trivial⟩ (⟨hklt, hKk, B9k, by rw [hu, midL_no] at OLk ⊢; exact OLk⟩)
   ·
    have hk := of_decide_eq_false hk;have hke : k = x.l.length := by omega
    rw [hke, midL_end] at OLk;obtain ⟨wP, hwP⟩ : ∃ wP, wP = w8 := ⟨_, rfl⟩;subst hwP
    refine qn (zi (zi (zx (zh (zm (zm (zcx (ι := Unit) (fun _ => [(1, .slice A m.length c), (3, .pointer (some ⟨g1, 0, none⟩)), (6, .pointer (some ⟨g6, 0, none⟩)), (7, .pointer (some ⟨g7, 0, none⟩)), (9, .pointer (some ⟨g9, 0, none⟩)), (10, .int .i64 ((km x.op : Nat) : Int)), (12, .slice A4 x.l.length c4), (30, .slice p.ai f.ins.length p.ci), (31, .int .i64 (((f.ins.length : Nat)) : Int)), (32, .int .i64 ((i : Nat) : Int)), (82, .bool (uD x.op))]) (fun _ w' => Ext No wP w') ?_ ?_)))))))
    ·
     refine zp (za rfl (zb Tryd.underlying41 rfl sz3 (by decide) rfl (za rfl (ze Tryd.underlying3 rfl rfl B9k rfl (za rfl (qs rfl rfl (mvx rfl (yv 77 rfl (fun h35 => ?_) (fun h35 => ?_)))))))))
     ·
      refine onx rfl (yf Tryd.underlying41 rfl vv rfl B9k rfl (onx rfl (ya en39 rfl (((zak _ x B cB n0 (hl.low (X := fun q => wi.heap.size ≤ q) ⟨hKk, fun q hq => by have := hFi.size; have hq : wi.heap.size ≤ q := hq; omega⟩) (by have := hFi.size; have := hKk.size; omega)).mono (fun _ _ h => ret_int h)).mono ?_))));rintro e w11 ⟨Aw, cw, rfl, hb⟩
      refine ⟨_, rfl, (onx rfl (yp Tryd.underlying28 rfl (onx rfl (xc rfl rfl (za rfl (zr rfl rfl (yj (zlq 82 (.bool (uD x.op)) rfl ((by rw [← wr_ne h35] : (.bool (decide (0 < ((((yn x).length : Nat)) : Int))) : Value) = _)) ?_))))))))⟩;exact jl () ⟨rfl, rfl, rfl, rfl, rfl, rfl, rfl, rfl, rfl, rfl, rfl, trivial⟩ (Ext.of_below hb No)
     ·
      refine za rfl (zc rfl (za rfl (zc rfl (za rfl (zc rfl (za rfl (zc rfl (za rfl (zz rfl rfl (yj (zlq 82 (.bool (uD x.op)) rfl ((by rw [wr_35 h35] : (.bool false : Value) = _)) ?_)))))))))));exact jl () ⟨rfl, rfl, rfl, rfl, rfl, rfl, rfl, rfl, rfl, rfl, rfl, trivial⟩ (Ext.refl _ _)
    ·
     rintro _ w10 hEn;have B9n := B9k.ext hEn (fun h => h.elim);have OLn := yt OLk hEn (fun _ _ h => h.elim);have hKn := hKk.step hEn (fun _ h => h.elim);obtain ⟨wQ, hwQ⟩ : ∃ wQ, wQ = w10 := ⟨_, rfl⟩;subst hwQ;have hmq := hmz (hEi.step hKn (fun q hq => Or.inl (show wB.heap.size ≤ q by have := hEi.size; have hq : wi.heap.size ≤ q := hq; omega)))
     refine zcx (ι := Unit) (fun _ => [(1, .slice A m.length c), (3, .pointer (some ⟨g1, 0, none⟩)), (6, .pointer (some ⟨g6, 0, none⟩)), (7, .pointer (some ⟨g7, 0, none⟩)), (9, .pointer (some ⟨g9, 0, none⟩)), (10, .int .i64 ((km x.op : Nat) : Int)), (12, .slice A4 x.l.length c4), (30, .slice p.ai f.ins.length p.ci), (31, .int .i64 (((f.ins.length : Nat)) : Int)), (32, .int .i64 ((i : Nat) : Int))]) (fun _ w' => Ext (Mut [some g9]) wQ w' ∧ Blk w' g9 41 (gh ⟨x.op, (qr m x).d, x.a, x.b, x.t, x.k, x.l⟩ B cB).toArray) ?_ ?_
     ·
      refine zw rfl (fun hu => ?_) (fun hu => ?_)
      ·
       refine zp (mvx rfl (za rfl (zb Tryd.underlying41 rfl sz3 (by decide) rfl (za rfl (ze Tryd.underlying3 rfl rfl B9n rfl ?_)))));have hrg := pd hu;obtain ⟨gm, om, hAm, hgm, hcm⟩ := hmq.cell (ol hR hrg.1 hrg.2)
       refine za rfl (zj (j := (x.d).toNat) Tryd.underlying28 sz3 (congrArg (fun z ↦ some (Value.slice z m.length c)) hAm) rfl (by show x.d = (((x.d).toNat : Nat) : Int); omega) (by omega) (za rfl (zt Tryd.underlying3 rfl rfl hcm (za rfl (zb Tryd.underlying41 rfl sz3 (by decide) rfl (yx (yr (cs' := (gh ⟨x.op, mAt m x.d, x.a, x.b, x.t, x.k, x.l⟩ B cB).toArray) sz3 rfl rfl B9n rfl rfl (Nat.le_of_ble_eq_true rfl) rfl ?_)))))))
       rintro wV Bv Ev;refine yj ?_;exact jl () ⟨rfl, rfl, rfl, rfl, rfl, rfl, rfl, rfl, rfl, rfl, trivial⟩ (⟨Ev, by rw [show (qr m x).d = mAt m x.d from if_pos hu]; exact Bv⟩)
      ·
       refine zq ?_;exact jl () ⟨rfl, rfl, rfl, rfl, rfl, rfl, rfl, rfl, rfl, rfl, trivial⟩ (⟨Ext.refl _ _, by rw [show (qr m x).d = x.d from if_neg (by rw [hu]; decide)]; exact B9n⟩)
     ·
      rintro _ w13 ⟨hEq, B9q⟩;have OLq := zo OLn B9n (by decide) hEq;have hKq := hKn.step hEq (fun q hq => Or.inl (hg9 q hq));obtain ⟨wR, hwR⟩ : ∃ wR, wR = w13 := ⟨_, rfl⟩;subst hwR;have hmr := hmz (hEi.step hKq (fun q hq => Or.inl (show wB.heap.size ≤ q by have := hEi.size; have hq : wi.heap.size ≤ q := hq; omega)))
      refine zm (srx (mvx rfl (za rfl (xc rfl rfl (rnx (qd 90 (.bool (uA x.op)) rfl ((by rw [bare_0] : (.bool (decide (0 < ((km x.op : Nat) : Int))) : Value) = _)) (zcx (ι := Unit) (fun _ => [(1, .slice A m.length c), (3, .pointer (some ⟨g1, 0, none⟩)), (6, .pointer (some ⟨g6, 0, none⟩)), (7, .pointer (some ⟨g7, 0, none⟩)), (9, .pointer (some ⟨g9, 0, none⟩)), (10, .int .i64 ((km x.op : Nat) : Int)), (12, .slice A4 x.l.length c4), (30, .slice p.ai f.ins.length p.ci), (31, .int .i64 (((f.ins.length : Nat)) : Int)), (32, .int .i64 ((i : Nat) : Int))]) (fun _ w' => Ext (Mut [some g9]) wR w' ∧ Blk w' g9 41 (gh ⟨x.op, (qr m x).d, (qr m x).a, x.b, x.t, x.k, x.l⟩ B cB).toArray) ?_ ?_)))))))
      ·
       refine zw rfl (fun hu => ?_) (fun hu => ?_)
       ·
        refine zp (mvx rfl (za rfl (zb Tryd.underlying41 rfl sz3 (by decide) rfl (za rfl (ze Tryd.underlying3 rfl rfl B9q rfl ?_)))));have hrg := pa hu;obtain ⟨gm, om, hAm, hgm, hcm⟩ := hmr.cell (ol hR hrg.1 hrg.2)
        refine za rfl (zj (j := (x.a).toNat) Tryd.underlying28 sz3 (congrArg (fun z ↦ some (Value.slice z m.length c)) hAm) rfl (by show x.a = (((x.a).toNat : Nat) : Int); omega) (by omega) (za rfl (zt Tryd.underlying3 rfl rfl hcm (za rfl (zb Tryd.underlying41 rfl sz3 (by decide) rfl (yx (yr (cs' := (gh ⟨x.op, (qr m x).d, mAt m x.a, x.b, x.t, x.k, x.l⟩ B cB).toArray) sz3 rfl rfl B9q rfl rfl (Nat.le_of_ble_eq_true rfl) rfl ?_)))))))
        rintro wV Bv Ev;refine yj ?_;exact jl () ⟨rfl, rfl, rfl, rfl, rfl, rfl, rfl, rfl, rfl, rfl, trivial⟩ (⟨Ev, by rw [show (qr m x).a = mAt m x.a from if_pos hu]; exact Bv⟩)
       ·
        refine zq ?_;exact jl () ⟨rfl, rfl, rfl, rfl, rfl, rfl, rfl, rfl, rfl, rfl, trivial⟩ (⟨Ext.refl _ _, by rw [show (qr m x).a = x.a from if_neg (by rw [hu]; decide)]; exact B9q⟩)
      ·
       rintro _ w15 ⟨hEr, B9r⟩;have OLr := zo OLq B9q (by decide) hEr;have hKr := hKq.step hEr (fun q hq => Or.inl (hg9 q hq));obtain ⟨wS, hwS⟩ : ∃ wS, wS = w15 := ⟨_, rfl⟩;subst hwS;have hms := hmz (hEi.step hKr (fun q hq => Or.inl (show wB.heap.size ≤ q by have := hEi.size; have hq : wi.heap.size ≤ q := hq; omega)))
       refine zm (srx (mvx rfl (za rfl (xc rfl rfl (rnx (qd 98 (.bool (uB x.op)) rfl ((by rw [bare_1] : (.bool (decide (1 < ((km x.op : Nat) : Int))) : Value) = _)) (zcx (ι := Unit) (fun _ => [(1, .slice A m.length c), (3, .pointer (some ⟨g1, 0, none⟩)), (6, .pointer (some ⟨g6, 0, none⟩)), (7, .pointer (some ⟨g7, 0, none⟩)), (9, .pointer (some ⟨g9, 0, none⟩)), (10, .int .i64 ((km x.op : Nat) : Int)), (12, .slice A4 x.l.length c4), (30, .slice p.ai f.ins.length p.ci), (31, .int .i64 (((f.ins.length : Nat)) : Int)), (32, .int .i64 ((i : Nat) : Int))]) (fun _ w' => Ext (Mut [some g9]) wS w' ∧ Blk w' g9 41 (gh ⟨x.op, (qr m x).d, (qr m x).a, (qr m x).b, x.t, x.k, x.l⟩ B cB).toArray) ?_ ?_)))))))
       ·
        refine zw rfl (fun hu => ?_) (fun hu => ?_)
        ·
         refine zp (mvx rfl (za rfl (zb Tryd.underlying41 rfl sz3 (by decide) rfl (za rfl (ze Tryd.underlying3 rfl rfl B9r rfl ?_)))));have hrg := pb hu;obtain ⟨gm, om, hAm, hgm, hcm⟩ := hms.cell (ol hR hrg.1 hrg.2)
         refine za rfl (zj (j := (x.b).toNat) Tryd.underlying28 sz3 (congrArg (fun z ↦ some (Value.slice z m.length c)) hAm) rfl (by show x.b = (((x.b).toNat : Nat) : Int); omega) (by omega) (za rfl (zt Tryd.underlying3 rfl rfl hcm (za rfl (zb Tryd.underlying41 rfl sz3 (by decide) rfl (yx (yr (cs' := (gh ⟨x.op, (qr m x).d, (qr m x).a, mAt m x.b, x.t, x.k, x.l⟩ B cB).toArray) sz3 rfl rfl B9r rfl rfl (Nat.le_of_ble_eq_true rfl) rfl ?_)))))))
         rintro wV Bv Ev;refine yj ?_;exact jl () ⟨rfl, rfl, rfl, rfl, rfl, rfl, rfl, rfl, rfl, rfl, trivial⟩ (⟨Ev, by rw [show (qr m x).b = mAt m x.b from if_pos hu]; exact Bv⟩)
        ·
         refine zq ?_;exact jl () ⟨rfl, rfl, rfl, rfl, rfl, rfl, rfl, rfl, rfl, rfl, trivial⟩ (⟨Ext.refl _ _, by rw [show (qr m x).b = x.b from if_neg (by rw [hu]; decide)]; exact B9r⟩)
       ·
        rintro _ w17 ⟨hEs, B9s⟩;have OLs := zo OLr B9r (by decide) hEs;have hKs := hKr.step hEs (fun q hq => Or.inl (hg9 q hq));have hpl : (qr m x).l.length = x.l.length := by
         show (if uL x.op = true then x.l.map (mAt m) else x.l).length = _
         split
         · rw [List.length_map]
         · rfl
        obtain ⟨x9, hx9⟩ : ∃ x9 : IB, x9 = (qr m x, A4, c4) := ⟨_, rfl⟩
        refine srx (mvx rfl (za rfl (zb Tryd.underlying41 rfl ziz (by decide) rfl (yx (yr (cs' := (gh (qr m x) A4 c4).toArray) ziz rfl rfl B9s rfl rfl (Nat.le_of_ble_eq_true rfl) (by rw [show (gh (qr m x) A4 c4) = [.int .i64 x.op, .int .i64 (qr m x).d, .int .i64 (qr m x).a, .int .i64 (qr m x).b, .int .i64 x.t, .int .i64 x.k, .slice A4 (qr m x).l.length c4] from rfl, hpl]; rfl) ?_)))))
        rintro wT B9t E20;have OLt := zo OLs B9s (by decide) E20;have hKt := hKs.step E20 (fun q hq => Or.inl (hg9 q hq));have Mt := Mi.late hKt (fun _ h => h);have hEt := hEi.step hKt (fun q hq => Or.inl (show wB.heap.size ≤ q by have := hEi.size; have hq : wi.heap.size ≤ q := hq; omega));have hO9 : wT.ownsRow wB.heap.size 3 1 (liV x9) x9.1.l.length (yq x9.1.l) := by
         rw [hx9];show wT.ownsRow wB.heap.size 3 1 (.slice A4 (qr m x).l.length c4) (qr m x).l.length (yq (qr m x).l)
         rw [hpl];exact vu OLt hEi.size
        have hap9 : ∀ y ∈ is, ∀ q, (liV y).ownBlock = some q → (liV x9).ownBlock ≠ some q := fun y hy q hq h9 => by
         have h1 := Mi.lt hy hq;rw [hx9] at h9;have h9 : (Value.slice A4 (qr m x).l.length c4).ownBlock = some q := h9;rw [hpl] at h9;have h2 := jv OLt q h9;omega
        have hl9 : (is ++ [x9]).length = is.length + 1 := by rw [List.length_append]; rfl
        refine rnx (zp (za rfl (zb Tryd.underlying27 rfl ju (by decide) rfl (za rfl (ze Tryd.underlying24 rfl rfl Mt.fb rfl (za rfl (yf Tryd.underlying41 rfl vv rfl B9t rfl (za rfl (yu (cs := #[.int .i64 x.op, .int .i64 (qr m x).d, .int .i64 (qr m x).a, .int .i64 (qr m x).b, .int .i64 x.t, .int .i64 x.k, .slice A4 (qr m x).l.length c4]) Tryd.underlying24 vv zix (by decide) rfl (fill1x7 (.int .i64 x.op) (.int .i64 (qr m x).d) (.int .i64 (qr m x).a) (.int .i64 (qr m x).b) (.int .i64 x.t) (.int .i64 x.k) (.slice A4 (qr m x).l.length c4)) ?_)))))))))
        rintro g10 wU B10 E21 G10;have M4 := Mt.no E21;have hO21 := yt hO9 E21 (fun _ _ h => h.elim)
        refine za rfl (kr (n' := (is ++ [x9]).length) (xs' := kg (is ++ [x9])) Tryd.underlying24 inf41 rfl (by decide) rfl M4.ins.i rfl (zkx B10 B10.lt rfl) (by simp [Value.oneCell']) hl9.symm (by rw [← insCs_add, hx9]; rfl) (by rw [hl9]; unfold maxLen; omega) (by rw [hl9]; omega) (by have := hEt.size; have := E21.size; omega) ?_);rintro A5 c5 wV O5 E22 N5
        have Bf := vk M4.fb M4.ins.i (by decide) E22;refine za rfl (zb Tryd.underlying27 rfl ju (by decide) rfl (yx (yr (cs' := fcC f an cn ac cc A5 (is ++ [x9]).length c5 none 0 0 n) ju rfl rfl Bf rfl rfl (Nat.le_of_ble_eq_true rfl) rfl ?_)));rintro wW Bs E23;have M5 := M4.put hO21 hap9 O5 E22 Bs E23
        have hE23 := ((hEt.step E21 (fun _ h => h.elim)).step E22 (fun q hq => Or.inl (show wB.heap.size ≤ q from own_ge M4.ins.i q hq))).step E23 (fun q hq => Or.inl (hg7X q hq));refine yj (zk (zh (zp (za rfl (qe rfl rfl (zy (by omega)) (mvx rfl (yj ?_)))))))
        exact yo (i + 1, is ++ [x9], A5, c5) (by show f.ins.length - (i + 1) < f.ins.length - i; omega) ⟨rfl, rfl, rfl, rfl, rfl, rfl, rfl, trivial⟩ (⟨hilt, hE23, M5, by rw [List.map_append, hisi, List.take_add_one, List.getElem?_map, hx, hx9]; rfl⟩)
 ·
  have hi := of_decide_eq_false hi;have hie : i = f.ins.length := by omega
  rw [hie, List.take_of_length_le (by rw [List.length_map]; exact Nat.le_refl _)] at hisi
  refine qn (zi (zi (zx (zh (zm (srx (za rfl (zb Tryd.underlying27 rfl xj (by decide) rfl (za rfl (ze Tryd.underlying25 rfl rfl (hB1 hEi) rfl (za rfl (yp Tryd.underlying25 rfl (mvx rfl (rnx (zv (qu (ι := Nat × List LReg × Option Addr × Nat) (fun (j, rs, A3, c3) => [(1, .slice A m.length c), (6, .pointer (some ⟨g6, 0, none⟩)), (7, .pointer (some ⟨g7, 0, none⟩)), (115, .slice p.ar f.rgs.length p.cr), (116, .int .i64 (((f.rgs.length : Nat)) : Int)), (117, .int .i64 ((j : Nat) : Int))]) (fun (j, rs, A3, c3) w' => j ≤ f.rgs.length ∧ Ext (fun q => wB.heap.size ≤ q) wB w' ∧ CM wB.heap.size g7 g6 z6 f an cn ac cc A3 c3 rs n A2 c2 is w' ∧ rs = (f.rgs.map (od m)).take j) (fun (j, _) => f.rgs.length - j) (0, [], none, 0) ⟨rfl, rfl, rfl, rfl, rfl, rfl, trivial⟩ (⟨Nat.zero_le _, hEi, Mi, rfl⟩) ?_))))))))))))))))
  rintro ⟨j, rs, A3, c3⟩ w19 ⟨hjl, hEj, Mj, hrs⟩;have hrsl : rs.length = j := by rw [hrs, List.length_take, List.length_map]; omega
  refine srx (za rfl (yy rfl rfl (rnx (zm (zw rfl (fun hj => ?_) (fun hj => ?_))))))
  ·
   have hj := of_decide_eq_true hj;have hjlt : j < f.rgs.length := by omega
   obtain ⟨r, hr⟩ : ∃ r, f.rgs[j]? = some r := ⟨_, List.getElem?_eq_getElem hjlt⟩;have hFj := hFz hEj;obtain ⟨gr, ro, hAr, hgr, hcr⟩ := hFj.rgs.row.at hr;have hrg := sound_rg hR.1 (List.mem_of_getElem? hr);obtain ⟨wi, hwi⟩ : ∃ wi, wi = w19 := ⟨_, rfl⟩;subst hwi
   refine zq (zh (zm (zv (srx (za rfl (yh (j := j) Tryd.underlying25 xi (congrArg (fun z ↦ some (Value.slice z f.rgs.length p.cr)) hAr) rfl rfl hjlt (za rfl (vt (cs := (regV r).toArray) Tryd.underlying50 rfl xi rfl rfl (fun j v hj ↦ hcr j v (by simpa using hj)) (za rfl (qa zr50 ?_))))))))));rintro g9 wL B90 E13 G9
   refine yx (qy xi rfl rfl B90 rfl rfl rfl ?_);rintro wM B9 E14;have hg9 : ∀ q, Mut [some g9] q → wi.heap.size ≤ q := fun q hq => by have := qb hq; omega
   have hK14 : Ext (fun q => wi.heap.size ≤ q) wi wM := (E13.mono (Y := fun q => wi.heap.size ≤ q) (fun _ h _ => h.elim)).step E14 (fun q hq => Or.inl (hg9 q hq));have hmj := hmz (hEj.step hK14 (fun q hq => Or.inl (show wB.heap.size ≤ q by have := hEj.size; have hq : wi.heap.size ≤ q := hq; omega)));obtain ⟨gm, om, hAm, hgm, hcm⟩ := hmj.cell (ol hR hrg.2.2.2.2.2.1 hrg.2.2.2.2.2.2)
   refine rnx (srx (mvx rfl (za rfl (zb Tryd.underlying50 rfl sz3 (by decide) rfl (za rfl (ze Tryd.underlying3 rfl rfl B9 rfl (za rfl (zj (j := r.d.toNat) Tryd.underlying28 sz3 (congrArg (fun z ↦ some (Value.slice z m.length c)) hAm) rfl (by show r.d = ((r.d.toNat : Nat) : Int); omega) (by omega) (za rfl (zt Tryd.underlying3 rfl rfl hcm (za rfl (zb Tryd.underlying50 rfl sz3 (by decide) rfl (yx (yr (cs' := (regV (od m r)).toArray) sz3 rfl rfl B9 rfl rfl (Nat.le_of_ble_eq_true rfl) rfl ?_))))))))))))))
   rintro wN B9n E15;have hK15 := hK14.step E15 (fun q hq => Or.inl (hg9 q hq));have Mt := Mj.late hK15 (fun _ h => h);have hEt := hEj.step hK15 (fun q hq => Or.inl (show wB.heap.size ≤ q by have := hEj.size; have hq : wi.heap.size ≤ q := hq; omega));have hl9 : (rs ++ [od m r]).length = rs.length + 1 := by rw [List.length_append]; rfl
   refine rnx (zp (za rfl (zb Tryd.underlying27 rfl xj (by decide) rfl (za rfl (ze Tryd.underlying25 rfl rfl Mt.fb rfl (za rfl (yf Tryd.underlying50 rfl xi rfl B9n rfl (za rfl (yu (cs := #[.int .i64 r.fr, .int .i64 r.to, .int .i64 r.tg, .int .i64 (mAt m r.d)]) Tryd.underlying25 xi zr50 (by decide) rfl (by rw [qk]; rfl) ?_)))))))))
   rintro g10 wU B10 E21 G10;have M4 := Mt.no E21
   refine za rfl (kr (n' := (rs ++ [od m r]).length) (xs' := rgsV (rs ++ [od m r])) Tryd.underlying25 inf50 rfl (by decide) rfl M4.rgs rfl (zkx B10 B10.lt rfl) (by simp [Value.oneCell']) hl9.symm (by unfold rgsV; rw [List.flatMap_append]; rfl) (by rw [hl9]; unfold maxLen; omega) (by rw [hl9]; omega) (by have := hEt.size; have := E21.size; omega) ?_)
   rintro A5 c5 wV O5 E22 N5;have Bf := vk M4.fb M4.rgs (by decide) E22;refine za rfl (zb Tryd.underlying27 rfl xj (by decide) rfl (yx (yr (cs' := fcC f an cn ac cc A2 is.length c2 A5 c5 (rs ++ [od m r]).length n) xj rfl rfl Bf rfl rfl (Nat.le_of_ble_eq_true rfl) rfl ?_)));rintro wW Bs E23;have M5 := M4.putR O5 E22 Bs E23
   have hE23 := ((hEt.step E21 (fun _ h => h.elim)).step E22 (fun q hq => Or.inl (show wB.heap.size ≤ q from own_ge M4.rgs q hq))).step E23 (fun q hq => Or.inl (hg7X q hq));refine yj (zk (zh (zp (za rfl (qe rfl rfl (zy (by omega)) (mvx rfl (yj ?_)))))))
   exact yo (j + 1, rs ++ [od m r], A5, c5) (by show f.rgs.length - (j + 1) < f.rgs.length - j; omega) ⟨rfl, rfl, rfl, rfl, rfl, rfl, trivial⟩ (⟨hjlt, hE23, M5, by rw [hrs, List.take_add_one, List.getElem?_map, hr]; rfl⟩)
  ·
   have hj := of_decide_eq_false hj;have hje : j = f.rgs.length := by omega
   rw [hje, List.take_of_length_le (by rw [List.length_map]; exact Nat.le_refl _)] at hrs;refine qn (zi (zi (zx (zh (srx (za rfl (yf Tryd.underlying27 rfl vq rfl Mj.fb rfl (yx (qy vq rfl rfl Mj.gb rfl rfl hz6.2.symm ?_)))))))));rintro wZ Bz EZ;have hbase : lo ≤ wB.heap.size := by omega
   have hFO : FnO lo wZ ⟨an, cn, ac, cc, A2, c2, A3, c3, is⟩ (zex f m n) := ⟨vu (zo Mj.names Mj.gb (by decide) EZ) hbase, vu (zo Mj.consts Mj.gb (by decide) EZ) hbase, ⟨vu (zo Mj.ins.i Mj.gb (by decide) EZ) hbase, fun x hx => vu (zo (Mj.ins.l x hx) Mj.gb (by decide) EZ) hbase, Mj.ins.ap⟩, hisi, by
    have h := vu (zo Mj.rgs Mj.gb (by decide) EZ) hbase;rw [hrs] at h;exact h⟩
   have hFin := (hEB.step hEj (fun q hq => Or.inl (show lo ≤ q by have hq : wB.heap.size ≤ q := hq; omega))).step EZ (fun q hq => Or.inl (show lo ≤ q by have := qb hq; omega));have hisn : is.length = (f.ins.map (qr m)).length := by rw [← hisi, List.length_map]
   have hval : Value.agg (fcC f an cn ac cc A2 is.length c2 A3 c3 rs.length n) = fnV (QP.pl ⟨an, cn, ac, cc, A2, c2, A3, c3, is⟩) (zex f m n) := by rw [hisn, hrs]; rfl
   refine rnx (yc (yb (rs := [.cell 6 27]) (vs := [_]) rfl ⟨⟨_, rfl, zmv Tryd.underlying27 rfl vq Bz rfl⟩, trivial⟩ ?_));exact ⟨⟨an, cn, ac, cc, A2, c2, A3, c3, is⟩, by rw [← hval]; rfl, hlo ▸ hFO, hFin.below (fun q h => by rw [hlo] at h; exact h)⟩
end
end Go.Proofs.YtppdgjlmeahimaaDoor
namespace Go.Proofs.YtppdgjlmeahimaaDoor
open Go.RowKit
set_option maxRecDepth 100000
attribute [local irreducible] OW RS
def nilF : LFn := ⟨.empty, 0, 0, 0, false, 0, [], [], [], []⟩
def nilP : Pl := ⟨none, 0, none, 0, none, 0, none, 0⟩
theorem rightB_no {f : LFn} {m : List Int} {n : Int} (h : ¬ jg f m n) : zjv f m n = false := @decide_eq_false _ (Classical.propDecidable _) h
theorem FnO.base {lo lo' : Nat} {w : World} {q : QP} {f : LFn} (h : FnO lo w q f) (hl : lo' ≤ lo) : FnO lo' w q f :=
 ⟨vu h.names hl, vu h.consts hl, ⟨vu h.ins.i hl, fun x hx => vu (h.ins.l x hx) hl, h.ins.ap⟩, h.ise, vu h.rgs hl⟩
section
variable (w : World) (p : Pl) (f : LFn) (n0 : Nat) (hF : FnA n0 w p f) (A : Option Addr) (c n1 : Nat) (m : List Int) (hm : IntsA n1 w A m) (n : Int) (hn : I64 n) (hn1 : n1 ≤ w.heap.size) (hD : DbT w)
include hF hm hn hn1 hD
theorem apply_any : Calls Tryd.prog 13 #[fnV p f, .slice A m.length c, .int .i64 n] w fun e w' => Below w.heap.size w w' ∧ (¬ jg f m n → e = .returned (.tuple #[fnV nilP nilF, .int .i64 3])) ∧
 (jg f m n → ∃ q, e = .returned (.tuple #[fnV q.pl (zex f m n), .int .i64 0]) ∧ FnO w.heap.size w' q (zex f m n)) := by
 refine qw Tryd.func13 rfl Tryd.ntmps13 rfl (srx (za rfl (vd rfl ?_)));rintro g1 wA B1 E1 G1;refine za rfl (qa zr27 ?_);rintro g6 wB B6 E2 G6;have B1b : Blk wB g1 27 (fcC f p.an p.cn p.ac p.cc p.ai f.ins.length p.ci p.ar p.cr f.rgs.length f.regs) := B1.ext E2 (fun h => h.elim);have hE : Ext No w wB := E1.trans E2;have hFB := hF.low (X := No) ⟨hE, fun _ h => h.elim⟩
 have hmB := hm.low (X := No) ⟨hE, fun _ h => h.elim⟩;have hDB : DbT wB := Per.dbT hD (X := No) (fun _ h => h.elim) _ hE;have hsB := hE.size;have h6B := B6.lt;have h6g : w.heap.size ≤ g6 := by have := E1.size; omega
 refine anx rfl (zm (srx (za rfl (yf Tryd.underlying27 rfl vq rfl B1b rfl (mvx rfl (mvx rfl (za rfl (ya en9 rfl ((right_b hFB c hmB hn (Nat.le_trans hn1 hsB) hDB).mono ?_)))))))));rintro e w1 ⟨rfl, hb⟩;refine ⟨_, rfl, ?_⟩;have E3 := Ext.of_below hb No;have hE3 := hE.trans E3;have B1c := B1b.ext E3 (fun h => h.elim);have B6c := B6.ext E3 (fun h => h.elim)
 by_cases hR : jg f m n
 ·
  refine vc 11 (.bool true) rfl ((by rw [rightB_yes hR] : (.bool (zjv f m n) : Value) = _)) (za rfl (ke rfl (rnx (qz rfl (zq (zh (srx (za rfl (yf Tryd.underlying27 rfl vq rfl B1c rfl (mvx rfl (mvx rfl (za rfl (ya en31 rfl ((place_any _ p f n0 (hFB.low (X := No) ⟨E3, fun _ h => h.elim⟩) A c n1 m (hmB.low (X := No) ⟨E3, fun _ h => h.elim⟩) n hR (by have := E3.size; omega)).mono ?_))))))))))))))
  rintro e w2 ⟨q, rfl, hO, hb⟩;refine ⟨_, rfl, ?_⟩;have E4 := Ext.of_below hb No;have B6d := B6c.ext E4 (fun h => h.elim);have hs3 := E3.size;refine yx (qy vq rfl rfl B6d rfl rfl rfl ?_);rintro wD B6e E5;have hOD := hO.ext E5 (fun b hb hx => by have := hO.bl hb; have := qb hx; omega);have hs4 := E4.size
  refine anx rfl (yc (yb (rs := [.cell 6 27, .tmp 7]) (vs := [_, _]) rfl ⟨⟨_, rfl, zmv Tryd.underlying27 rfl vq B6e rfl⟩, rfl, trivial⟩ ?_))
  exact ⟨((hE3.trans E4).mono (Y := fun q => w.heap.size ≤ q) (fun _ h _ => h.elim) |>.step E5 (fun q hq => Or.inl (show w.heap.size ≤ q by have := qb hq; omega))).below (fun q h => h), fun h => absurd hR h, fun _ => ⟨q, rfl, hOD.base (by omega)⟩⟩
 ·
  refine vc 11 (.bool false) rfl ((by rw [rightB_no hR] : (.bool (zjv f m n) : Value) = _)) (za rfl (ke rfl (rnx (qq rfl (srx (za rfl (jn (cs := #[.string ⟨#[]⟩, .int .i64 0, .int .i64 0, .int .i64 0, .bool false, .int .i64 0, .slice none 0 0, .slice none 0 0, .slice none 0 0, .slice none 0 0]) pl27 zr27 rfl rfl (yx (qy vq rfl rfl B6c rfl rfl rfl ?_)))))))))
  rintro wD B6e E5;refine anx rfl (yc (zd (yb (rs := [.cell 6 27, .tmp 7]) (vs := [_, _]) rfl ⟨⟨_, rfl, zmv Tryd.underlying27 rfl vq B6e rfl⟩, rfl, trivial⟩ ?_)));exact ⟨(hE3.mono (Y := fun q => w.heap.size ≤ q) (fun _ h _ => h.elim) |>.step E5 (fun q hq => Or.inl (show w.heap.size ≤ q by have := qb hq; omega))).below (fun q h => h), fun _ => rfl, fun h => absurd h hR⟩
end
end Go.Proofs.YtppdgjlmeahimaaDoor
